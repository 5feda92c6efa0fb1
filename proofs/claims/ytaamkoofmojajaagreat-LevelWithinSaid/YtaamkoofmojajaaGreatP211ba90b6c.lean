/- A part of the proofs of this seat: G24M5 G24M6 G24M Pln PlnB T18a T18b T18c PlnM KA T18d PevTake PevClaim KB KC. -/
import Derived.Test.YtaamkoofmojajaaGreatP484341cc3c
import Derived.IntWalk
import Derived.Sort.AssemblyPlain
import Derived.ProofKit
import Derived.ChangeArms
import Derived.ReadAgain
import Derived.Deep.Slices
import Derived.OpenShut
import Derived.KernelRfl
set_option linter.unusedVariables false
set_option linter.unusedSimpArgs false
set_option linter.unusedSectionVars false
section
namespace Go.Pev
set_option maxRecDepth 100000
noncomputable section
attribute [local irreducible] KQ H0 Lr Jk ASe ASf ASg Na Pn TC VP RE AQ many IntKind.wrap AM Ak AS A8 Cv DE KU AG CR Cy imax AT Ah
abbrev AOf : AE := [(.tmp 0, .dat U3), (.tmp 1, .dat V3), (.tmp 2, .clo 98 [])]
abbrev AOe : AE := [(.tmp 0, .di), (.tmp 1, .dat .bool)]
abbrev AOd : List RS := [.one, .one]
abbrev AQF : AE := [(.tmp 0, .dat U3), (.tmp 2, .clo 98 []), (.tmp 4, .box 4), (.cell 0 0, .di), (.cell 0 1, .di), (.cell 0 2, .di), (.cell 0 3, .dat .bool), (.tmp 8, .di), (.tmp 9, .di), (.tmp 10, .di)]
abbrev AQE : Az := [(.exit 0, [(.tmp 0, .dat U3), (.tmp 2, .clo 98 []), (.tmp 4, .box 4), (.cell 0 0, .di), (.cell 0 1, .di), (.cell 0 2, .di), (.cell 0 3, .dat .bool), (.tmp 8, .di), (.tmp 9, .di)])]
def AFd [Lk] : (List U2 × Int × Int × Int × Bool × Int × Int × Int × Unit) → Option ((List U2 × Int × Int × Int × Bool × Int × Int × Int × Unit) ⊕ (List U2 × Int × Int × Int × Bool × Int × Int × Unit) ⊕ Unit) := fun (a0, a1, a2, a3, a4, a5, a6, a7, _) =>
 match (ilt a6 a7) with
 | true => match shr? .u64 (IntKind.wrap .u64 (IntKind.wrap .i64 (a6 + a7))) 1 with
  | none => none
  | some x0 => match idx a0 (IntKind.wrap .i64 x0) with
  | none => none
  | some x1 => match FY ((x1.1, (x1.2.1, (x1.2.2.1, (x1.2.2.2.1, ())))), (a1, (a2, (a3, (a4, ())))), ()) with
  | none => none
  | some (y2, _) => match (ilt y2 0) with
  | true => some (.inl (a0, a1, a2, a3, a4, a5, (IntKind.wrap .i64 ((IntKind.wrap .i64 x0) + 1)), a7, ()))
  | false => some (.inl (a0, a1, a2, a3, a4, a5, a6, (IntKind.wrap .i64 x0), ()))
 | false => some (.inr (.inl (a0, a1, a2, a3, a4, a5, a6, ())))
def AOh [Lk] : (List U2 × U2 × Unit) → Option ((Int × Bool × Unit)) := fun (a0, a1, _) =>
 match AY AFd many (a0, a1.1, a1.2.1, a1.2.2.1, a1.2.2.2.1, (AM a0), 0, (AM a0), ()) with
 | none => none
 | some r => match r with
 | .inl (o0, o1, o2, o3, o4, o5, o6, _) => match (ilt o6 o5) with
  | true => match idx o0 o6 with
   | none => none
   | some x7 => match FY ((x7.1, (x7.2.1, (x7.2.2.1, (x7.2.2.2.1, ())))), (o1, (o2, (o3, (o4, ())))), ()) with
   | none => none
   | some (y8, _) => some (o6, (ieq y8 0), ())
  | false => some (o6, false, ())
 | .inr _ => none
def AYl [Lk] := fun v => Lk.f (AOh v)
theorem AYk v : AYl v = AOh v := AJ _
abbrev XQ : AE := [(.tmp 0, .dat Ul), (.tmp 1, .di), (.tmp 2, .di)]
abbrev XP : AE := [(.tmp 0, .di), (.tmp 1, .dat .bool)]
abbrev XO : List RS := [.one, .one]
def XR [Lk] : (Uk × Int × Int × Unit) → Option ((Int × Bool × Unit)) := fun (a0, a1, a2, _) =>
 match AYl (a0.2.1, ((Cy a1 a2), ((imax a1 a2), (0, (false, ())))), ()) with
 | none => none
 | some (y0, y1, _) => some (y0, y1, ())
def AEI [Lk] := fun v => Lk.f (XR v)
theorem ASB v : AEI v = XR v := AJ _
abbrev AEU : AE := [(.tmp 0, .dat Ul), (.tmp 1, .di), (.tmp 2, .di)]
abbrev AET : AE := [(.tmp 0, .di)]
abbrev AES : List RS := [.one]
def AEV [Lk] : (Uk × Int × Int × Unit) → Option (U8) := fun (a0, a1, a2, _) =>
 match Fl ((a0.1, (a0.2.1, ())), ()) with
 | none => none
 | some (y0, _) => match (!y0) with
 | true => some ((-1 : Int), ())
 | false => match AEI ((a0.1, (a0.2.1, ())), a1, a2, ()) with
 | none => none
 | some (y1, y2, _) => match (!y2) with
 | true => some ((-1 : Int), ())
 | false => some (y1, ())
def AIr [Lk] := fun v => Lk.f (AEV v)
theorem AVl v : AIr v = AEV v := AJ _
abbrev AEM : AE := [(.tmp 0, .dat Ul), (.tmp 1, .di), (.tmp 2, .di), (.tmp 3, .dat .bool)]
abbrev AEL : AE := [(.tmp 0, .own 3 U0), (.tmp 1, .di)]
abbrev AEK : List RS := [.one, .one]
abbrev AIl : AE := [(.tmp 1, .di), (.tmp 2, .di), (.tmp 3, .dat .bool), (.tmp 10, .own 3 U0), (.tmp 27, .dat U3), (.tmp 28, .di), (.tmp 29, .di)]
abbrev AIk : Az := [(.exit 1, [(.tmp 10, .own 3 U0)])]
def XT [Lk] : (Int × Int × Bool × List Int × List U2 × Int × Int × Unit) → Option ((Int × Int × Bool × List Int × List U2 × Int × Int × Unit) ⊕ Ua ⊕ Unit) := fun (a0, a1, a2, a3, a4, a5, a6, _) =>
 match (ilt a6 a5) with
 | true => match idx a4 a6 with
  | none => none
  | some x0 => match (!(ieq x0.2.2.1 a1)) with
  | true => some (.inl (a0, a1, a2, a3, a4, a5, (IntKind.wrap .i64 (a6 + 1)), ()))
  | false => match (!(x0.2.2.2.1 == a2)) with
  | true => some (.inl (a0, a1, a2, a3, a4, a5, (IntKind.wrap .i64 (a6 + 1)), ()))
  | false => match (ieq a0 x0.1) with
  | true => match (fits ((AM a3) + (AM ([x0.2.1] : List (Int))))) with
   | true => some (.inl (a0, a1, a2, (A8 a3 ([x0.2.1] : List (Int))), a4, a5, (IntKind.wrap .i64 (a6 + 1)), ()))
   | false => none
  | false => match (ieq a0 x0.2.1) with
  | true => match (fits ((AM a3) + (AM ([x0.1] : List (Int))))) with
   | true => some (.inl (a0, a1, a2, (A8 a3 ([x0.1] : List (Int))), a4, a5, (IntKind.wrap .i64 (a6 + 1)), ()))
   | false => none
  | false => some (.inl (a0, a1, a2, a3, a4, a5, (IntKind.wrap .i64 (a6 + 1)), ()))
 | false => some (.inr (.inl (a3, ())))
def AEO [Lk] : (Uk × Int × Int × Bool × Unit) → Option (Un) := fun (a0, a1, a2, a3, _) =>
 match Fl ((a0.1, (a0.2.1, ())), ()) with
 | none => none
 | some (y0, _) => match (!y0) with
 | true => some (([] : List (Int)), 1, ())
 | false => match (ilt a1 0) with
 | true => some (([] : List (Int)), 10, ())
 | false => match (ile a0.1 a1) with
 | true => some (([] : List (Int)), 10, ())
 | false => match AY XT many (a1, a2, a3, ([] : List (Int)), a0.2.1, (AM a0.2.1), 0, ()) with
 | none => none
 | some r => match r with
 | .inl (o1, _) => match APB (o1, ()) with
  | none => none
  | some (y2, _) => some (y2, 0, ())
 | .inr _ => none
def AIm [Lk] := fun v => Lk.f (AEO v)
theorem AVj v : AIm v = AEO v := AJ _
abbrev Qs : AE := [(.tmp 0, .dat Ul)]
abbrev Qr : AE := [(.tmp 0, .own 3 U0), (.tmp 1, .own 3 U0)]
abbrev Qq : List RS := [.one, .one]
abbrev Xj : AE := [(.tmp 2, .own 3 U0), (.tmp 3, .own 3 U0), (.tmp 4, .map U9 U0), (.tmp 35, .di), (.tmp 36, .di)]
abbrev Xh : Az := [(.exit 2, [(.tmp 2, .own 3 U0), (.tmp 3, .own 3 U0)])]
def Md [Lk] : (List Int × List Int × List (U5 × Int) × Int × Int × Unit) → Option ((List Int × List Int × List (U5 × Int) × Int × Int × Unit) ⊕ Uy ⊕ Unit) := fun (a0, a1, a2, a3, a4, _) =>
 match (ilt a4 a3) with
 | true => match (fits ((AM a0) + (AM ([((AT a2 (a4, (1, ()))).getD 0)] : List (Int))))) with
  | true => match (fits ((AM a1) + (AM ([((AT a2 (a4, (0, ()))).getD 0)] : List (Int))))) with
   | true => some (.inl ((A8 a0 ([((AT a2 (a4, (1, ()))).getD 0)] : List (Int))), (A8 a1 ([((AT a2 (a4, (0, ()))).getD 0)] : List (Int))), a2, a3, (IntKind.wrap .i64 (a4 + 1)), ()))
   | false => none
  | false => none
 | false => some (.inr (.inl (a0, a1, ())))
abbrev Xk : AE := [(.tmp 1, .box 2), (.cell 0 0, .di), (.cell 0 1, .dat U3), (.tmp 2, .nil U0), (.tmp 3, .nil U0), (.tmp 4, .map U9 U0), (.tmp 14, .dat U3), (.tmp 15, .di), (.tmp 16, .di)]
abbrev Xi : Az := [(.exit 0, [(.tmp 1, .box 2), (.cell 0 0, .di), (.cell 0 1, .dat U3), (.tmp 2, .nil U0), (.tmp 3, .nil U0), (.tmp 4, .map U9 U0)])]
def Me [Lk] : (Int × List U2 × List (U5 × Int) × List U2 × Int × Int × Unit) → Option ((Int × List U2 × List (U5 × Int) × List U2 × Int × Int × Unit) ⊕ (Int × List U2 × List (U5 × Int) × Unit) ⊕ Unit) := fun (a0, a1, a2, a3, a4, a5, _) =>
 match (ilt a5 a4) with
 | true => match idx a3 a5 with
  | none => none
  | some x0 => match x0.2.2.2.1 with
  | true => match (ile 0 (Vx a2 (x0.2.2.1, (1, ()))) && ilt (Vx a2 (x0.2.2.1, (1, ()))) (AM (Ah a2 (x0.2.2.1, (1, ())) ((AT a2 (x0.2.2.1, (1, ()))).getD 0)))) with
   | true => some (.inl (a0, a1, (AVT (Ah a2 (x0.2.2.1, (1, ())) ((AT a2 (x0.2.2.1, (1, ()))).getD 0)) (Vx a2 (x0.2.2.1, (1, ()))) (IntKind.wrap .i64 (((AT a2 (x0.2.2.1, (1, ()))).getD 0) + 1))), a3, a4, (IntKind.wrap .i64 (a5 + 1)), ()))
   | false => none
  | false => match (ile 0 (Vx a2 (x0.2.2.1, (0, ()))) && ilt (Vx a2 (x0.2.2.1, (0, ()))) (AM (Ah a2 (x0.2.2.1, (0, ())) ((AT a2 (x0.2.2.1, (0, ()))).getD 0)))) with
  | true => some (.inl (a0, a1, (AVT (Ah a2 (x0.2.2.1, (0, ())) ((AT a2 (x0.2.2.1, (0, ()))).getD 0)) (Vx a2 (x0.2.2.1, (0, ()))) (IntKind.wrap .i64 (((AT a2 (x0.2.2.1, (0, ()))).getD 0) + 1))), a3, a4, (IntKind.wrap .i64 (a5 + 1)), ()))
  | false => none
 | false => some (.inr (.inl (a0, a1, a2, ())))
def Qt [Lk] : (Uk × Unit) → Option (Uy) := fun (a0, _) =>
 match Fl ((a0.1, (a0.2.1, ())), ()) with
 | none => none
 | some (y0, _) => match (!y0) with
 | true => some (([] : List (Int)), ([] : List (Int)), ())
 | false => match AY Me many (a0.1, a0.2.1, ([] : List (U5 × Int)), a0.2.1, (AM a0.2.1), 0, ()) with
 | none => none
 | some r => match r with
 | .inl (o1, o2, o3, _) => match XG (o1, ()) with
  | none => none
  | some (y4, _) => match AY Md many (([] : List (Int)), ([] : List (Int)), o3, (IntKind.wrap .i64 (y4 + 1)), 0, ()) with
  | none => none
  | some r => match r with
  | .inl (o5, o6, _) => some (o5, o6, ())
  | .inr _ => none
 | .inr _ => none
def Tw [Lk] := fun v => Lk.f (Qt v)
theorem ANK v : Tw v = Qt v := AJ _
abbrev Q7 : AE := [(.tmp 0, .dat Uj)]
abbrev Q6 : AE := [(.tmp 0, .own 42 U9)]
abbrev Q5 : List RS := [.one]
abbrev YO : AE := [(.tmp 1, .box 2), (.cell 0 0, .di), (.cell 0 1, .dat Uc), (.tmp 3, .own 42 U9), (.tmp 4, .di), (.tmp 5, .di)]
abbrev YM : Az := [(.exit 2, [(.tmp 1, .box 2), (.cell 0 0, .di), (.cell 0 1, .dat Uc), (.tmp 3, .own 42 U9), (.tmp 4, .di)])]
def DD [Lk] : (Int × List U1 × List U5 × Int × Int × Unit) → Option ((Int × List U1 × List U5 × Int × Int × Unit) ⊕ Va ⊕ Unit) := fun (a0, a1, a2, a3, a4, _) =>
 match (ilt a4 a0) with
 | true => match AMd ((a0, (a1, ())), a3, ()) with
  | none => none
  | some (y0, _) => match idx a1 y0 with
  | none => none
  | some x1 => match Sq (a0, a3, a4, ()) with
  | none => none
  | some (y2, _) => match F4 (x1, y2, ()) with
  | none => none
  | some (y3, _) => match (ile 0 y3) with
  | true => match (fits ((AM a2) + (AM ([(a3, (a4, ()))] : List U5)))) with
   | true => some (.inl (a0, a1, (A8 a2 ([(a3, (a4, ()))] : List U5)), a3, (IntKind.wrap .i64 (a4 + 1)), ()))
   | false => none
  | false => some (.inl (a0, a1, a2, a3, (IntKind.wrap .i64 (a4 + 1)), ()))
 | false => some (.inr (.inl (a0, a1, a2, a3, ())))
abbrev YP : AE := [(.tmp 1, .box 2), (.cell 0 0, .di), (.cell 0 1, .dat Uc), (.tmp 3, .own 42 U9), (.tmp 4, .di)]
abbrev YN : Az := [(.exit 0, [(.tmp 3, .own 42 U9)])]
def Dv [Lk] : Va → Option (Va ⊕ Uv ⊕ Unit) := fun (a0, a1, a2, a3, _) =>
 match (ilt a3 a0) with
 | true => match AY DD many (a0, a1, a2, a3, (IntKind.wrap .i64 (a3 + 1)), ()) with
  | none => none
  | some r => match r with
  | .inl (o0, o1, o2, o3, _) => some (.inl (o0, o1, o2, (IntKind.wrap .i64 (o3 + 1)), ()))
  | .inr _ => none
 | false => some (.inr (.inl (a2, ())))
def LY [Lk] : (Ue × Unit) → Option (Uv) := fun (a0, _) =>
 match HP ((a0.1, (a0.2.1, ())), ()) with
 | none => none
 | some (y0, _) => match (!y0) with
 | true => some (([] : List U5), ())
 | false => match AY Dv many (a0.1, a0.2.1, ([] : List U5), 0, ()) with
 | none => none
 | some r => match r with
 | .inl (o1, _) => some (o1, ())
 | .inr _ => none
def LZ [Lk] := fun v => Lk.f (LY v)
theorem YQ v : LZ v = LY v := AJ _
abbrev RR : AE := []
abbrev RQ : AE := [(.tmp 0, .dat .bool)]
abbrev RP : List RS := [.one]
def RT [Lk] : (Unit) → Option (Uh) := fun _ =>
 match F7 ((4, (([(0, (1, (1, (true, ())))), (0, (2, (0, (false, ())))), (1, (2, (0, (true, ()))))] : List U2), ())), 1, ()) with
 | none => none
 | some (y0, y1, _) => match AIm ((4, (([(0, (1, (1, (true, ())))), (0, (2, (0, (false, ())))), (1, (2, (0, (true, ()))))] : List U2), ())), 2, 0, false, ()) with
 | none => none
 | some (y2, y3, _) => match Tw ((4, (([(0, (1, (1, (true, ())))), (0, (2, (0, (false, ())))), (1, (2, (0, (true, ()))))] : List U2), ())), ()) with
 | none => none
 | some (y4, y5, _) => match AIm ((4, (([(0, (1, (1, (true, ())))), (0, (2, (0, (false, ())))), (1, (2, (0, (true, ()))))] : List U2), ())), 4, 0, true, ()) with
 | none => none
 | some (y6, y7, _) => match F7 ((0, (([] : List U2), ())), 0, ()) with
 | none => none
 | some (y8, y9, _) => match (ieq y1 0) with
 | true => match (ieq y3 0) with
  | true => match (ieq y7 10) with
   | true => match (ieq y9 1) with
    | true => match (ieq (AM y0.2.1) 3) with
     | true => match KJ (y2, ([0] : List (Int)), ()) with
      | none => none
      | some (y10, _) => match y10 with
      | true => match KJ (y4, ([1, 1, 0] : List (Int)), ()) with
       | none => none
       | some (y11, _) => match y11 with
       | true => match KJ (y5, ([1, 0, 0] : List (Int)), ()) with
        | none => none
        | some (y12, _) => match y12 with
        | true => match AIr ((4, (([(0, (1, (1, (true, ())))), (0, (2, (0, (false, ())))), (1, (2, (0, (true, ()))))] : List U2), ())), 2, 1, ()) with
         | none => none
         | some (y13, _) => match (ieq y13 2) with
         | true => match AIr ((4, (([(0, (1, (1, (true, ())))), (0, (2, (0, (false, ())))), (1, (2, (0, (true, ()))))] : List U2), ())), 0, 3, ()) with
          | none => none
          | some (y14, _) => match (ieq y14 (-1 : Int)) with
          | true => match Fl ((4, (([(0, (1, (1, (true, ())))), (0, (2, (0, (false, ())))), (1, (2, (0, (true, ()))))] : List U2), ())), ()) with
           | none => none
           | some (y15, _) => match y15 with
           | true => match XG (5, ()) with
            | none => none
            | some (y16, _) => match (ieq y16 3) with
            | true => match AEd ((4, (([(0, (1, (1, (true, ())))), (0, (2, (0, (false, ())))), (1, (2, (0, (true, ()))))] : List U2), ())), ()) with
             | none => none
             | some (y17, _) => match (ieq (AM y17) 3) with
             | true => match APh ((4, (([(0, (1, (1, (true, ())))), (0, (2, (0, (false, ())))), (1, (2, (0, (true, ()))))] : List U2), ())), (4, (([(0, (1, (1, (true, ())))), (0, (2, (0, (false, ())))), (1, (2, (0, (true, ()))))] : List U2), ())), ()) with
              | none => none
              | some (y18, _) => some (y18, ())
             | false => some (false, ())
            | false => some (false, ())
           | false => some (false, ())
          | false => some (false, ())
         | false => some (false, ())
        | false => some (false, ())
       | false => some (false, ())
      | false => some (false, ())
     | false => some (false, ())
    | false => some (false, ())
   | false => some (false, ())
  | false => some (false, ())
 | false => some (false, ())
def Hl [Lk] := fun v => Lk.f (RT v)
theorem AOo v : Hl v = RT v := AJ _
abbrev Q1 : AE := [(.tmp 0, .dat Ul)]
abbrev Q0 : AE := [(.tmp 0, .dat .bool)]
abbrev Qz : List RS := [.one]
def LV [Lk] : (Uk × Unit) → Option (Uh) := fun (a0, _) =>
 match (ilt 40 (AM a0.2.1)) with
 | true => some (true, ())
 | false => some ((ilt 16 a0.1), ())
def LW [Lk] := fun v => Lk.f (LV v)
theorem X1 v : LW v = LV v := AJ _
abbrev Hy : AE := [(.tmp 0, .dat Ul), (.tmp 1, .dat (.int .u8)), (.tmp 2, .dat (.arr 2 (.int .u8)))]
abbrev Hx : AE := [(.tmp 0, .dat .bool)]
abbrev Hw : List RS := [.one]
abbrev KG : AE := [(.tmp 3, .box 2), (.cell 0 0, .di), (.cell 0 1, .dat U3), (.tmp 5, .box 2), (.cell 1 0, .dat (.int .u8)), (.cell 1 1, .dat (.int .u8)), (.tmp 8, .box 2), (.cell 2 0, .di), (.cell 2 1, .dat Uc), (.tmp 10, .box 2), (.cell 3 0, .di), (.cell 3 1, .dat Uc), (.tmp 12, .own 42 U9), (.tmp 13, .own 42 U9), (.tmp 14, .di), (.tmp 15, .dat .bool), (.tmp 16, .di)]
abbrev KE : Az := [(.exit 2, [(.tmp 3, .box 2), (.cell 0 0, .di), (.cell 0 1, .dat U3), (.tmp 5, .box 2), (.cell 1 0, .dat (.int .u8)), (.cell 1 1, .dat (.int .u8)), (.tmp 8, .box 2), (.cell 2 0, .di), (.cell 2 1, .dat Uc), (.tmp 10, .box 2), (.cell 3 0, .di), (.cell 3 1, .dat Uc), (.tmp 12, .own 42 U9), (.tmp 13, .own 42 U9), (.tmp 14, .di), (.tmp 15, .dat .bool)])]
def Bm [Lk] : Uw → Option (Uw ⊕ (Int × List U2 × Int × Int × Int × List U1 × Int × List U1 × List U5 × List U5 × Int × Bool × Unit) ⊕ Unit) := fun (a0, a1, a2, a3, a4, a5, a6, a7, a8, a9, a10, a11, a12, _) =>
 match (ilt a12 (AM a8)) with
 | true => match a11 with
  | true => some (.inl (a0, a1, a2, a3, a4, a5, a6, a7, a8, a9, a10, true, (IntKind.wrap .i64 (a12 + 1)), ()))
  | false => match idx a8 a12 with
  | none => none
  | some x0 => match idx a9 a10 with
  | none => none
  | some x1 => some (.inl (a0, a1, a2, a3, a4, a5, a6, a7, a8, a9, a10, (ieq (AS a8 (AG a12) (0, (0, ()))).1 (AS a9 (AG a10) (0, (0, ()))).1 && (ieq (AS a8 (AG a12) (0, (0, ()))).2.1 (AS a9 (AG a10) (0, (0, ()))).2.1 && true)), (IntKind.wrap .i64 (a12 + 1)), ()))
 | false => some (.inr (.inl (a0, a1, a2, a3, a4, a5, a6, a7, a8, a9, a10, a11, ())))
abbrev KH : AE := [(.tmp 3, .box 2), (.cell 0 0, .di), (.cell 0 1, .dat U3), (.tmp 5, .box 2), (.cell 1 0, .dat (.int .u8)), (.cell 1 1, .dat (.int .u8)), (.tmp 8, .box 2), (.cell 2 0, .di), (.cell 2 1, .dat Uc), (.tmp 10, .box 2), (.cell 3 0, .di), (.cell 3 1, .dat Uc), (.tmp 12, .own 42 U9), (.tmp 13, .own 42 U9), (.tmp 14, .di)]
abbrev KF : Az := [(.ret, [(.tmp 6, .dat .bool)]), (.exit 0, [(.tmp 3, .box 2), (.cell 0 0, .di), (.cell 0 1, .dat U3), (.tmp 5, .box 2), (.cell 1 0, .dat (.int .u8)), (.cell 1 1, .dat (.int .u8)), (.tmp 8, .box 2), (.cell 2 0, .di), (.cell 2 1, .dat Uc), (.tmp 10, .box 2), (.cell 3 0, .di), (.cell 3 1, .dat Uc)])]
def Bn [Lk] : V1 → Option (V1 ⊕ Uh ⊕ (Int × List U2 × Int × Int × Int × List U1 × Int × List U1 × Unit) ⊕ Unit) := fun (a0, a1, a2, a3, a4, a5, a6, a7, a8, a9, a10, _) =>
 match (ilt a10 (AM a9)) with
 | true => match AY Bm many (a0, a1, a2, a3, a4, a5, a6, a7, a8, a9, a10, false, 0, ()) with
  | none => none
  | some r => match r with
  | .inl (o0, o1, o2, o3, o4, o5, o6, o7, o8, o9, o10, o11, _) => match (!o11) with
   | true => some (.inr (.inl (false, ())))
   | false => some (.inl (o0, o1, o2, o3, o4, o5, o6, o7, o8, o9, (IntKind.wrap .i64 (o10 + 1)), ()))
  | .inr _ => none
 | false => some (.inr (.inr (.inl (a0, a1, a2, a3, a4, a5, a6, a7, ()))))
def FJ [Lk] : (Uk × Int × List Int × Unit) → Option (Uh) := fun (a0, a1, a2, _) =>
 match Hl () with
 | none => none
 | some (y0, _) => match (!y0) with
 | true => some (false, ())
 | false => match LW ((a0.1, (a0.2.1, ())), ()) with
 | none => none
 | some (y1, _) => match y1 with
 | true => some (true, ())
 | false => match FF ((a0.1, (a0.2.1, ())), ()) with
 | none => none
 | some (y2, _) => match (!y2) with
 | true => some (true, ())
 | false => match rem? (IntKind.wrap .i64 a1) 7 with
 | none => none
 | some x3 => match F7 ((a0.1, (a0.2.1, ())), x3, ()) with
 | none => none
 | some (y4, y5, _) => match F7 ((a0.1, (a0.2.1, ())), (IntKind.wrap .i64 (x3 + 1)), ()) with
 | none => none
 | some (y6, y7, _) => match (!(ieq y5 0)) with
 | true => some (false, ())
 | false => match (!(ieq y7 0)) with
 | true => some (false, ())
 | false => match LZ ((y4.1, (y4.2.1, ())), ()) with
 | none => none
 | some (y8, _) => match LZ ((y6.1, (y6.2.1, ())), ()) with
 | none => none
 | some (y9, _) => match AY Bn many (a0.1, a0.2.1, (AS a2 0 0), (AS a2 1 0), y4.1, y4.2.1, y6.1, y6.2.1, y8, y9, 0, ()) with
 | none => none
 | some r => match r with
 | .inl (o10, _) => some (o10, ())
 | .inr r => match r with
 | .inl (o11, o12, o13, o14, o15, o16, o17, o18, _) => match rem? (IntKind.wrap .i64 o13) o11 with
  | none => none
  | some x19 => match rem? (IntKind.wrap .i64 o14) o11 with
  | none => none
  | some x20 => match RA ((o15, (o16, ())), x19, x20, ()) with
  | none => none
  | some (y21, y22, _) => match RA ((o17, (o18, ())), x19, x20, ()) with
  | none => none
  | some (y23, y24, _) => match (ieq y22 0) with
  | true => match (ieq y24 0) with
   | true => match (!y23) with
    | true => some (true, ())
    | false => some (y21, ())
   | false => some (false, ())
  | false => some (false, ())
 | .inr _ => none
def EA [Lk] := fun v => Lk.f (FJ v)
theorem KI v : EA v = FJ v := AJ _
end
end Go.Pev
end
section
namespace Go.Pev
set_option maxRecDepth 100000
noncomputable section
attribute [local irreducible] KQ H0 Lr Jk ASe ASf ASg Na Pn TC VP RE AQ many IntKind.wrap AM Ak AS A8 Cv DE KU AG CR Cy imax AT Ah
end
end Go.Pev
end
section

end
section
namespace Go.Pev.Pl
theorem Af {n : Int} (h : -9223372036854775808 ≤ n ∧ n ≤ 9223372036854775807) : IntKind.wrap .i64 n = n := IntWalk.i64_in n h
section
set_option linter.unusedSectionVars false
variable {α : Type} [Inhabited α]
theorem Ac {d : Array α} {n : Nat} (h : n < d.size) : idx d.toList (n : Int) = some d[n]! := by
 rw [idx_eq, Lr, if_neg (by omega)]
 simp [h]
theorem Al {d : Array α} {n : Nat} {z : α} (h : n < d.size) : AS d.toList (AG (n : Int)) z = d[n]! := by
 simp [AS, AG, h]
theorem Ce {d : Array α} {n : Nat} {x : α} : Ak d.toList (AG (n : Int)) x = (d.setIfInBounds n x).toList := by
 simp [Ak, AG]
theorem AP9 {d : Array α} : AM d.toList = (d.size : Int) := by simp [AM]
theorem Ck (d : Array α) (i j : Nat) : (d.setIfInBounds i d[j]!).setIfInBounds j d[i]! = Go.Sort.swp d i j := rfl
theorem size_swp (d : Array α) (i j : Nat) : (Go.Sort.swp d i j).size = d.size := by simp [Go.Sort.swp]
end
theorem AN (a b : Nat) : ilt (a : Int) (b : Int) = decide (a < b) := by rw [Am]; simp
theorem Br (a b : Nat) : ile (a : Int) (b : Int) = decide (a ≤ b) := by rw [Aq]; simp
theorem AEp (a b : Nat) : ieq (a : Int) (b : Int) = decide (a = b) := by
 rw [ES]
 by_cases h : a = b
 ·simp [h]
 ·simp [h]; omega
section
theorem wrap_add {a b : Nat} (h : a + b < 9223372036854775808) : IntKind.wrap .i64 ((a : Int) + (b : Int)) = ((a + b : Nat) : Int) := by rw [Af (by omega)]; omega
theorem AL {a : Nat} (h : a + 1 < 9223372036854775808) : IntKind.wrap .i64 ((a : Int) + 1) = ((a + 1 : Nat) : Int) := by rw [Af (by omega)]; omega
theorem AAX {a : Nat} (h : 2 * a < 9223372036854775808) : IntKind.wrap .i64 ((2 : Int) * (a : Int)) = ((2 * a : Nat) : Int) := by rw [Af (by omega)]; omega
theorem AAW {a : Nat} (h : a < 9223372036854775808) : IntKind.wrap .i64 ((a : Int) * 1) = ((a * 1 : Nat) : Int) := by rw [Af (by omega)]; omega
theorem D1 {a : Nat} (h : a * 2 < 9223372036854775808) : IntKind.wrap .i64 ((a : Int) * 2) = ((a * 2 : Nat) : Int) := by rw [Af (by omega)]; omega
theorem AAV {a : Nat} (h : a * 3 < 9223372036854775808) : IntKind.wrap .i64 ((a : Int) * 3) = ((a * 3 : Nat) : Int) := by rw [Af (by omega)]; omega
theorem BV {a b : Nat} (h : b ≤ a ∧ a < 9223372036854775808) : IntKind.wrap .i64 ((a : Int) - (b : Int)) = ((a - b : Nat) : Int) := by rw [Af (by omega)]; omega
theorem Ag {a : Nat} (h : 1 ≤ a ∧ a < 9223372036854775808) : IntKind.wrap .i64 ((a : Int) - 1) = ((a - 1 : Nat) : Int) := by rw [Af (by omega)]; omega
theorem AYz {a : Nat} (h : a < 9223372036854775808) : quo? .i64 (a : Int) 2 = some ((a / 2 : Nat) : Int) := by
 rw [Po, Na, if_neg (by omega), Int.tdiv_eq_ediv_of_nonneg (by omega), Af (by omega)]; rfl
theorem R3 {a : Nat} (h : a < 9223372036854775808) : quo? .i64 (a : Int) 4 = some ((a / 4 : Nat) : Int) := by
 rw [Po, Na, if_neg (by omega), Int.tdiv_eq_ediv_of_nonneg (by omega), Af (by omega)]; rfl
theorem AYy {a : Nat} (h : a < 9223372036854775808) : quo? .i64 (a : Int) 8 = some ((a / 8 : Nat) : Int) := by
 rw [Po, Na, if_neg (by omega), Int.tdiv_eq_ediv_of_nonneg (by omega), Af (by omega)]; rfl
end
end Go.Pev.Pl
end
section
namespace Go.Pev.Pl
section
variable {α : Type}
theorem EC {xs : List α} {n : Nat} (z : α) (h : n < xs.length) : idx xs (n : Int) = some (xs.getD n z) := by
 rw [idx_eq, Lr, if_neg (by omega)]
 simp [h]
theorem AEq (xs : List α) (n : Nat) : idx xs (n : Int) = xs[n]? := by
 rw [idx_eq, Lr, if_neg (by omega)]
 simp
theorem FZ (xs : List α) : idx xs (0 : Int) = xs.head? := by
 rw [idx_eq, Lr, if_neg (by omega)]
 cases xs <;> rfl
theorem JE (xs : List α) (n : Nat) (z : α) : AS xs (AG (n : Int)) z = xs.getD n z := by simp [AS, AG]
theorem AWc (xs : List α) (n : Nat) (x : α) : Ak xs (AG (n : Int)) x = xs.set n x := by simp [Ak, AG]
theorem AO (xs : List α) : AM xs = (xs.length : Int) := rfl
theorem Q8 (n : Nat) : AG (n : Int) = n := by simp [AG]
theorem Cf (xs ys : List α) : A8 xs ys = xs ++ ys := rfl
theorem ACj {xs : List α} {l h : Nat} (h1 : l ≤ h) (h2 : h ≤ xs.length) : DY xs (l : Int) (h : Int) = some ((xs.take h).drop l) := by
 rw [Th, Jk, if_pos (by omega)]
 simp
end
theorem BY {n : Int} (h : n ≤ 4294967296) : fits n = true := (G0 n).2 h
theorem Xz {α β : Type} (xs : List α) (ys : List β) : ieq (AM xs) (AM ys) = decide (xs.length = ys.length) := by rw [AO, AO, AEp]
theorem A1 (a b : Int) : ieq a b = decide (a = b) := by
 rw [ES]
 by_cases h : a = b <;> simp [h]
def walk {α β ρ : Type} (f : β → α → α ⊕ ρ) (fin : α → ρ) : List β → α → ρ
 | [], a => fin a
 | x :: xs, a => match f x a with
  | .inl a => walk f fin xs a
  | .inr r => r
theorem AQV {σ ρ α β : Type} {step : σ → Option (σ ⊕ ρ)} (st : Nat → α → σ) (xs : List β) (f : β → α → α ⊕ ρ) (fin : α → ρ) (I : Nat → α → Prop)
  (h : ∀ i x a, i < xs.length → xs[i]? = some x → I i a → (∀ a', f x a = .inl a' → step (st i a) = some (.inl (st (i + 1) a')) ∧ I (i + 1) a') ∧ (∀ r, f x a = .inr r → step (st i a) = some (.inr r)))
  (hN : ∀ a, I xs.length a → step (st xs.length a) = some (.inr (fin a))) :
  ∀ (m i n : Nat) (a : α), xs.length - i = m → i ≤ xs.length → m < n → I i a → AQ step n (st i a) = some (walk f fin (xs.drop i) a) := by
 intro m
 induction m with
 | zero =>
  intro i n a hk hi hn hI
  obtain ⟨n, rfl⟩ : ∃ k, n = k + 1 := ⟨n - 1, by omega⟩
  have e : i = xs.length := by omega
  subst e
  rw [AQ, hN a hI, List.drop_length]
  rfl
 | succ m ih =>
  intro i n a hk hi hn hI
  obtain ⟨n, rfl⟩ : ∃ k, n = k + 1 := ⟨n - 1, by omega⟩
  have hi' : i < xs.length := by omega
  obtain ⟨g1, g2⟩ := h i xs[i] a hi' (by simp [hi']) hI
  rw [List.drop_eq_getElem_cons hi', walk, AQ]
  cases hf : f xs[i] a with
  | inl a' =>
   obtain ⟨e, hI'⟩ := g1 a' hf
   rw [e]
   exact ih (i + 1) n a' (by omega) (by omega) (by omega) hI'
  | inr r => rw [g2 r hf]
theorem D2 {σ ρ α β : Type} {step : σ → Option (σ ⊕ ρ)} (st : Nat → α → σ) (xs : List β) (f : β → α → α ⊕ ρ) (fin : α → ρ) (I : Nat → α → Prop) (hs : xs.length < 9223372036854775808)
  (h : ∀ i x a, i < xs.length → xs[i]? = some x → I i a → (∀ a', f x a = .inl a' → step (st i a) = some (.inl (st (i + 1) a')) ∧ I (i + 1) a') ∧ (∀ r, f x a = .inr r → step (st i a) = some (.inr r)))
  (hN : ∀ a, I xs.length a → step (st xs.length a) = some (.inr (fin a))) (a : α) (h0 : I 0 a) : AY step many (st 0 a) = some (walk f fin xs a) := by
 have hm : 9223372036854775808 < many := by simp only [many]; omega
 rw [Aj, AQV st xs f fin I h hN xs.length 0 many a (by omega) (by omega) (by omega) h0]
 rfl
theorem JA {α : Type} {xs ys : List α} (z : α) (hl : xs.length = ys.length) (h : ∀ j, j < xs.length → xs.getD j z = ys.getD j z) : xs = ys := by
 apply List.ext_getElem hl
 intro i h1 h2
 have := h i h1
 simpa [h1, h2] using this
theorem Sa {α : Type} {xs ys : List α} (z : α) {j : Nat} (h : xs.getD j z ≠ ys.getD j z) : xs ≠ ys := fun e => h (by rw [e])
theorem AQ4 {σ ρ : Type} {step : σ → Option (σ ⊕ ρ)} (st : Nat → σ) (N : Nat) (P : Nat → Bool) (rt : Nat → ρ) (rf : ρ)
  (h : ∀ i, i < N → step (st i) = if P i then some (.inr (rt i)) else some (.inl (st (i + 1)))) (hN : step (st N) = some (.inr rf)) :
  ∀ (m i n : Nat), N - i = m → i ≤ N → m < n → (∃ k, i ≤ k ∧ k < N ∧ P k = true ∧ (∀ j, i ≤ j → j < k → P j = false) ∧ AQ step n (st i) = some (rt k)) ∨ ((∀ j, i ≤ j → j < N → P j = false) ∧ AQ step n (st i) = some rf) := by
 intro m
 induction m with
 | zero =>
  intro i n hk hi hn
  obtain ⟨n, rfl⟩ : ∃ k, n = k + 1 := ⟨n - 1, by omega⟩
  have e : i = N := by omega
  subst e
  exact .inr ⟨fun j h1 h2 => by omega, by rw [AQ, hN]⟩
 | succ m ih =>
  intro i n hk hi hn
  obtain ⟨n, rfl⟩ : ∃ k, n = k + 1 := ⟨n - 1, by omega⟩
  have hi' : i < N := by omega
  cases hP : P i
  ·have e : AQ step (n + 1) (st i) = AQ step n (st (i + 1)) := by rw [AQ, h i hi', hP]; rfl
   rw [e]
   rcases ih (i + 1) n (by omega) (by omega) (by omega) with ⟨k, h1, h2, h3, h4, h5⟩ | ⟨h1, h2⟩
   ·refine .inl ⟨k, by omega, h2, h3, fun j a1 a2 => ?_, h5⟩
    by_cases ej : j = i
    ·subst ej; exact hP
    ·exact h4 j (by omega) a2
   ·refine .inr ⟨fun j a1 a2 => ?_, h2⟩
    by_cases ej : j = i
    ·subst ej; exact hP
    ·exact h1 j (by omega) a2
  ·exact .inl ⟨i, Nat.le_refl _, hi', hP, fun j a1 a2 => by omega, by rw [AQ, h i hi', hP]; rfl⟩
theorem APD {σ ρ : Type} {step : σ → Option (σ ⊕ ρ)} (st : Nat → σ) (N : Nat) (P : Nat → Bool) (rt : Nat → ρ) (rf : ρ) (hs : N < 9223372036854775808)
  (h : ∀ i, i < N → step (st i) = if P i then some (.inr (rt i)) else some (.inl (st (i + 1)))) (hN : step (st N) = some (.inr rf)) :
  (∃ k, k < N ∧ P k = true ∧ (∀ j, j < k → P j = false) ∧ AY step many (st 0) = some (rt k)) ∨ ((∀ j, j < N → P j = false) ∧ AY step many (st 0) = some rf) := by
 have hm : 9223372036854775808 < many := by simp only [many]; omega
 rw [Aj]
 rcases AQ4 st N P rt rf h hN N 0 many rfl (by omega) (by omega) with ⟨k, h1, h2, h3, h4, h5⟩ | ⟨h1, h2⟩
 ·exact .inl ⟨k, h2, h3, fun j a => h4 j (by omega) a, h5⟩
 ·exact .inr ⟨fun j a => h1 j (by omega) a, h2⟩
end Go.Pev.Pl
end
section
namespace Go.Pev.Pl
inductive Tok where
 | ver (v : Int)
 | arc (u v : Int)
 deriving DecidableEq
namespace Tok
def st : Tok → Int
 | .ver v => v
 | .arc _ v => v
def step (s : List Int × List Int) : Tok → Option (List Int × List Int)
 | .ver v => match s.1 with
  | w :: _ => if w = v then some s else none
  | [] => none
 | .arc u v => match s.1 with
  | w :: r => if w = u then match r with
    | p :: r' => if p = v then some (p :: r', s.2) else if v ∈ s.2 then none else some (v :: w :: r, v :: s.2)
    | [] => if v ∈ s.2 then none else some (v :: w :: r, v :: s.2)
   else none
  | [] => none
def run : List Int × List Int → List Tok → Option (List Int × List Int)
 | s, [] => some s
 | s, t :: l => match step s t with
  | some s => run s l
  | none => none
theorem C5 (s : List Int × List Int) (a b : List Tok) : run s (a ++ b) = (run s a).bind fun s => run s b := by
 induction a generalizing s with
 | nil => rfl
 | cons t a ih =>
  simp only [List.cons_append, run]
  cases step s t with
  | none => rfl
  | some s => exact ih s
theorem Bt {s s' : List Int × List Int} {t : Tok} (h : step s t = some s') :
  (∃ v r, t = .ver v ∧ s.1 = v :: r ∧ s' = s) ∨
  (∃ u v r, t = .arc u v ∧ s.1 = u :: v :: r ∧ s' = (v :: r, s.2)) ∨
  (∃ u v r, t = .arc u v ∧ s.1 = u :: r ∧ r.head? ≠ some v ∧ v ∉ s.2 ∧ s' = (v :: u :: r, v :: s.2)) := by
 obtain ⟨way, c⟩ := s
 cases t with
 | ver v =>
  cases way with
  | nil => simp [step] at h
  | cons w r =>
   simp only [step] at h
   split at h
   ·rename_i e; cases h; exact .inl ⟨v, r, rfl, by simp [e], rfl⟩
   ·cases h
 | arc u v =>
  cases way with
  | nil => simp [step] at h
  | cons w r =>
   simp only [step] at h
   split at h
   ·rename_i e
    subst e
    cases r with
    | nil =>
     simp only at h
     split at h
     ·cases h
     ·rename_i hc; cases h; exact .inr (.inr ⟨w, v, [], rfl, rfl, by simp, hc, rfl⟩)
    | cons p r =>
     simp only at h
     split at h
     ·rename_i e; subst e; cases h; exact .inr (.inl ⟨w, p, r, rfl, rfl, rfl⟩)
     ·split at h
      ·cases h
      ·rename_i e hc; cases h; exact .inr (.inr ⟨w, v, p :: r, rfl, rfl, by simpa using e, hc, rfl⟩)
   ·cases h
theorem C1 (v : Int) (r c : List Int) : step (v :: r, c) (.ver v) = some (v :: r, c) := by simp [step]
theorem FN (u v : Int) (r c : List Int) : step (u :: v :: r, c) (.arc u v) = some (v :: r, c) := by simp [step]
theorem Ed (u v : Int) (r c : List Int) (h1 : r.head? ≠ some v) (h2 : v ∉ c) : step (u :: r, c) (.arc u v) = some (v :: u :: r, v :: c) := by
 cases r with
 | nil => simp [step, h2]
 | cons p r =>
  have : p ≠ v := by simpa using h1
  simp [step, h2, this]
def Inv (s : List Int × List Int) : Prop := s.1.Nodup ∧ (∀ x ∈ s.1, x ∈ s.2)
theorem VM {s s' : List Int × List Int} {t : Tok} (h : step s t = some s') (hi : Inv s) : Inv s' ∧ (∀ x ∈ s.2, x ∈ s'.2) ∧ s'.1.head? = some t.st := by
 obtain ⟨way, c⟩ := s
 obtain ⟨h1, h2⟩ := hi
 rcases Bt h with ⟨v, r, rfl, hw, rfl⟩ | ⟨u, v, r, rfl, hw, rfl⟩ | ⟨u, v, r, rfl, hw, _, hn, rfl⟩
 ·exact ⟨⟨h1, h2⟩, fun x hx => hx, by rw [hw]; rfl⟩
 ·simp only at hw h1 h2
  subst hw
  refine ⟨⟨?_, ?_⟩, fun x hx => hx, rfl⟩
  ·exact (List.nodup_cons.1 h1).2
  ·intro x hx; exact h2 x (by simp only at hx; simp [List.mem_cons.1 hx])
 ·simp only at hw h1 h2 hn
  subst hw
  refine ⟨⟨?_, ?_⟩, fun x hx => by simp [hx], rfl⟩
  ·exact List.nodup_cons.2 ⟨fun hm => hn (h2 _ hm), h1⟩
  ·intro x hx
   rcases List.mem_cons.1 hx with rfl | hx
   ·simp
   ·exact List.mem_cons_of_mem _ (h2 x hx)
theorem HO {l : List Tok} : ∀ {s s' : List Int × List Int}, run s l = some s' → Inv s → Inv s' ∧ (∀ x ∈ s.2, x ∈ s'.2) ∧ ∀ t, l.getLast? = some t → s'.1.head? = some t.st := by
 induction l with
 | nil => intro s s' h hi; cases h; exact ⟨hi, fun x hx => hx, fun t ht => by simp at ht⟩
 | cons t l ih =>
  intro s s' h hi
  simp only [run] at h
  split at h
  ·rename_i s1 h1
   obtain ⟨q1, q2, q3⟩ := VM h1 hi
   obtain ⟨p1, p2, p3⟩ := ih h q1
   refine ⟨p1, fun x hx => p2 x (q2 x hx), fun t' ht' => ?_⟩
   cases l with
   | nil => simp at ht'; subst ht'; simp only [run] at h; cases h; exact q3
   | cons y l => exact p3 t' (by rw [List.getLast?_cons_cons] at ht'; exact ht')
  ·cases h
theorem GM {Z : Int → Prop} : ∀ {l : List Tok} {way way' c d c2 low : List Int}, run (way, c) l = some (way', d) → way ≠ [] → (∀ x, x ∈ c2 ↔ x ∈ c ∨ Z x) →
  (∀ u v, .arc u v ∈ l → ¬ Z v) → (∀ y ∈ low, Z y) → ∃ d2, run (way ++ low, c2) l = some (way' ++ low, d2) ∧ (∀ x, x ∈ d2 ↔ x ∈ d ∨ Z x) := by
 intro l
 induction l with
 | nil => intro way way' c d c2 low h _ hc _ _; cases h; exact ⟨c2, rfl, hc⟩
 | cons t l ih =>
  intro way way' c d c2 low h hne hc hz hl
  simp only [run] at h
  split at h
  ·rename_i s1 h1
   have hz' : ∀ u v, Tok.arc u v ∈ l → ¬ Z v := fun u v hm => hz u v (List.mem_cons_of_mem _ hm)
   rcases Bt h1 with ⟨v, r, rfl, hw, rfl⟩ | ⟨u, v, r, rfl, hw, rfl⟩ | ⟨u, v, r, rfl, hw, hh, hn, rfl⟩
   ·simp only at hw
    subst hw
    obtain ⟨d2, e1, e2⟩ := ih h hne hc hz' hl
    exact ⟨d2, by simp only [run, List.cons_append, C1]; exact e1, e2⟩
   ·simp only at hw
    subst hw
    obtain ⟨d2, e1, e2⟩ := ih h (by simp) hc hz' hl
    exact ⟨d2, by simp only [run, List.cons_append, FN]; exact e1, e2⟩
   ·simp only at hw hn
    subst hw
    have hzv := hz u v (by simp)
    have hn2 : v ∉ c2 := by rw [hc]; rintro (h | h); exact hn h; exact hzv h
    have hh2 : (r ++ low).head? ≠ some v := by
     cases r with
     | nil =>
      cases low with
      | nil => simp
      | cons y low =>
       simp only [List.nil_append, List.head?_cons, ne_eq, Option.some.injEq]
       rintro rfl
       exact hzv (hl _ (by simp))
     | cons p r => simpa using hh
    obtain ⟨d2, e1, e2⟩ := ih (c2 := v :: c2) h (by simp) (by intro x; simp only [List.mem_cons, hc, or_assoc]) hz' hl
    exact ⟨d2, by simp only [run, List.cons_append, Ed _ _ _ _ hh2 hn2]; exact e1, e2⟩
  ·cases h
theorem VR {z : Int} : ∀ {l : List Tok} {way way' c2 d2 c : List Int}, run (way, c2) l = some (way', d2) → z ∉ way → (∀ x, x ∈ c2 ↔ x ∈ c ∨ x = z) → z ∉ c →
  .ver z ∉ l ∧ ∃ d, run (way, c) l = some (way', d) ∧ (∀ x, x ∈ d2 ↔ x ∈ d ∨ x = z) ∧ z ∉ d := by
 intro l
 induction l with
 | nil => intro way way' c2 d2 c h _ hc hz; cases h; exact ⟨by simp, c, rfl, hc, hz⟩
 | cons t l ih =>
  intro way way' c2 d2 c h hzw hc hz
  simp only [run] at h
  split at h
  ·rename_i s1 h1
   rcases Bt h1 with ⟨v, r, rfl, hw, rfl⟩ | ⟨u, v, r, rfl, hw, rfl⟩ | ⟨u, v, r, rfl, hw, hh, hn, rfl⟩
   ·simp only at hw
    subst hw
    obtain ⟨e0, d, e1, e2, e3⟩ := ih h hzw hc hz
    refine ⟨?_, d, by simp only [run, C1]; exact e1, e2, e3⟩
    rintro hm
    rcases List.mem_cons.1 hm with hm | hm
    ·cases hm; exact hzw (by simp)
    ·exact e0 hm
   ·simp only at hw
    subst hw
    obtain ⟨e0, d, e1, e2, e3⟩ := ih h (fun hm => hzw (List.mem_cons_of_mem _ hm)) hc hz
    refine ⟨?_, d, by simp only [run, FN]; exact e1, e2, e3⟩
    rintro hm
    rcases List.mem_cons.1 hm with hm | hm
    ·cases hm
    ·exact e0 hm
   ·simp only at hw hn
    subst hw
    have hvz : v ≠ z := by rintro rfl; exact hn ((hc v).2 (.inr rfl))
    have hn' : v ∉ c := fun hm => hn ((hc v).2 (.inl hm))
    obtain ⟨e0, d, e1, e2, e3⟩ := ih (c := v :: c) h (by intro hm; rcases List.mem_cons.1 hm with hm | hm; exact hvz hm.symm; exact hzw hm)
     (by intro x; simp only [List.mem_cons, hc, or_assoc])
     (by intro hm; rcases List.mem_cons.1 hm with hm | hm; exact hvz hm.symm; exact hz hm)
    refine ⟨?_, d, by simp only [run, Ed _ _ _ _ hh hn']; exact e1, e2, e3⟩
    rintro hm
    rcases List.mem_cons.1 hm with hm | hm
    ·cases hm
    ·exact e0 hm
  ·cases h
def Rot (a b : List Tok) : Prop := ∃ x y, a = x ++ y ∧ b = y ++ x
theorem Rot.refl (a : List Tok) : Rot a a := ⟨[], a, rfl, by simp⟩
theorem Rot.symm {a b : List Tok} (h : Rot a b) : Rot b a := by obtain ⟨x, y, h1, h2⟩ := h; exact ⟨y, x, h2, h1⟩
theorem Rot.trans {a b c : List Tok} (h : Rot a b) (g : Rot b c) : Rot a c := by
 obtain ⟨x, y, rfl, h2⟩ := h
 obtain ⟨z, w, h3, rfl⟩ := g
 rw [h2] at h3
 rcases List.append_eq_append_iff.1 h3 with ⟨k, h4, h5⟩ | ⟨k, h4, h5⟩
 ·subst h4 h5
  exact ⟨k, w ++ y, by simp, by simp⟩
 ·subst h4 h5
  exact ⟨x ++ z, k, by simp, by simp⟩
theorem Rot.perm {a b : List Tok} (h : Rot a b) : a.Perm b := by
 obtain ⟨x, y, rfl, rfl⟩ := h
 exact List.perm_append_comm
theorem Rot.mem {a b : List Tok} (h : Rot a b) (t : Tok) : t ∈ a ↔ t ∈ b := h.perm.mem_iff
theorem Rot.nodup {a b : List Tok} (h : Rot a b) : a.Nodup ↔ b.Nodup := h.perm.nodup_iff
theorem Rot.length {a b : List Tok} (h : Rot a b) : a.length = b.length := h.perm.length_eq
inductive T : List Tok → Prop
 | one (v : Int) : T [.ver v]
 | add (x : Tok) (l : List Tok) (v : Int) : T (x :: l) → x.st ≠ v → .ver v ∉ x :: l → T (x :: .arc x.st v :: .ver v :: .arc v x.st :: l)
 | rot (a b : List Tok) : T (a ++ b) → T (b ++ a)
theorem T.AMY {a b : List Tok} (h : T a) (r : Rot a b) : T b := by obtain ⟨x, y, rfl, rfl⟩ := r; exact T.rot x y h
theorem T.facts {l : List Tok} (h : T l) : l ≠ [] ∧ (∀ t ∈ l, .ver t.st ∈ l) ∧ (∀ u v, .arc u v ∈ l → .ver u ∈ l ∧ .ver v ∈ l ∧ .arc v u ∈ l ∧ u ≠ v) := by
 induction h with
 | one v => exact ⟨by simp, by simp [st], by simp⟩
 | add x l v h hne hv ih =>
  obtain ⟨_, i2, i3⟩ := ih
  have hsub : ∀ t, t ∈ x :: l → t ∈ x :: Tok.arc x.st v :: .ver v :: .arc v x.st :: l := by
   intro t ht
   rcases List.mem_cons.1 ht with rfl | ht
   ·simp
   ·simp [ht]
  have hx := hsub _ (i2 x (by simp))
  have cases3 : ∀ t, t ∈ x :: Tok.arc x.st v :: .ver v :: .arc v x.st :: l → t ∈ x :: l ∨ t = .arc x.st v ∨ t = .ver v ∨ t = .arc v x.st := by
   intro t ht
   simp only [List.mem_cons] at ht ⊢
   rcases ht with h | h | h | h | h <;> simp [h]
  refine ⟨by simp, fun t ht => ?_, fun a b hab => ?_⟩
  ·rcases cases3 t ht with h | rfl | rfl | rfl
   ·exact hsub _ (i2 t h)
   ·simp [st]
   ·simp [st]
   ·exact hx
  ·rcases cases3 _ hab with h | h | h | h
   ·obtain ⟨p1, p2, p3, p4⟩ := i3 a b h
    exact ⟨hsub _ p1, hsub _ p2, hsub _ p3, p4⟩
   ·cases h; exact ⟨hx, by simp, by simp, hne⟩
   ·cases h
   ·cases h; exact ⟨by simp, hx, by simp, Ne.symm hne⟩
 | rot a b h ih =>
  obtain ⟨i1, i2, i3⟩ := ih
  have hm : ∀ t, t ∈ a ++ b ↔ t ∈ b ++ a := fun t => List.perm_append_comm.mem_iff
  refine ⟨by intro e; simp only [List.append_eq_nil_iff] at e; exact i1 (by simp [e.1, e.2]), fun t ht => (hm _).1 (i2 t ((hm _).2 ht)), fun u v huv => ?_⟩
  obtain ⟨p1, p2, p3, p4⟩ := i3 u v ((hm _).2 huv)
  exact ⟨(hm _).1 p1, (hm _).1 p2, (hm _).1 p3, p4⟩
theorem T.nodup {l : List Tok} (h : T l) : l.Nodup := by
 induction h with
 | one v => simp
 | add x l v h hne hv ih =>
  obtain ⟨_, _, f3⟩ := h.facts
  have h1 : Tok.arc x.st v ∉ x :: l := fun hm => hv (f3 _ _ hm).2.1
  have h2 : Tok.arc v x.st ∉ x :: l := fun hm => hv (f3 _ _ hm).1
  simp only [List.mem_cons, not_or] at h1 h2 hv
  have ih' := List.nodup_cons.1 ih
  simp only [List.nodup_cons, List.mem_cons, not_or]
  refine ⟨⟨fun e => h1.1 e.symm, fun e => hv.1 e.symm, fun e => h2.1 e.symm, ih'.1⟩, ⟨by simp, ?_, h1.2⟩, ⟨by simp, hv.2⟩, h2.2, ih'.2⟩
  intro e
  simp only [Tok.arc.injEq] at e
  exact hne e.1
 | rot a b h ih => exact (List.perm_append_comm.nodup_iff).1 ih
def C (l : List Tok) : Prop := ∀ r, Rot l r → ∀ t, r.getLast? = some t → ∃ c, run ([t.st], [t.st]) r = some ([t.st], c) ∧ ∀ x, x ∈ c ↔ .ver x ∈ l
end Tok
end Go.Pev.Pl
end
section
namespace Go.Pev.Pl.Tok
theorem getLast?_app {a b : List Tok} {t : Tok} (h : b.getLast? = some t) : (a ++ b).getLast? = some t := by
 rw [List.getLast?_append, h]; rfl
theorem At (s : List Int × List Int) (t : Tok) (l : List Tok) : run s (t :: l) = (step s t).bind fun s => run s l := by
 rw [run]
 cases step s t <;> rfl
theorem Li (v : Int) : Inv ([v], [v]) := ⟨by simp, by simp⟩
theorem T.toC {l : List Tok} (h : T l) : C l := by
 induction h with
 | one v =>
  intro r hr t ht
  have : r = [.ver v] := List.perm_singleton.1 hr.perm.symm
  subst this
  simp at ht
  subst ht
  exact ⟨[v], by simp [run, st, step], by simp⟩
 | rot a b h ih =>
  intro r hr t ht
  obtain ⟨c, h1, h2⟩ := ih r (Rot.trans ⟨a, b, rfl, rfl⟩ hr) t ht
  exact ⟨c, h1, fun x => (h2 x).trans (List.perm_append_comm.mem_iff)⟩
 | add x l v h hne hv ih =>
  obtain ⟨_, f2, f3⟩ := h.facts
  have hnz : ∀ u w, Tok.arc u w ∈ x :: l → ¬ (w = v) := fun u w hm e => hv (e ▸ (f3 u w hm).2.1)
  have fin : ∀ {d2 c : List Int}, (∀ y, y ∈ d2 ↔ y ∈ c ∨ y = v) → (∀ y, y ∈ c ↔ .ver y ∈ x :: l) → ∀ y, y ∈ d2 ↔ Tok.ver y ∈ x :: .arc x.st v :: .ver v :: .arc v x.st :: l := by
   intro d2 c e1 e2 y
   rw [e1, e2]
   simp only [List.mem_cons, reduceCtorEq, false_or, Tok.ver.injEq]
   constructor
   ·rintro ((h | h) | h) <;> simp [h]
   ·rintro (h | h | h) <;> simp [h]
  have triple : ∀ {w' c1 : List Int}, Inv (x.st :: w', c1) → v ∉ c1 → ∀ p, run (x.st :: w', c1) (.arc x.st v :: .ver v :: .arc v x.st :: p) = run (x.st :: w', v :: c1) p := by
   intro w' c1 hi hn p
   have hh : w'.head? ≠ some v := by
    intro e
    exact hn (hi.2 v (List.mem_cons_of_mem _ (List.mem_of_head? e)))
   rw [At, Ed _ _ _ _ hh hn, Option.bind_some, At, C1, Option.bind_some, At, FN, Option.bind_some]
  have G : ∀ q1 p1, l = p1 ++ q1 → ∀ t, (q1 ++ x :: .arc x.st v :: .ver v :: .arc v x.st :: p1).getLast? = some t → ∃ c, run ([t.st], [t.st]) (q1 ++ x :: .arc x.st v :: .ver v :: .arc v x.st :: p1) = some ([t.st], c) ∧ ∀ y, y ∈ c ↔ .ver y ∈ x :: .arc x.st v :: .ver v :: .arc v x.st :: l := by
   intro q1 p1 hl t ht
   have hrot : Rot (x :: l) (q1 ++ x :: p1) := ⟨x :: p1, q1, by simp [hl], rfl⟩
   have ht0 : ∃ t0, (q1 ++ x :: p1).getLast? = some t0 ∧ t0.st = t.st := by
    cases p1 with
    | nil =>
     refine ⟨x, getLast?_app (by simp), ?_⟩
     rw [show q1 ++ [x, Tok.arc x.st v, .ver v, .arc v x.st] = (q1 ++ [x, Tok.arc x.st v, .ver v]) ++ [Tok.arc v x.st] by simp, List.getLast?_concat] at ht
     cases ht; rfl
    | cons y p1 =>
     refine ⟨t, ?_, rfl⟩
     rw [show q1 ++ x :: Tok.arc x.st v :: .ver v :: .arc v x.st :: y :: p1 = (q1 ++ [x, Tok.arc x.st v, .ver v, .arc v x.st]) ++ y :: p1 by simp, List.getLast?_append] at ht
     rw [show q1 ++ x :: y :: p1 = (q1 ++ [x]) ++ y :: p1 by simp, List.getLast?_append]
     exact ht
   obtain ⟨t0, e0, e1⟩ := ht0
   obtain ⟨c, h1, h2⟩ := ih _ hrot t0 e0
   rw [e1, show q1 ++ x :: p1 = (q1 ++ [x]) ++ p1 by simp, C5, Option.bind_eq_some_iff] at h1
   obtain ⟨⟨w1, c1⟩, g1, g2⟩ := h1
   obtain ⟨i1, i2, i3⟩ := HO g1 (Li _)
   obtain ⟨j1, j2, j3⟩ := HO g2 i1
   have i3' := i3 x (by simp)
   simp only at i3'
   cases w1 with
   | nil => simp at i3'
   | cons w0 w' =>
    simp at i3'
    subst i3'
    have hn : v ∉ c1 := fun hm => hv ((h2 v).1 (j2 v hm))
    obtain ⟨d2, k1, k2⟩ := GM (Z := (· = v)) (c2 := v :: c1) (low := []) g2 (by simp) (fun y => by simp [or_comm]) (fun u w hm => hnz u w (by simp [hl, hm])) (by simp)
    refine ⟨d2, ?_, fin k2 h2⟩
    rw [show q1 ++ x :: Tok.arc x.st v :: .ver v :: .arc v x.st :: p1 = (q1 ++ [x]) ++ Tok.arc x.st v :: .ver v :: .arc v x.st :: p1 by simp, C5, g1, Option.bind_some, triple i1 hn]
    simpa using k1
  intro r hr t ht
  obtain ⟨p, q, hpq, rfl⟩ := hr
  have base : ∀ t0 : Tok, (l ++ [x]).getLast? = some t0 → t0 = x := fun t0 h => by rw [List.getLast?_concat] at h; exact (Option.some.inj h).symm
  obtain ⟨c, h1, h2⟩ := ih (l ++ [x]) ⟨[x], l, rfl, rfl⟩ x (by simp)
  match p with
  | [] =>
   simp only [List.nil_append] at hpq
   subst hpq
   have := G [] l (by simp) t (by simpa using ht)
   simpa using this
  | [y] =>
   simp only [List.cons_append, List.nil_append, List.cons.injEq] at hpq
   obtain ⟨rfl, rfl⟩ := hpq
   have : t = x := by
    rw [List.getLast?_concat] at ht
    exact (Option.some.inj ht).symm
   subst this
   have hn : v ∉ [t.st] := by simp; exact Ne.symm hne
   obtain ⟨d2, k1, k2⟩ := GM (Z := (· = v)) (c2 := [v, t.st]) (low := []) h1 (by simp) (fun y => by simp [or_comm]) (fun u w hm => hnz u w (by simpa [or_comm] using hm)) (by simp)
   refine ⟨d2, ?_, fin k2 h2⟩
   rw [show (Tok.arc t.st v :: .ver v :: .arc v t.st :: l) ++ [t] = Tok.arc t.st v :: .ver v :: .arc v t.st :: (l ++ [t]) by simp, triple (Li _) hn]
   simpa using k1
  | [y, z] =>
   simp only [List.cons_append, List.nil_append, List.cons.injEq] at hpq
   obtain ⟨rfl, rfl, rfl⟩ := hpq
   have : t = .arc x.st v := by
    rw [show (Tok.ver v :: .arc v x.st :: l) ++ [x, .arc x.st v] = (Tok.ver v :: .arc v x.st :: l ++ [x]) ++ [.arc x.st v] by simp, List.getLast?_concat] at ht
    exact (Option.some.inj ht).symm
   subst this
   obtain ⟨d2, k1, k2⟩ := GM (Z := (· = v)) (c2 := [x.st, v]) (low := [v]) h1 (by simp) (fun y => by simp) (fun u w hm => hnz u w (by simpa [or_comm] using hm)) (by simp)
   refine ⟨d2, ?_, fin k2 h2⟩
   rw [show (Tok.ver v :: .arc v x.st :: l) ++ [x, .arc x.st v] = Tok.ver v :: .arc v x.st :: ((l ++ [x]) ++ [.arc x.st v]) by simp]
   rw [At]
   show (step ([v], [v]) _).bind _ = _
   rw [C1, Option.bind_some, At, Ed _ _ _ _ (by simp) (by simp; exact hne), Option.bind_some, C5]
   rw [show ([x.st] ++ [v] : List Int) = [x.st, v] from rfl] at k1
   rw [k1, Option.bind_some, At, FN]
   rfl
  | [y, z, w] =>
   simp only [List.cons_append, List.nil_append, List.cons.injEq] at hpq
   obtain ⟨rfl, rfl, rfl, rfl⟩ := hpq
   have : t = .ver v := by
    rw [show (Tok.arc v x.st :: l) ++ [x, .arc x.st v, .ver v] = (Tok.arc v x.st :: l ++ [x, .arc x.st v]) ++ [.ver v] by simp, List.getLast?_concat] at ht
    exact (Option.some.inj ht).symm
   subst this
   obtain ⟨d2, k1, k2⟩ := GM (Z := (· = v)) (c2 := [x.st, v]) (low := [v]) h1 (by simp) (fun y => by simp) (fun u w hm => hnz u w (by simpa [or_comm] using hm)) (by simp)
   refine ⟨d2, ?_, fin k2 h2⟩
   rw [show (Tok.arc v x.st :: l) ++ [x, .arc x.st v, .ver v] = Tok.arc v x.st :: ((l ++ [x]) ++ [.arc x.st v, .ver v]) by simp]
   rw [At]
   show (step ([v], [v]) _).bind _ = _
   rw [Ed _ _ _ _ (by simp) (by simp; exact hne), Option.bind_some, C5]
   rw [show ([x.st] ++ [v] : List Int) = [x.st, v] from rfl] at k1
   rw [k1, Option.bind_some, At, FN, Option.bind_some, At, C1]
   rfl
  | y :: z :: w :: w2 :: p1 =>
   simp only [List.cons_append, List.cons.injEq] at hpq
   obtain ⟨rfl, rfl, rfl, rfl, rfl⟩ := hpq
   exact G q p1 rfl t ht
def comp (P : List Tok) : List Int → List Tok
 | [] => []
 | w :: r => (if .ver w ∈ P then [] else [.ver w]) ++ match r with
  | [] => []
  | p :: _ => .arc w p :: comp P r
theorem M7 {P P' : List Tok} : ∀ {way : List Int}, (∀ w ∈ way, (Tok.ver w ∈ P ↔ Tok.ver w ∈ P')) → comp P way = comp P' way := by
 intro way
 induction way with
 | nil => intro _; rfl
 | cons w r ih =>
  intro h
  have h1 := h w (by simp)
  have h2 := ih fun x hx => h x (List.mem_cons_of_mem _ hx)
  simp only [comp, h1, h2]
theorem AWG : ∀ (M P : List Tok) (way c c' : List Int) (r : Int) (t0 : Tok), run (way, c) M = some ([r], c') → Inv (way, c) → P.getLast? = some t0 → way.head? = some t0.st →
  T (P ++ comp P way) → (∀ x, .ver x ∈ P ++ comp P way → x ∈ c) → (∀ x ∈ c', Tok.ver x ∈ P ++ M) → (P ++ M).Nodup → T (P ++ M) := by
 intro M
 induction M with
 | nil =>
  intro P way c c' r t0 h hi hl hh hT hc hc' hn
  cases h
  have := hc' r (hi.2 r (by simp))
  rw [List.append_nil] at this
  simpa [comp, this] using hT
 | cons t M ih =>
  intro P way c c' r t0 h hi hl hh hT hc hc' hn
  rw [At, Option.bind_eq_some_iff] at h
  obtain ⟨⟨w1, c1⟩, h1, h2⟩ := h
  obtain ⟨hi1, hsub, hhd⟩ := VM h1 hi
  have asso : P ++ t :: M = (P ++ [t]) ++ M := by simp
  rw [asso] at hn hc' ⊢
  have hnt : t ∉ P := by
   have := (List.nodup_append.1 (List.nodup_append.1 hn).1)
   intro hm
   exact this.2.2 t hm t (by simp) rfl
  rcases Bt h1 with ⟨v, rr, rfl, hw, e⟩ | ⟨u, v, rr, rfl, hw, e⟩ | ⟨u, v, rr, rfl, hw, hh2, hn2, e⟩
  ·cases e
   simp only at hw
   subst hw
   have key : comp P (v :: rr) = .ver v :: comp (P ++ [.ver v]) (v :: rr) := by
    have e2 : comp P rr = comp (P ++ [.ver v]) rr := M7 fun w hwm => by
     have : w ≠ v := by rintro rfl; exact (List.nodup_cons.1 hi.1).1 hwm
     simp [this]
    simp only [comp, hnt, e2]
    simp
   rw [key] at hT hc
   exact ih _ _ _ _ _ (.ver v) h2 hi1 (by simp) hhd (by simpa using hT) (fun x hx => hc x (by simpa using hx)) hc' hn
  ·cases e
   simp only at hw
   subst hw
   have hu : Tok.ver u ∈ P := by
    have hun := (List.nodup_cons.1 hi.1).1
    obtain ⟨g1, _⟩ := VR (z := u) (c := c.filter (· ≠ u)) h2 hun (fun x => by
     simp only [List.mem_filter, decide_eq_true_eq]
     constructor
     ·intro h
      by_cases e : x = u
      ·exact .inr e
      ·exact .inl ⟨h, by simpa using e⟩
     ·rintro (h | rfl)
      ·exact h.1
      ·exact hi.2 x (by simp)) (by simp)
    have hmono := (HO h2 hi1).2.1 u (hi.2 u (by simp))
    have := hc' u hmono
    simp only [List.mem_append, List.mem_singleton, reduceCtorEq, or_false] at this
    rcases this with h | h
    ·exact h
    ·exact absurd h g1
   have key : comp P (u :: v :: rr) = .arc u v :: comp (P ++ [.arc u v]) (v :: rr) := by
    have e2 : comp P (v :: rr) = comp (P ++ [.arc u v]) (v :: rr) := M7 fun w hwm => by simp
    rw [← e2]
    simp only [comp, hu]
    simp
   rw [key] at hT hc
   exact ih _ _ _ _ _ (.arc u v) h2 hi1 (by simp) hhd (by simpa using hT) (fun x hx => hc x (by simpa using hx)) hc' hn
  ·cases e
   simp only at hw hn2
   subst hw
   have hu : u = t0.st := by simpa using hh
   subst hu
   have hvc : ∀ x, Tok.ver x ∈ P ++ comp P (t0.st :: rr) → x ≠ v := by rintro x hx rfl; exact hn2 (hc x hx)
   have hvP : Tok.ver v ∉ P ++ comp P (t0.st :: rr) := fun hm => hvc v hm rfl
   have hvP' : Tok.ver v ∉ P := fun hm => hvP (by simp [hm])
   have key : comp (P ++ [.arc t0.st v]) (v :: t0.st :: rr) = .ver v :: .arc v t0.st :: comp P (t0.st :: rr) := by
    have e2 : comp (P ++ [.arc t0.st v]) (t0.st :: rr) = comp P (t0.st :: rr) := M7 fun w hwm => by simp
    rw [← e2]
    simp only [comp, List.mem_append, hvP', List.mem_singleton, reduceCtorEq, or_false, if_false]
    rfl
   have hne : t0.st ≠ v := by rintro e; exact hn2 (e ▸ hi.2 t0.st (by simp))
   refine ih _ _ _ _ _ (.arc t0.st v) h2 hi1 (by simp) hhd ?_ ?_ hc' hn
   ·rw [key]
    obtain ⟨P0, rfl⟩ : ∃ P0, P = P0 ++ [t0] := List.getLast?_eq_some_iff.1 hl
    have hT1 : T (t0 :: (comp (P0 ++ [t0]) (t0.st :: rr) ++ P0)) := hT.AMY ⟨P0, t0 :: comp (P0 ++ [t0]) (t0.st :: rr), by simp, by simp⟩
    have hT2 := T.add t0 _ v hT1 hne (by
     intro hm
     apply hvP
     simp only [List.mem_append, List.mem_cons, List.not_mem_nil, or_false] at hm ⊢
     rcases hm with h | h | h <;> simp [h])
    exact hT2.AMY ⟨t0 :: .arc t0.st v :: .ver v :: .arc v t0.st :: comp (P0 ++ [t0]) (t0.st :: rr), P0, by simp, by simp⟩
   ·intro x hx
    rw [key] at hx
    simp only [List.mem_append, List.mem_cons, List.not_mem_nil, or_false, reduceCtorEq, Tok.ver.injEq, false_or] at hx
    rcases hx with h | h | h
    ·exact List.mem_cons_of_mem _ (hc x (by simp [h]))
    ·simp [h]
    ·exact List.mem_cons_of_mem _ (hc x (by simp [h]))
def Av (l : List Tok) : Prop := ∃ r l' c, l = .ver r :: l' ∧ run ([r], [r]) l = some ([r], c) ∧ ∀ x ∈ c, Tok.ver x ∈ l
theorem Av.toT {l : List Tok} (h : Av l) (hn : l.Nodup) : T l := by
 obtain ⟨r, l', c, rfl, h1, h2⟩ := h
 rw [At, C1, Option.bind_some] at h1
 have := AWG l' [.ver r] [r] [r] c r (.ver r) h1 (Li r) (by simp) (by simp [st]) (by simp [comp]; exact T.one r) (by simp [comp]) (by simpa using h2) (by simpa using hn)
 simpa using this
theorem T.ACY {r : Int} {l : List Tok} (h : T (.ver r :: l)) : Av (.ver r :: l) := by
 obtain ⟨t, ht⟩ : ∃ t, (Tok.ver r :: l).getLast? = some t := ⟨_, List.getLast?_eq_some_getLast (by simp)⟩
 obtain ⟨c, h1, h2⟩ := h.toC _ (Rot.refl _) t ht
 have h1' := h1
 rw [At, Option.bind_eq_some_iff] at h1'
 obtain ⟨s, g1, _⟩ := h1'
 have e : t.st = r := by
  simp only [step] at g1
  split at g1
  ·assumption
  ·cases g1
 rw [e] at h1
 exact ⟨r, l, c, rfl, h1, fun x hx => (h2 x).1 hx⟩
end Go.Pev.Pl.Tok
end
section
namespace Go.Pev.Pl.Tok
theorem T.AJu {l : List Tok} (h : T l) : ∃ v r, Rot l (.ver v :: r) := by
 obtain ⟨f1, f2, _⟩ := h.facts
 obtain ⟨t, ht⟩ := List.exists_mem_of_ne_nil l f1
 obtain ⟨a, b, rfl⟩ := List.append_of_mem (f2 t ht)
 exact ⟨t.st, b ++ a, a, .ver t.st :: b, rfl, rfl⟩
theorem T.less {x : Tok} {v : Int} {l : List Tok} (h : T (x :: .arc x.st v :: .ver v :: .arc v x.st :: l)) : T (x :: l) := by
 have hC := h.toC
 have hn := h.nodup
 obtain ⟨_, f2, f3⟩ := h.facts
 have hne : x.st ≠ v := (f3 x.st v (by simp)).2.2.2
 have hvl : Tok.ver v ∉ l := by
  intro hm
  simp only [List.nodup_cons, List.mem_cons, not_or] at hn
  exact hn.2.2.1.2 hm
 have hvx : x ≠ .ver v := by rintro rfl; exact hne rfl
 have key : ∀ p q, l = p ++ q → ∀ t0, (q ++ x :: p).getLast? = some t0 → ∃ c, run ([t0.st], [t0.st]) (q ++ x :: p) = some ([t0.st], c) ∧ ∀ y, y ∈ c ↔ .ver y ∈ x :: l := by
  intro p q hl t0 ht0
  have hrot : Rot (x :: .arc x.st v :: .ver v :: .arc v x.st :: l) (q ++ x :: .arc x.st v :: .ver v :: .arc v x.st :: p) := ⟨x :: .arc x.st v :: .ver v :: .arc v x.st :: p, q, by simp [hl], rfl⟩
  have ht : ∃ t, (q ++ x :: Tok.arc x.st v :: .ver v :: .arc v x.st :: p).getLast? = some t ∧ t.st = t0.st := by
   cases p with
   | nil =>
    rw [List.getLast?_concat] at ht0
    cases ht0
    exact ⟨.arc v x.st, by rw [show q ++ [x, Tok.arc x.st v, .ver v, .arc v x.st] = (q ++ [x, Tok.arc x.st v, .ver v]) ++ [Tok.arc v x.st] by simp, List.getLast?_concat], rfl⟩
   | cons y p =>
    refine ⟨t0, ?_, rfl⟩
    rw [show q ++ x :: Tok.arc x.st v :: .ver v :: .arc v x.st :: y :: p = (q ++ [x, Tok.arc x.st v, .ver v, .arc v x.st]) ++ y :: p by simp, List.getLast?_append]
    rw [show q ++ x :: y :: p = (q ++ [x]) ++ y :: p by simp, List.getLast?_append] at ht0
    exact ht0
  obtain ⟨t, e0, e1⟩ := ht
  obtain ⟨c, h1, h2⟩ := hC _ hrot t e0
  rw [e1, show q ++ x :: Tok.arc x.st v :: .ver v :: .arc v x.st :: p = (q ++ [x]) ++ Tok.arc x.st v :: .ver v :: .arc v x.st :: p by simp, C5, Option.bind_eq_some_iff] at h1
  obtain ⟨⟨w1, c1⟩, g1, g2⟩ := h1
  obtain ⟨i1, i2, i3⟩ := HO g1 (Li _)
  have i3' := i3 x (by simp)
  simp only at i3'
  cases w1 with
  | nil => simp at i3'
  | cons w0 w' =>
   simp at i3'
   subst i3'
   rw [At, Option.bind_eq_some_iff] at g2
   obtain ⟨s1, k1, k2⟩ := g2
   rcases Bt k1 with ⟨v', r, e, _⟩ | ⟨u', v', r, e, hw, rfl⟩ | ⟨u', v', r, e, hw, hh, hnc, rfl⟩
   ·cases e
   ·cases e
    simp only [List.cons.injEq] at hw
    obtain ⟨_, rfl⟩ := hw
    exfalso
    rw [At, C1, Option.bind_some, At, Option.bind_eq_some_iff] at k2
    obtain ⟨s2, m1, _⟩ := k2
    have hnd := i1.1
    rcases Bt m1 with ⟨v', r', e, _⟩ | ⟨u', v', r', e, hw, rfl⟩ | ⟨u', v', r', e, hw, hh, hnc, rfl⟩
    ·cases e
    ·cases e
     simp only [List.cons.injEq] at hw
     obtain ⟨_, rfl⟩ := hw
     simp at hnd
    ·cases e
     exact hnc (i1.2 _ (by simp))
   ·cases e
    simp only [List.cons.injEq, true_and] at hw
    subst hw
    simp only at hnc
    rw [At, C1, Option.bind_some, At, FN, Option.bind_some] at k2
    have hvw : v ∉ x.st :: w' := fun hm => hnc (i1.2 v hm)
    obtain ⟨_, d, m1, m2, m3⟩ := VR (z := v) (c := c1) k2 hvw (fun y => by simp [or_comm]) hnc
    refine ⟨d, ?_, fun y => ?_⟩
    ·rw [show q ++ x :: p = (q ++ [x]) ++ p by simp, C5, g1, Option.bind_some, m1]
    ·have q1 := m2 y
     have q2 := h2 y
     by_cases e : y = v
     ·subst e
      refine ⟨fun h => absurd h m3, fun h => ?_⟩
      rcases List.mem_cons.1 h with h | h
      ·exact absurd h.symm hvx
      ·exact absurd h hvl
     ·rw [q2] at q1
      simp only [e, or_false] at q1
      rw [← q1]
      simp [e]
 obtain ⟨s, b, a, hsb⟩ : ∃ s a b, x :: l = a ++ .ver s :: b := by
  have := f2 x (by simp)
  simp only [List.mem_cons, reduceCtorEq, false_or, Tok.ver.injEq, hne] at this
  rcases this with h | h
  ·exact ⟨x.st, [], l, by rw [← h]; rfl⟩
  ·obtain ⟨a, b, rfl⟩ := List.append_of_mem h
   exact ⟨x.st, x :: a, b, rfl⟩
 have hg : Av (.ver s :: a ++ b) := by
  have hr : ∃ p q, l = p ++ q ∧ q ++ x :: p = .ver s :: a ++ b := by
   cases b with
   | nil =>
    simp only [List.nil_append, List.cons.injEq] at hsb
    obtain ⟨rfl, rfl⟩ := hsb
    exact ⟨l, [], by simp, by simp⟩
   | cons y b =>
    simp only [List.cons_append, List.cons.injEq] at hsb
    obtain ⟨rfl, rfl⟩ := hsb
    exact ⟨b, .ver s :: a, rfl, by simp⟩
  obtain ⟨p, q, hl, e⟩ := hr
  obtain ⟨t0, ht0⟩ : ∃ t0, (q ++ x :: p).getLast? = some t0 := ⟨_, List.getLast?_eq_some_getLast (by simp)⟩
  obtain ⟨c, h1, h2⟩ := key p q hl t0 ht0
  rw [e] at h1
  have h1' := h1
  rw [List.cons_append, At, Option.bind_eq_some_iff] at h1'
  obtain ⟨s', g1, _⟩ := h1'
  have e' : t0.st = s := by
   simp only [step] at g1
   split at g1
   ·assumption
   ·cases g1
  rw [e'] at h1
  refine ⟨s, a ++ b, c, rfl, h1, fun y hy => ?_⟩
  have := (h2 y).1 hy
  rw [hsb] at this
  simp only [List.mem_append, List.mem_cons] at this ⊢
  rcases this with h | h | h <;> simp [h]
 have hrot2 : Rot (.ver s :: a ++ b) (x :: l) := ⟨.ver s :: a, b, rfl, hsb⟩
 have hnx : (x :: l).Nodup := by
  simp only [List.nodup_cons, List.mem_cons, not_or] at hn ⊢
  exact ⟨hn.1.2.2.2, hn.2.2.2.2⟩
 exact (hg.toT (hrot2.nodup.2 hnx)).AMY hrot2
theorem T.leaf {l : List Tok} (h : T l) : (∃ v, l = [.ver v]) ∨ ∃ x v r, Rot l (x :: .arc x.st v :: .ver v :: .arc v x.st :: r) := by
 induction h with
 | one v => exact .inl ⟨v, rfl⟩
 | add x l v h hne hv ih => exact .inr ⟨x, v, l, Rot.refl _⟩
 | rot a b h ih =>
  rcases ih with ⟨v, e⟩ | ⟨x, v, r, hr⟩
  ·have hr : Rot [.ver v] (b ++ a) := ⟨a, b, e.symm, rfl⟩
   exact .inl ⟨v, List.perm_singleton.1 hr.perm.symm⟩
  ·exact .inr ⟨x, v, r, Rot.trans ⟨b, a, rfl, rfl⟩ hr⟩
def HL : List Tok → List Int
 | [] => []
 | .ver v :: l => v :: HL l
 | .arc _ _ :: l => HL l
theorem Ns {v : Int} : ∀ {l : List Tok}, v ∈ HL l ↔ .ver v ∈ l
 | [] => by simp [HL]
 | .ver w :: l => by simp [HL, Ns (l := l)]
 | .arc _ _ :: l => by simp [HL, Ns (l := l)]
theorem Ru (a b : List Tok) : HL (a ++ b) = HL a ++ HL b := by
 induction a with
 | nil => rfl
 | cons t a ih => cases t <;> simp [HL, ih]
theorem T.len {l : List Tok} (h : T l) : l.length + 2 = 3 * (HL l).length := by
 induction h with
 | one v => rfl
 | add x l v h hne hv ih =>
  cases x <;> simp [HL] at ih ⊢ <;> omega
 | rot a b h ih =>
  simp only [Ru, List.length_append] at ih ⊢
  omega
end Go.Pev.Pl.Tok
end
section
namespace Go.Pev.Pl
section
variable {β : Type}
def A7 (es : List (Int × β)) : List Int := es.map Prod.fst
theorem Qu (es : List (Int × β)) : (A7 es).length = es.length := by simp [A7]
theorem F6 (es : List (Int × β)) (k : Int) (v : β) (j : Int) : AT (Ah es k v) j = if j = k then some v else AT es j := by
 induction es with
 | nil =>
  simp only [Ah, AT]
  by_cases h : k = j
  ·simp [h]
  ·simp [h, Ne.symm h]
 | cons e es ih =>
  obtain ⟨a, b⟩ := e
  simp only [Ah]
  by_cases h : a = k
  ·subst h
   simp only [if_true, AT]
   by_cases h2 : a = j
   ·simp [h2]
   ·simp [h2, Ne.symm h2]
  ·simp only [h, if_false, AT, ih]
   by_cases h2 : a = j
   ·subst h2; simp [h]
   ·simp [h2]
theorem Mi (es : List (Int × β)) (k : Int) (v : β) : A7 (Ah es k v) = if k ∈ A7 es then A7 es else A7 es ++ [k] := by
 induction es with
 | nil => rfl
 | cons e es ih =>
  obtain ⟨a, b⟩ := e
  simp only [Ah]
  by_cases h : a = k
  ·subst h; simp [A7]
  ·simp only [h, if_false]
   show a :: A7 (Ah es k v) = _
   rw [ih]
   have : k ∈ A7 ((a, b) :: es) ↔ k ∈ A7 es := by simp [A7, Ne.symm h]
   simp only [this]
   split <;> rfl
theorem Sc (es : List (Int × β)) (k : Int) : AT es k = none ↔ k ∉ A7 es := by
 induction es with
 | nil => simp [AT, A7]
 | cons e es ih =>
  obtain ⟨a, b⟩ := e
  simp only [AT]
  by_cases h : a = k
  ·simp [h, A7]
  ·simp only [h, if_false, ih]
   simp [A7, Ne.symm h]
theorem ER (es : List (Int × β)) (k : Int) (v : β) (j : Int) : j ∈ A7 (Ah es k v) ↔ j = k ∨ j ∈ A7 es := by
 rw [Mi]
 split
 ·rename_i h
  constructor
  ·exact .inr
  ·rintro (rfl | h2)
   ·exact h
   ·exact h2
 ·simp [or_comm]
theorem ID {es : List (Int × β)} (h : (A7 es).Nodup) (k : Int) (v : β) : (A7 (Ah es k v)).Nodup := by
 rw [Mi]
 split
 ·exact h
 ·rename_i hk
  rw [List.nodup_append]
  exact ⟨h, by simp, fun a ha b hb => by rintro rfl; simp at hb; exact hk (hb ▸ ha)⟩
end
def dd : List Int → List Int → List Int
 | ks, [] => ks
 | ks, x :: xs => dd (if x ∈ ks then ks else ks ++ [x]) xs
theorem AZh : ∀ (xs ks : List Int), (dd ks xs).length ≤ ks.length + xs.length ∧ ((dd ks xs).length = ks.length + xs.length ↔ xs.Nodup ∧ ∀ x ∈ xs, x ∉ ks) := by
 intro xs
 induction xs with
 | nil => intro ks; simp [dd]
 | cons x xs ih =>
  intro ks
  rw [dd]
  by_cases h : x ∈ ks
  ·obtain ⟨h1, _⟩ := ih ks
   rw [if_pos h]
   refine ⟨by simp only [List.length_cons]; omega, ?_, fun hh => absurd h (hh.2 x (by simp))⟩
   intro e
   simp only [List.length_cons] at e
   omega
  ·obtain ⟨h1, h2⟩ := ih (ks ++ [x])
   rw [if_neg h]
   simp only [List.length_append, List.length_cons, List.length_nil, Nat.zero_add] at h1 h2 ⊢
   refine ⟨by omega, ?_⟩
   rw [show ks.length + (xs.length + 1) = ks.length + 1 + xs.length by omega, h2, List.nodup_cons]
   constructor
   ·rintro ⟨g1, g2⟩
    refine ⟨⟨fun hx => g2 x hx (by simp), g1⟩, fun y hy => ?_⟩
    rcases List.mem_cons.1 hy with rfl | hy
    ·exact h
    ·exact fun hk => g2 y hy (by simp [hk])
   ·rintro ⟨⟨g1, g2⟩, g3⟩
    refine ⟨g2, fun y hy hk => ?_⟩
    simp only [List.mem_append, List.mem_singleton] at hk
    rcases hk with hk | rfl
    ·exact g3 y (by simp [hy]) hk
    ·exact g1 hy
theorem AWe (xs : List Int) : (dd [] xs).length = xs.length ↔ xs.Nodup := by
 have := (AZh xs []).2
 simpa using this
theorem Bd {α β ρ : Type} (g : β → α → α) (fin : α → ρ) : ∀ (xs : List β) (a : α), walk (fun x a => .inl (g x a)) fin xs a = fin (xs.foldl (fun a x => g x a) a) := by
 intro xs
 induction xs with
 | nil => intro a; rfl
 | cons x xs ih => intro a; rw [walk, List.foldl_cons]; exact ih _
theorem L4 {σ ρ β : Type} {step : σ → Option (σ ⊕ ρ)} (st : Nat → σ) (xs : List β) (P : β → Bool) (rt : Nat → ρ) (rf : ρ) (hs : xs.length < 9223372036854775808)
  (h : ∀ i x, i < xs.length → xs[i]? = some x → step (st i) = if P x then some (.inr (rt i)) else some (.inl (st (i + 1)))) (hN : step (st xs.length) = some (.inr rf)) :
  AY step many (st 0) = some (if xs.any P then rt (xs.findIdx P) else rf) := by
 have key : ∀ (l : List β) (a : Nat), walk (fun x (a : Nat) => if P x then .inr (rt a) else .inl (a + 1)) (fun _ => rf) l a = if l.any P then rt (a + l.findIdx P) else rf := by
  intro l
  induction l with
  | nil => intro a; rfl
  | cons x l ih =>
   intro a
   rw [walk, List.any_cons, List.findIdx_cons]
   by_cases hx : P x = true
   ·simp [hx]
   ·simp only [hx, Bool.false_eq_true, if_false, Bool.false_or, cond_false]
    rw [ih, show a + 1 + List.findIdx P l = a + (List.findIdx P l + 1) by omega]
 have := D2 (step := step) (fun i (a : Nat) => st a) xs (fun x (a : Nat) => if P x then .inr (rt a) else .inl (a + 1)) (fun _ => rf) (fun i a => a = i) hs
  (fun i x a hi hx ha => by
   subst ha
   refine ⟨fun a' h' => ?_, fun r h' => ?_⟩
   ·rw [h a x hi hx]
    split at h'
    ·cases h'
    ·rename_i hp
     cases h'
     simp [hp]
   ·rw [h a x hi hx]
    split at h'
    ·rename_i hp
     cases h'
     simp [hp]
    ·cases h')
  (fun a ha => by subst ha; exact hN) 0 rfl
 rw [this, key, Nat.zero_add]
theorem An {α : Type} {xs : List α} {n : Nat} {x : α} (h : xs[n]? = some x) : idx xs (n : Int) = some x := by rw [AEq, h]
theorem ABf {α : Type} {xs : List α} {n : Nat} {x z : α} (h : xs[n]? = some x) : AS xs (AG (n : Int)) z = x := by
 rw [JE, List.getD_eq_getElem?_getD, h]; rfl
theorem PX {α : Type} {xs : List α} {h : Nat} (h2 : h ≤ xs.length) : DY xs (0 : Int) (h : Int) = some (xs.take h) := by
 have := ACj (xs := xs) (l := 0) (Nat.zero_le h) h2
 simpa using this
theorem Gg {α : Type} {xs : List α} {l : Nat} (h1 : l ≤ xs.length) : DY xs (l : Int) (AM xs) = some (xs.drop l) := by
 have := ACj (xs := xs) h1 (Nat.le_refl _)
 rw [List.take_length] at this
 exact this
def pos (xs : List Int) (t : Int) : Int := if t ∈ xs then ((xs.findIdx (fun x => decide (x = t)) : Nat) : Int) else -1
theorem AQH (xs : List Int) (t : Int) : (xs.any fun x => decide (x = t)) = decide (t ∈ xs) := by
 induction xs with
 | nil => rfl
 | cons x xs ih => simp only [List.any_cons, ih, List.mem_cons, Bool.decide_or]; congr 1; exact decide_eq_decide.2 eq_comm
theorem Vw {xs : List Int} {t : Int} (h : t ∈ xs) : ∃ k : Nat, pos xs t = (k : Int) ∧ k < xs.length ∧ xs[k]? = some t ∧ xs = xs.take k ++ t :: xs.drop (k + 1) ∧ t ∉ xs.take k := by
 have hk : xs.findIdx (fun x => decide (x = t)) < xs.length := List.findIdx_lt_length.2 ⟨t, h, by simp⟩
 have hg : xs[xs.findIdx (fun x => decide (x = t))]'hk = t := by
  have := List.findIdx_getElem (xs := xs) (p := fun x => decide (x = t)) (w := hk)
  simpa using this
 refine ⟨_, by rw [pos, if_pos h], hk, by rw [List.getElem?_eq_getElem hk, hg], ?_, ?_⟩
 ·conv => lhs; rw [← List.take_append_drop (xs.findIdx (fun x => decide (x = t))) xs, List.drop_eq_getElem_cons hk, hg]
 ·intro hm
  obtain ⟨j, hj, e⟩ := List.mem_take_iff_getElem.1 hm
  have := List.not_of_lt_findIdx (p := fun x => decide (x = t)) (xs := xs) (i := j) (by omega)
  simp [e] at this
theorem K0 {xs : List Int} {t : Int} (h : t ∉ xs) : pos xs t = -1 := by rw [pos, if_neg h]
end Go.Pev.Pl
end
section
section
namespace Go.Pev.Pl
open Tok
def In (n v : Int) : Prop := 1 ≤ n ∧ n ≤ 64 ∧ 0 ≤ v ∧ v < n
instance (n v : Int) : Decidable (In n v) := inferInstanceAs (Decidable (_ ∧ _))
def Sz (n : Int) : Prop := 1 ≤ n ∧ n ≤ 64
instance (n : Int) : Decidable (Sz n) := inferInstanceAs (Decidable (_ ∧ _))
theorem Ii (n : Int) : Jh (n, ()) = some (decide (Sz n), ()) := by
 rw [AAb, NQ]
 simp only [Aq]
 by_cases h1 : 1 ≤ n <;> by_cases h2 : n ≤ 64 <;> simp [Sz, h1, h2]
theorem ACg (n v : Int) : tin (n, v, ()) = some (decide (In n v), ()) := by
 rw [AT6, AO6]
 simp only [Ii, Aq, Am]
 by_cases h1 : 1 ≤ n <;> by_cases h2 : n ≤ 64 <;> by_cases h3 : 0 ≤ v <;> simp [In, Sz, h1, h2, h3]
def AZ1 (n v : Int) : Int := if In n v then v else -1
def Cn (n u v : Int) : Int := if In n u ∧ In n v ∧ u ≠ v then n * (u + 1) + v else -1
theorem El {n u : Int} (h1 : 1 ≤ n) (h2 : n ≤ 64) (h3 : 0 ≤ u) (h4 : u ≤ 64) : 0 ≤ n * u ∧ n * u ≤ 4096 := by
 refine ⟨Int.mul_nonneg (by omega) h3, ?_⟩
 have := Int.mul_le_mul h2 h4 h3 (by omega)
 omega
theorem AGe (n u v : Int) : AQw (n, u, v, ()) = some (Cn n u v, ()) := by
 rw [AO7, ACi]
 simp only [ACg, Cn, A1]
 by_cases h3 : u = v
 ·simp [h3]
 ·by_cases h1 : In n u
  ·by_cases h2 : In n v
   ·obtain ⟨a1, a2, a3, a4⟩ := h1
    obtain ⟨b1, b2, b3, b4⟩ := h2
    have hb := El (u := u + 1) a1 a2 (by omega) (by omega)
    rw [Af (n := u + 1) (by omega), Af (n := n * (u + 1)) (by omega), Af (n := n * (u + 1) + v) (by omega)]
    simp [In, a1, a2, a3, a4, b3, b4, h3]
   ·simp [h1, h2, h3]
  ·simp [h1, h3]
def Bp (n t : Int) : Option Tok :=
 if In n t then some (.ver t)
 else if Sz n ∧ n ≤ t ∧ t < n * (n + 1) ∧ t / n - 1 ≠ t % n then some (.arc (t / n - 1) (t % n))
 else none
def Lq : Option Tok → Int × Int × Bool × Bool × Unit
 | some (.ver v) => (v, 0, false, true, ())
 | some (.arc u v) => (u, v, true, true, ())
 | none => (0, 0, false, false, ())
def CS (n : Int) : Tok → Int
 | .ver v => v
 | .arc u v => n * (u + 1) + v
def okT (n : Int) : Tok → Prop
 | .ver v => In n v
 | .arc u v => In n u ∧ In n v ∧ u ≠ v
theorem OJ {n u v : Int} (h1 : In n u) (h2 : In n v) : n ≤ n * (u + 1) + v ∧ n * (u + 1) + v < n * (n + 1) ∧ (n * (u + 1) + v) / n = u + 1 ∧ (n * (u + 1) + v) % n = v := by
 obtain ⟨a1, a2, a3, a4⟩ := h1
 obtain ⟨b1, b2, b3, b4⟩ := h2
 have e2 : n * (u + 1) = n * u + n := by rw [Int.mul_add, Int.mul_one]
 have e3 : n * (n + 1) = n * n + n := by rw [Int.mul_add, Int.mul_one]
 have hb := El (u := u) a1 a2 (by omega) (by omega)
 have hle : n * (u + 1) ≤ n * n := Int.mul_le_mul_of_nonneg_left (by omega) (by omega)
 have hd : (n * (u + 1) + v) / n = u + 1 := by
  rw [Int.add_comm, Int.add_mul_ediv_left _ _ (by omega), Int.ediv_eq_zero_of_lt b3 b4]; omega
 have hm : (n * (u + 1) + v) % n = v := by
  rw [Int.add_comm, Int.add_mul_emod_self_left, Int.emod_eq_of_lt b3 b4]
 exact ⟨by omega, by omega, hd, hm⟩
theorem AFE {n t : Int} (hn : Sz n) (h1 : n ≤ t) (h2 : t < n * (n + 1)) : In n (t / n - 1) ∧ In n (t % n) ∧ n * (t / n - 1 + 1) + t % n = t := by
 obtain ⟨a1, a2⟩ := hn
 have g1 : 1 ≤ t / n := (Int.le_ediv_iff_mul_le (by omega)).2 (by omega)
 have g2 : t / n < n + 1 := (Int.ediv_lt_iff_lt_mul (by omega)).2 (by rw [Int.mul_comm]; exact h2)
 have g3 := Int.emod_nonneg t (show n ≠ 0 by omega)
 have g4 := Int.emod_lt_of_pos t (show 0 < n by omega)
 have g5 := Int.mul_ediv_add_emod t n
 refine ⟨⟨a1, a2, by omega, by omega⟩, ⟨a1, a2, g3, g4⟩, ?_⟩
 rw [Int.sub_add_cancel]
 exact g5
theorem B1 {n : Int} {t : Tok} (h : okT n t) : Bp n (CS n t) = some t := by
 cases t with
 | ver v => simp only [okT] at h; simp [Bp, CS, h]
 | arc u v =>
  obtain ⟨h1, h2, h3⟩ := h
  obtain ⟨g1, g2, g3, g4⟩ := OJ h1 h2
  have hni : ¬ In n (n * (u + 1) + v) := fun h => by have := h.2.2.2; omega
  have : u + 1 - 1 = u := by omega
  simp only [Bp, CS, hni, if_false, g3, g4, this]
  rw [if_pos ⟨⟨h1.1, h1.2.1⟩, g1, g2, h3⟩]
theorem IQ {n x : Int} {t : Tok} (h : Bp n x = some t) : okT n t ∧ CS n t = x := by
 rw [Bp] at h
 split at h
 ·cases h; exact ⟨by assumption, rfl⟩
 ·split at h
  ·rename_i hh
   cases h
   obtain ⟨d1, d2, d3⟩ := AFE hh.1 hh.2.1 hh.2.2.1
   exact ⟨⟨d1, d2, hh.2.2.2⟩, d3⟩
  ·cases h
theorem Cm {n u v : Int} (h : okT n (.arc u v)) : Cn n u v = CS n (.arc u v) := by
 simp only [okT] at h
 rw [Cn, if_pos h]; rfl
theorem FL {n : Int} {a b : Tok} (ha : okT n a) (hb : okT n b) (h : CS n a = CS n b) : a = b := by
 have := B1 ha
 rw [h, B1 hb] at this
 exact (Option.some.inj this).symm
theorem AKY (n t : Int) (ht : -9223372036854775808 ≤ t ∧ t ≤ 9223372036854775807) : UN (n, t, ()) = some (Lq (Bp n t)) := by
 rw [AAa, NP]
 simp only [Ii]
 by_cases hs : Sz n
 ·obtain ⟨a1, a2⟩ := hs
  have hb := El (u := n) a1 a2 (by omega) (by omega)
  have e3 : n * (n + 1) = n * n + n := by rw [Int.mul_add, Int.mul_one]
  rw [Af (n := n + 1) (by omega), Af (n := n * (n + 1)) (by omega)]
  simp only [Sz, a1, a2, and_self, decide_true, Bool.not_true, Am, Aq]
  by_cases h1 : t < 0
  ·have hni : ¬ In n t := fun h => by have := h.2.2.1; omega
   have h2 : ¬ n ≤ t := by omega
   simp only [h1, decide_true, Bp, hni, if_false, h2, false_and, and_false, Lq]
  ·simp only [h1, decide_false]
   by_cases h2 : n * (n + 1) ≤ t
   ·have hni : ¬ In n t := fun h => by have := h.2.2.2; omega
    have h3 : ¬ t < n * (n + 1) := by omega
    simp only [h2, decide_true, Bp, hni, if_false, h3, false_and, and_false, Lq]
   ·simp only [h2, decide_false]
    by_cases h3 : t < n
    ·have hi : In n t := ⟨a1, a2, by omega, h3⟩
     simp only [h3, decide_true, Bp, hi, if_true, Lq]
    ·have hni : ¬ In n t := fun h => h3 h.2.2.2
     have hq : t.tdiv n = t / n := Int.tdiv_eq_ediv_of_nonneg (by omega)
     have hm : t.tmod n = t % n := Int.tmod_eq_emod_of_nonneg (by omega)
     obtain ⟨d1, d2, d3⟩ := AFE (t := t) ⟨a1, a2⟩ (by omega) (by omega)
     have q1 := d1.2.2.1
     have q2 := d1.2.2.2
     simp only [h3, decide_false, Po, Na, Vq, Pn]
     rw [if_neg (by omega), if_neg (by omega), hq, hm, Af (n := t / n) (by omega)]
     simp only []
     rw [Af (n := t / n - 1) (by omega), A1, Bp, if_neg hni]
     by_cases h4 : t / n - 1 = t % n
     ·rw [if_neg (by intro h; exact h.2.2.2 h4), decide_eq_true h4]; rfl
     ·rw [if_pos ⟨⟨a1, a2⟩, by omega, by omega, h4⟩, decide_eq_false h4]; rfl
 ·have hni : ¬ In n t := fun h => hs ⟨h.1, h.2.1⟩
  simp only [hs, decide_false, Bool.not_false, Bp, hni, if_false, false_and, Lq]
theorem ANQ (xs ys : List Int) (hs : xs.length < 9223372036854775808) : KJ (xs, ys, ()) = some (decide (xs = ys), ()) := by
 rw [ABS, Nx, Xz]
 by_cases hl : xs.length = ys.length
 ·rw [decide_eq_true hl]
  simp only [Bool.not_true]
  rcases APD (step := EB) (fun i => (xs, ys, ((i : Nat) : Int), ())) xs.length (fun i => !decide (xs.getD i 0 = ys.getD i 0)) (fun _ => .inl (false, ())) (.inr (.inl ())) hs (fun i hi => by
   rw [EB, AO, AN, decide_eq_true hi]
   simp (disch := omega) only [EC (0 : Int), AL, A1]
   by_cases h : xs.getD i 0 = ys.getD i 0
   ·rw [decide_eq_true h]; simp
   ·rw [decide_eq_false h]; simp) (by rw [EB, AO, AN, decide_eq_false (by omega)]) with ⟨k, hk, hP, _, e⟩ | ⟨h, e⟩
  ·have e' : AY EB many (xs, ys, (0 : Int), ()) = _ := e
   rw [e']
   have : xs ≠ ys := Sa (0 : Int) (j := k) (by simpa using hP)
   simp [this]
  ·have e' : AY EB many (xs, ys, (0 : Int), ()) = _ := e
   rw [e']
   have : xs = ys := JA (0 : Int) hl fun j hj => by simpa using h j hj
   simp [this]
 ·rw [decide_eq_false hl]
  have : xs ≠ ys := fun e => hl (by rw [e])
  simp [this]
def BE (n : Nat) : List (List Int) := (List.range n).map fun (v : Nat) => [(v : Int)]
theorem NU (n : Nat) : BE (n + 1) = BE n ++ [[(n : Int)]] := by simp [BE, List.range_succ]
theorem R1 (n : Nat) : (BE n).length = n := by simp [BE]
theorem AKl (N : Nat) (hN : N ≤ 64) (c : Int) : ∀ (k i n : Nat), i + k = N → k < n → AQ Ge n (c, (N : Int), BE i, (N : Int), (i : Int), ()) = some (.inl (c, (N : Int), BE N, ())) := by
 intro k
 induction k with
 | zero =>
  intro i n hi hn
  obtain ⟨n, rfl⟩ : ∃ k, n = k + 1 := ⟨n - 1, by omega⟩
  have : i = N := by omega
  subst this
  rw [AQ, Ge, AN, decide_eq_false (by omega)]
 | succ k ih =>
  intro i n hi hn
  obtain ⟨n, rfl⟩ : ∃ k, n = k + 1 := ⟨n - 1, by omega⟩
  rw [AQ, Ge, AN, decide_eq_true (by omega)]
  simp only [AO, R1, List.length_cons, List.length_nil]
  rw [BY (by omega), AL (by omega)]
  simp only [Cf, ← NU]
  exact ih (i + 1) n (by omega) (by omega)
def F5 (n : Int) : Int × List (List Int) × Int × Unit := if Sz n then (n, BE n.toNat, 0, ()) else (0, [], 1, ())
theorem AAr (n : Int) : AGc (n, ()) = some (F5 n) := by
 have hm : 4294967296 < many := by simp only [many]; omega
 rw [AGb, Tg, F5]
 simp only [Ii]
 by_cases h : Sz n
 ·obtain ⟨h1, h2⟩ := h
  obtain ⟨N, rfl⟩ := Int.eq_ofNat_of_zero_le (show 0 ≤ n by omega)
  have hS : Sz (N : Int) := ⟨by omega, by omega⟩
  have e := AKl N (by omega) 0 N 0 many (by omega) (by omega)
  have e' : AQ Ge many (0, (N : Int), [], (N : Int), (0 : Int), ()) = _ := e
  simp [hS, Aj, e']
 ·simp [h]
end Go.Pev.Pl
end
section
namespace Go.Pev.Pl
theorem Mm (xs : List Int) (t : Int) (hs : xs.length < 9223372036854775808) : Mn (xs, t, ()) = some (pos xs t, ()) := by
 rw [ABV, N1]
 have e := L4 (step := En) (fun i => (xs, t, AM xs, (i : Int), ())) xs (fun x => decide (x = t)) (fun i => .inl ((i : Int), ())) (.inr (.inl ())) hs
  (fun i x hi hx => by
   rw [En, AO, AN, decide_eq_true hi]
   simp only [An hx, A1]
   by_cases h : x = t
   ·simp [h]
   ·simp only [h, Ne.symm h, decide_false]; rw [AL (by omega)]; simp)
  (by rw [En, AO, AN, decide_eq_false (by omega)])
 have e' : AY En many (xs, t, AM xs, (0 : Int), ()) = _ := e
 rw [e', AQH, pos]
 by_cases h : t ∈ xs <;> simp [h]
theorem H4 (xs : List Int) (t : Int) (hs : xs.length < 9223372036854775808) : Ez (xs, t, ()) = some (decide (t ∈ xs), ()) := by
 rw [OM, Hh]
 simp only [Mm xs t hs, Aq]
 by_cases h : t ∈ xs
 ·obtain ⟨k, e, _⟩ := Vw h
  rw [e]; simp [h]
 ·rw [K0 h]; simp [h]
def Rt (xs : List Int) : Prop := xs.length ≤ 1000 ∧ (∀ x ∈ xs, 0 ≤ x ∧ x ≤ 10000) ∧ xs.Nodup
instance (xs : List Int) : Decidable (Rt xs) := inferInstanceAs (Decidable (_ ∧ _ ∧ _))
theorem Nr (xs : List Int) : xs.Nodup ↔ ∀ i, i < xs.length → xs.getD i 0 ∉ xs.take i := by
 rw [List.Nodup, List.pairwise_iff_getElem]
 constructor
 ·intro h i hi hm
  obtain ⟨j, hj, e⟩ := List.mem_take_iff_getElem.1 hm
  have := h j i (by omega) hi (by omega)
  rw [List.getD_eq_getElem?_getD, List.getElem?_eq_getElem hi, Option.getD_some] at e
  exact this e
 ·intro h i j hi hj hij e
  apply h j hj
  rw [List.getD_eq_getElem?_getD, List.getElem?_eq_getElem hj, Option.getD_some, ← e]
  exact List.mem_take_iff_getElem.2 ⟨i, by omega, rfl⟩
theorem AJt (xs : List Int) (hs : xs.length < 9223372036854775808) : Dc (xs, ()) = some (xs.any (fun x => decide (x < 0) || decide (10000 < x)), ()) := by
 rw [IU, Dk, Jb, EV]
 have e := L4 (step := Bv) (fun i => (xs, AM xs, (i : Int), ())) xs (fun x => decide (x < 0) || decide (10000 < x)) (fun i => .inl ((i : Int), ())) (.inr (.inl ())) hs
  (fun i x hi hx => by
   rw [Bv, AO, AN, decide_eq_true hi]
   simp only [An hx, Am]
   rw [AL (by omega)]
   by_cases h : x < 0
   ·simp [h]
   ·by_cases h2 : 10000 < x
    ·simp [h, h2]
    ·simp [h, h2])
  (by rw [Bv, AO, AN, decide_eq_false (by omega)])
 have e' : AY Bv many (xs, AM xs, (0 : Int), ()) = _ := e
 rw [e']
 generalize (xs.any fun x => decide (x < 0) || decide (10000 < x)) = b
 cases b <;> simp [Aq]
theorem AVN (xs : List Int) (hs : xs.length < 9223372036854775808) : once (xs, ()) = some (decide xs.Nodup, ()) := by
 rw [APX, ADv]
 have e := D2 (step := Iy) (fun i m => (xs, m, xs, AM xs, (i : Int), ())) xs (fun x m => .inl (Ah m x (IntKind.wrap .i64 (((AT m x).getD (0 : Int)) + (1 : Int))))) (fun m => .inl (xs, m, ())) (fun _ _ => True) hs
  (fun i x m hi hx _ => by
   refine ⟨fun m' h' => ?_, fun r h' => by cases h'⟩
   cases h'
   rw [Iy, AO, AN, decide_eq_true hi]
   simp only [An hx]
   rw [AL (by omega)]
   exact ⟨rfl, trivial⟩)
  (fun m _ => by rw [Iy, AO, AN, decide_eq_false (by omega)]) [] trivial
 have e' : AY Iy many (xs, ([] : List (Int × Int)), xs, AM xs, (0 : Int), ()) = _ := e
 rw [e', Bd]
 have key : ∀ (l : List Int) (m : List (Int × Int)), A7 (l.foldl (fun m x => Ah m x (IntKind.wrap .i64 (((AT m x).getD (0 : Int)) + (1 : Int)))) m) = dd (A7 m) l := by
  intro l
  induction l with
  | nil => intro m; rfl
  | cons x l ih => intro m; rw [List.foldl_cons, ih, Mi, dd]
 have hk := key xs []
 generalize xs.foldl (fun m x => Ah m x (IntKind.wrap .i64 (((AT m x).getD (0 : Int)) + (1 : Int)))) [] = m at *
 simp only [Xz]
 have : m.length = (dd [] xs).length := by rw [← Qu, hk]; rfl
 rw [this]
 simp only [AWe]
theorem MM (xs : List Int) : MN (xs, ()) = some (decide (Rt xs), ()) := by
 rw [AAy, NV, AO, Am]
 by_cases hl : xs.length ≤ 1000
 ·rw [decide_eq_false (by omega)]
  simp only [AJt xs (by omega), AVN xs (by omega)]
  have hany : (xs.any fun x => decide (x < 0) || decide (10000 < x)) = !decide (∀ x ∈ xs, 0 ≤ x ∧ x ≤ 10000) := by
   rw [Bool.eq_iff_iff]
   simp only [List.any_eq_true, Bool.or_eq_true, decide_eq_true_eq, Bool.not_eq_true', decide_eq_false_iff_not]
   constructor
   ·rintro ⟨x, hx, h⟩ hh
    have := hh x hx
    omega
   ·intro h
    refine Classical.byContradiction fun hc => h fun x hx => ?_
    refine Classical.byContradiction fun hn => hc ⟨x, hx, by omega⟩
  rw [hany]
  by_cases h1 : ∀ x ∈ xs, 0 ≤ x ∧ x ≤ 10000
  ·rw [decide_eq_true h1]
   by_cases h2 : xs.Nodup
   ·rw [decide_eq_true h2, decide_eq_true (show Rt xs from ⟨hl, h1, h2⟩)]; rfl
   ·rw [decide_eq_false h2, decide_eq_false (show ¬ Rt xs from fun h => h2 h.2.2)]; rfl
  ·rw [decide_eq_false h1, decide_eq_false (show ¬ Rt xs from fun h => h1 h.2.1)]; rfl
 ·rw [decide_eq_true (by omega), decide_eq_false (show ¬ Rt xs from fun h => hl h.1)]
def rot (xs : List Int) (k : Nat) : List Int := xs.drop k ++ xs.take k
theorem ASs (n : Nat) (hn : n < 4294967296) : AJM ((n : Int), ()) = some ([], ()) := by
 have e0 : IntKind.wrap .i64 ((n : Int) - IntKind.wrap .i64 ((0 : Int) - 0)) = (n : Int) := by rw [Af (n := (0 : Int) - 0) (by omega), Af (by omega)]; omega
 rw [AJL, T1]
 simp only [e0, Am]
 rw [decide_eq_false (by omega)]
 simp only []
 by_cases h : 0 < n
 ·rw [decide_eq_true (by omega)]
  have s1 : DY ([] : List Unit) (0 : Int) (0 : Int) = some [] := by rw [Th]; rfl
  have s2 : DY (KU (AG (n : Int)) (0 : Int)) (0 : Int) (0 : Int) = some [] := by
   rw [Th, Jk, if_pos (by omega)]
   simp
  have s3 : L3 (n : Int) = true := (LX _).2 (by omega)
  simp only [s1, s2, s3]
  rfl
 ·rw [decide_eq_false (by omega)]
theorem He {α : Type} {xss : List (List α)} {i : Nat} {x : List α} (h : xss[i]? = some x) : (xss.take (i + 1)).flatten = (xss.take i).flatten ++ x := by
 rw [List.take_add_one, h]; simp
theorem Jc {α : Type} (xss : List (List α)) (i : Nat) : (xss.take i).flatten.length ≤ xss.flatten.length := by
 conv => rhs; rw [← List.take_append_drop i xss, List.flatten_append, List.length_append]
 omega
theorem KZ (xss : List (List Int)) (hs : xss.length < 4294967296) (h : xss.flatten.length < 4294967296) : Hi (xss, ()) = some (xss.flatten, ()) := by
 rw [Yf, La]
 have e := D2 (step := Dx) (fun i (a : Nat) => (xss, (a : Int), xss, AM xss, (i : Int), ())) xss (fun x a => .inl (a + x.length)) (fun a => .inl (xss, (a : Int), ())) (fun i a => a = (xss.take i).flatten.length) (by omega)
  (fun i x a hi hx ha => by
   refine ⟨fun m' h' => ?_, fun r h' => by cases h'⟩
   cases h'
   have h1 := He hx
   have h2 := Jc xss (i + 1)
   rw [h1, List.length_append] at h2
   rw [Dx]
   simp only [AO]
   rw [AN, decide_eq_true hi]
   simp only [An hx]
   rw [wrap_add (by omega), AL (by omega), Am, decide_eq_false (by omega)]
   exact ⟨rfl, by rw [h1, List.length_append, ha]⟩)
  (fun a _ => by rw [Dx, AO, AN, decide_eq_false (by omega)]) 0 rfl
 have e' : AY Dx many (xss, (0 : Int), xss, AM xss, (0 : Int), ()) = _ := e
 rw [e', Bd]
 have hsum : ∀ (l : List (List Int)) (a : Nat), l.foldl (fun a x => a + x.length) a = a + l.flatten.length := by
  intro l
  induction l with
  | nil => intro a; rfl
  | cons x l ih => intro a; rw [List.foldl_cons, ih, List.flatten_cons, List.length_append]; omega
 rw [hsum, Nat.zero_add]
 simp only [ASs _ h]
 have g := D2 (step := Dw) (fun i (a : List Int) => (a, xss, AM xss, (i : Int), ())) xss (fun x a => .inl (a ++ x)) (fun a => .inl (a, ())) (fun i a => a = (xss.take i).flatten) (by omega)
  (fun i x a hi hx ha => by
   refine ⟨fun m' h' => ?_, fun r h' => by cases h'⟩
   cases h'
   have h1 := He hx
   have h2 := Jc xss (i + 1)
   rw [h1, List.length_append] at h2
   rw [Dw]
   simp only [AO]
   rw [AN, decide_eq_true hi]
   simp only [An hx]
   rw [AL (by omega), BY (by rw [ha]; omega)]
   exact ⟨rfl, by rw [h1, ha]⟩)
  (fun a _ => by rw [Dw, AO, AN, decide_eq_false (by omega)]) [] rfl
 have g' : AY Dw many ([], xss, AM xss, (0 : Int), ()) = _ := g
 rw [g', Bd]
 have hcat : ∀ (l : List (List Int)) (a : List Int), l.foldl (fun a x => a ++ x) a = a ++ l.flatten := by
  intro l
  induction l with
  | nil => intro a; simp
  | cons x l ih => intro a; rw [List.foldl_cons, ih, List.flatten_cons, List.append_assoc]
 rw [hcat]
 rfl
theorem UG (xs : List Int) (k : Nat) (hk : k ≤ xs.length) (hs : xs.length < 2147483648) : PK (xs, (k : Int), ()) = some (rot xs k, ()) := by
 rw [AAZ, NO]
 simp only [Gg hk, PX hk]
 rw [KZ _ (by simp) (by simp; omega)]
 simp [rot]
def A2 (xs : List Int) (t : Int) : List Int := rot xs (xs.findIdx (fun x => decide (x = t)))
def Hd (xs : List Int) (t : Int) : List Int × Bool × Unit := if Rt xs ∧ t ∈ xs then (A2 xs t, true, ()) else ([], false, ())
theorem Vc {xs : List Int} {t : Int} (h : t ∈ xs) : ∃ a b, xs = a ++ t :: b ∧ t ∉ a ∧ A2 xs t = t :: b ++ a := by
 obtain ⟨k, e, hk, hg, h1, h2⟩ := Vw h
 rw [pos, if_pos h] at e
 have e' : xs.findIdx (fun x => decide (x = t)) = k := by omega
 refine ⟨_, _, h1, h2, ?_⟩
 rw [A2, e', rot]
 congr 1
 rw [List.drop_eq_getElem_cons hk]
 congr 1
 simpa [hk] using hg
theorem AA0 (xs : List Int) (t : Int) : AA1 (xs, t, ()) = some (Hd xs t) := by
 rw [AG6, Tl, AA8, Nb, Hd]
 simp only [MM]
 by_cases hr : Rt xs
 ·have hl := hr.1
  simp only [hr, decide_true, Bool.not_true, true_and]
  have e : AY D5 many (xs, [], [t], AM [t], (0 : Int), ()) = some (.inl ([pos xs t], ())) := by
   have g := D2 (step := D5) (fun i (a : List Int) => (xs, a, [t], AM [t], (i : Int), ())) [t] (fun x a => .inl (a ++ [pos xs x])) (fun a => .inl (a, ())) (fun i a => a.length = i) (by simp)
    (fun i x a hi hx ha => by
     refine ⟨fun m' h' => ?_, fun r h' => by cases h'⟩
     cases h'
     rw [D5, AO, AN, decide_eq_true hi]
     simp only [An hx, Mm xs x (by omega)]
     simp only [List.length_cons, List.length_nil] at hi
     rw [AL (by omega), BY (by simp only [AO, List.length_cons, List.length_nil]; omega)]
     exact ⟨rfl, by simp [ha]⟩)
    (fun a _ => by rw [D5, AO, AN, decide_eq_false (by omega)]) [] rfl
   have g' : AY D5 many (xs, [], [t], AM [t], (0 : Int), ()) = _ := g
   rw [g']; rfl
  rw [e]
  simp only [H4 [pos xs t] (-1) (by simp)]
  by_cases h : t ∈ xs
  ·have hk : xs.findIdx (fun x => decide (x = t)) < xs.length := List.findIdx_lt_length.2 ⟨t, h, by simp⟩
   rw [pos, if_pos h, if_pos h, A2]
   generalize xs.findIdx (fun x => decide (x = t)) = k at *
   rw [decide_eq_false (by simp)]
   have i0 : idx [(k : Int)] (0 : Int) = some (k : Int) := by rw [FZ]; rfl
   have d0 : AS [(k : Int)] 0 (0 : Int) = (k : Int) := rfl
   simp only [Bool.not_false, Bool.not_true, i0, d0, UG xs k (by omega) (by omega)]
  ·rw [K0 h, if_neg h]
   simp
 ·simp [hr]
def FX : List Int → Int
 | [] => 0
 | x :: xs => xs.foldl (fun a y => Cy a y) x
theorem ANs : ∀ (xs : List Int) (a : Int), (xs.foldl (fun a y => Cy a y) a) ≤ a ∧ (∀ x ∈ xs, xs.foldl (fun a y => Cy a y) a ≤ x) ∧ (xs.foldl (fun a y => Cy a y) a = a ∨ xs.foldl (fun a y => Cy a y) a ∈ xs) := by
 intro xs
 induction xs with
 | nil => intro a; simp
 | cons x xs ih =>
  intro a
  rw [List.foldl_cons]
  obtain ⟨h1, h2, h3⟩ := ih (Cy a x)
  have hm : Cy a x ≤ a ∧ Cy a x ≤ x ∧ (Cy a x = a ∨ Cy a x = x) := by
   rw [Cy]; split <;> omega
  refine ⟨by omega, fun y hy => ?_, ?_⟩
  ·rcases List.mem_cons.1 hy with rfl | hy
   ·omega
   ·exact h2 y hy
  ·rcases h3 with h | h
   ·rcases hm.2.2 with e | e
    ·exact .inl (by rw [h, e])
    ·exact .inr (by rw [h, e]; simp)
   ·exact .inr (List.mem_cons_of_mem _ h)
theorem D9 {xs : List Int} (h : xs ≠ []) : FX xs ∈ xs ∧ ∀ x ∈ xs, FX xs ≤ x := by
 cases xs with
 | nil => exact absurd rfl h
 | cons x xs =>
  obtain ⟨h1, h2, h3⟩ := ANs xs x
  refine ⟨?_, fun y hy => ?_⟩
  ·rcases h3 with h | h
   ·rw [FX, h]; simp
   ·exact List.mem_cons_of_mem _ h
  ·rcases List.mem_cons.1 hy with rfl | hy
   ·exact h1
   ·exact h2 y hy
theorem AXs {xs : List Int} {m : Int} (h1 : m ∈ xs) (h2 : ∀ x ∈ xs, m ≤ x) : FX xs = m := by
 obtain ⟨g1, g2⟩ := D9 (List.ne_nil_of_mem h1)
 have := g2 m h1
 have := h2 _ g1
 omega
theorem AIV (xs : List Int) (h : xs ≠ []) (hs : xs.length < 9223372036854775808) : ARu (xs, ()) = some (FX xs, ()) := by
 cases xs with
 | nil => exact absurd rfl h
 | cons x xs =>
  rw [APg, AD3, AO, Am, decide_eq_false (by simp only [List.length_cons]; omega)]
  have i0 : idx (x :: xs) (0 : Int) = some x := by rw [FZ]; rfl
  simp only [i0]
  simp only [List.length_cons] at hs
  have e := D2 (step := I2) (fun i (a : Int) => (x :: xs, a, ((i + 1 : Nat) : Int), ())) xs (fun y a => .inl (Cy a y)) (fun a => .inl (a, ())) (fun _ _ => True) (by omega)
   (fun i y a hi hy _ => by
    refine ⟨fun m' h' => ?_, fun r h' => by cases h'⟩
    cases h'
    rw [I2, AO, AN, decide_eq_true (by simp only [List.length_cons]; omega)]
    simp only [An (xs := x :: xs) (n := i + 1) (by simpa using hy)]
    rw [AL (by omega)]
    exact ⟨rfl, trivial⟩)
   (fun a _ => by rw [I2, AO, AN, decide_eq_false (by simp)]) x trivial
  have e' : AY I2 many (x :: xs, x, (1 : Int), ()) = _ := e
  rw [e', Bd]
  rfl
def plain (xs : List Int) : List Int := if Rt xs ∧ xs ≠ [] then A2 xs (FX xs) else []
theorem ALB (xs : List Int) : VY (xs, ()) = some (plain xs, ()) := by
 rw [AAz, NW, plain]
 simp only [MM]
 by_cases hr : Rt xs
 ·have hl := hr.1
  simp only [hr, decide_true, Bool.not_true, true_and]
  by_cases h : xs = []
  ·subst h; simp [AO, ES]
  ·have hp : 0 < xs.length := List.length_pos_iff.2 h
   rw [AO, A1, decide_eq_false (by omega)]
   have hm := (D9 h).1
   have hk : xs.findIdx (fun x => decide (x = FX xs)) < xs.length := List.findIdx_lt_length.2 ⟨_, hm, by simp⟩
   simp only [AIV xs h (by omega), Mm xs _ (show xs.length < 9223372036854775808 by omega)]
   rw [pos, if_pos hm, if_pos (by simpa using h), A2]
   simp only [UG xs _ (Nat.le_of_lt hk) (by omega)]
 ·simp [hr]
theorem Gk {xs : List Int} (hr : Rt xs) (h : xs ≠ []) : ∃ a b, xs = a ++ FX xs :: b ∧ plain xs = FX xs :: b ++ a := by
 obtain ⟨a, b, h1, _, h2⟩ := Vc (D9 h).1
 exact ⟨a, b, h1, by rw [plain, if_pos ⟨hr, h⟩, h2]⟩
end Go.Pev.Pl
end
section
namespace Go.Pev.Pl
open Tok
def TI (n : Int) (xs : List Int) : Prop := ∃ L, xs = L.map (CS n) ∧ (∀ t ∈ L, okT n t) ∧ T L
noncomputable instance (n : Int) (xs : List Int) : Decidable (TI n xs) := Classical.propDecidable _
abbrev AOr := List Int × List (Int × Int) × List (Int × Int)
abbrev AY6 := (Bool × Unit) ⊕ (List Int × List (Int × Int) × List (Int × Int) × Unit) ⊕ Unit
def goF (n x : Int) (s : AOr) : AOr ⊕ AY6 :=
 match Bp n x with
 | none => .inr (.inl (false, ()))
 | some t => match Tok.step (s.1, A7 s.2.1) t with
  | none => .inr (.inl (false, ()))
  | some s' => match t with
   | .ver v => .inl (s'.1, s.2.1, Ah s.2.2 v (IntKind.wrap .i64 (((AT s.2.2 v).getD (0 : Int)) + (1 : Int))))
   | .arc _ v => .inl (s'.1, if v ∈ A7 s.2.1 then s.2.1 else Ah s.2.1 v 1, s.2.2)
def one (came : List (Int × Int)) : Prop := ∀ k, (0 < (AT came k).getD (0 : Int)) ↔ k ∈ A7 came
theorem ARj {came : List (Int × Int)} (h : one came) (v : Int) : one (Ah came v 1) := by
 intro k
 rw [F6, ER]
 by_cases e : k = v
 ·simp [e]
 ·simp only [e, if_false, false_or]; exact h k
theorem ASx (n : Int) (xs : List Int) (i : Nat) (x : Int) (hx : xs[i]? = some x) (hi : i < xs.length) (hl : xs.length < 4294967296) (hxr : -9223372036854775808 ≤ x ∧ x ≤ 9223372036854775807)
  (w : Int) (r : List Int) (came met : List (Int × Int)) (hr : r.length < 4294967295) (hc : one came) (hsub : ∀ y ∈ w :: r, y ∈ A7 came) :
  Hc (n, (w :: r).reverse, came, met, xs, AM xs, (i : Int), ()) = match goF n x (w :: r, came, met) with
   | .inl s => some (.inl (n, s.1.reverse, s.2.1, s.2.2, xs, AM xs, ((i + 1 : Nat) : Int), ()))
   | .inr y => some (.inr y) := by
 have hd : AM ((w :: r).reverse) = ((r.length + 1 : Nat) : Int) := by simp [AO]
 have e1 : IntKind.wrap .i64 (((r.length + 1 : Nat) : Int) - 1) = (r.length : Int) := by rw [Ag (by omega)]; rfl
 have i1 : idx ((w :: r).reverse) (r.length : Int) = some w := by rw [AEq]; simp
 have g1 : AS ((w :: r).reverse) (AG (r.length : Int)) (0 : Int) = w := by rw [JE]; simp
 have f1 : ∀ v : Int, fits (AM ((w :: r).reverse) + AM [v]) = true := fun v => BY (by rw [hd, AO]; simp only [List.length_cons, List.length_nil]; omega)
 have ap : ∀ v : Int, A8 ((w :: r).reverse) [v] = (v :: w :: r).reverse := fun v => by simp [Cf]
 rw [Hc, AO, AN, decide_eq_true hi]
 rw [AO] at hd
 simp only [An hx, AKY n x hxr, goF]
 cases ht : Bp n x with
 | none => rfl
 | some t =>
  cases t with
  | ver v =>
   simp only [Lq, Bool.not_true, Bool.not_false, AO, hd, e1, i1, g1, A1, Tok.step]
   rw [AL (by omega)]
   by_cases h : w = v
   ·simp [h]
   ·simp [h]
  | arc u v =>
   simp only [Lq, Bool.not_true, AO, hd, e1, i1, g1, A1, Tok.step]
   rw [AL (by omega)]
   by_cases h : w = u
   ·subst h
    rw [decide_eq_true rfl]
    simp only [Bool.not_true]
    cases r with
    | nil =>
     have z : ilt (0 : Int) ((([] : List Int).length : Nat) : Int) = false := by rw [Am]; rfl
     simp only [z]
     rw [Am]
     have hcv := hc v
     by_cases hv : v ∈ A7 came
     ·rw [decide_eq_true (hcv.2 hv)]
      simp [hv]
     ·rw [decide_eq_false (fun h => hv (hcv.1 h))]
      have f2 := f1 v
      rw [AO, hd] at f2
      have hz : (AT came v).getD (0 : Int) = 0 := by rw [(Sc came v).2 hv]; rfl
      have w1 : IntKind.wrap .i64 ((0 : Int) + 1) = 1 := by rw [Af (by omega)]; rfl
      rw [AO] at f2
      simp only [f2, ap v, hz, w1, hv, if_false, if_true]
    | cons p r =>
     have z : ilt (0 : Int) (((p :: r).length : Nat) : Int) = true := by rw [Am, decide_eq_true (by simp only [List.length_cons]; omega)]
     have e2 : IntKind.wrap .i64 ((((p :: r).length : Nat) : Int) - 1) = (r.length : Int) := by
      rw [Ag (by simp only [List.length_cons] at hr ⊢; omega)]; rfl
     have i2 : idx ((w :: p :: r).reverse) (r.length : Int) = some p := by rw [AEq]; simp
     have g2 : AS ((w :: p :: r).reverse) (AG (r.length : Int)) (0 : Int) = p := by rw [JE]; simp
     simp only [z, e2, i2, g2]
     by_cases hp : p = v
     ·subst hp
      rw [decide_eq_true rfl]
      have hmem : p ∈ A7 came := hsub p (by simp)
      have s1 : DY ((w :: p :: r).reverse) (0 : Int) (((p :: r).length : Nat) : Int) = some ((p :: r).reverse) := by
       rw [PX (by simp)]
       rw [List.reverse_cons, List.take_left' (by simp)]
      have t1 : Cv (AG (((p :: r).reverse.length : Nat) : Int)) ((w :: p :: r).reverse) = (p :: r).reverse := by
       rw [Cv, Q8, List.reverse_cons (a := w), List.take_left' rfl]
      simp only [s1, t1, hmem, if_true]
     ·rw [decide_eq_false hp]
      simp only [hp, if_false]
      rw [Am]
      have hcv := hc v
      by_cases hv : v ∈ A7 came
      ·rw [decide_eq_true (hcv.2 hv)]
       simp [hv]
      ·rw [decide_eq_false (fun h => hv (hcv.1 h))]
       have f2 := f1 v
       rw [AO, hd] at f2
       have hz : (AT came v).getD (0 : Int) = 0 := by rw [(Sc came v).2 hv]; rfl
       have w1 : IntKind.wrap .i64 ((0 : Int) + 1) = 1 := by rw [Af (by omega)]; rfl
       rw [AO] at f2
       simp only [f2, ap v, hz, w1, hv, if_false, if_true]
   ·rw [decide_eq_false h]
    simp [h]
end Go.Pev.Pl
end
section
namespace Go.Pev.Pl
open Tok
theorem B0 {a b : List Int} (ha : a.Nodup) (h : ∀ x ∈ a, x ∈ b) : a.length ≤ b.length := by
 induction a generalizing b with
 | nil => simp
 | cons x a ih =>
  obtain ⟨b1, b2, rfl⟩ := List.append_of_mem (h x (by simp))
  rw [List.nodup_cons] at ha
  have := ih (b := b1 ++ b2) ha.2 fun y hy => by
   have := h y (List.mem_cons_of_mem _ hy)
   simp only [List.mem_append, List.mem_cons] at this ⊢
   rcases this with h | rfl | h
   ·exact .inl h
   ·exact absurd hy ha.1
   ·exact .inr h
  simp only [List.length_append, List.length_cons] at this ⊢
  omega
theorem Nq {a b : List Int} (ha : a.Nodup) (h : ∀ x ∈ a, x ∈ b) (hl : b.length ≤ a.length) : ∀ x ∈ b, x ∈ a := by
 intro x hx
 refine Classical.byContradiction fun hn => ?_
 have := B0 (a := x :: a) (b := b) (List.nodup_cons.2 ⟨hn, ha⟩) fun y hy => by
  rcases List.mem_cons.1 hy with rfl | hy
  ·exact hx
  ·exact h y hy
 simp only [List.length_cons] at this
 omega
theorem VN {way c c2 : List Int} (h : ∀ x, x ∈ c ↔ x ∈ c2) (t : Tok) :
  (Tok.step (way, c) t = none ↔ Tok.step (way, c2) t = none) ∧ ∀ w1 c1, Tok.step (way, c) t = some (w1, c1) → ∃ c1', Tok.step (way, c2) t = some (w1, c1') ∧ ∀ x, x ∈ c1 ↔ x ∈ c1' := by
 cases t with
 | ver v =>
  cases way with
  | nil => simp [Tok.step]
  | cons w r =>
   by_cases e : w = v
   ·simp only [Tok.step, e, if_true]
    exact ⟨by simp, fun w1 c1 hh => by cases hh; exact ⟨c2, rfl, h⟩⟩
   ·simp [Tok.step, e]
 | arc u v =>
  cases way with
  | nil => simp [Tok.step]
  | cons w r =>
   by_cases e : w = u
   ·cases r with
    | nil =>
     by_cases hv : v ∈ c
     ·simp [Tok.step, e, hv, (h v).1 hv]
     ·have hv2 : v ∉ c2 := fun q => hv ((h v).2 q)
      simp only [Tok.step, e, if_true, hv, hv2, if_false]
      exact ⟨by simp, fun w1 c1 hh => by cases hh; exact ⟨v :: c2, rfl, fun x => by simp [h]⟩⟩
    | cons p r =>
     by_cases e2 : p = v
     ·simp only [Tok.step, e, if_true, e2]
      exact ⟨by simp, fun w1 c1 hh => by cases hh; exact ⟨c2, rfl, h⟩⟩
     ·by_cases hv : v ∈ c
      ·simp [Tok.step, e, e2, hv, (h v).1 hv]
      ·have hv2 : v ∉ c2 := fun q => hv ((h v).2 q)
       simp only [Tok.step, e, if_true, e2, hv, hv2, if_false]
       exact ⟨by simp, fun w1 c1 hh => by cases hh; exact ⟨v :: c2, rfl, fun x => by simp [h]⟩⟩
   ·simp [Tok.step, e]
structure GI (s : AOr) : Prop where
 ne : s.1 ≠ []
 one : one s.2.1
 sub : ∀ y ∈ s.1, y ∈ A7 s.2.1
 nc : (A7 s.2.1).Nodup
 nm : (A7 s.2.2).Nodup
theorem AP2 {n x : Int} {s s' : AOr} (hi : GI s) (h : goF n x s = .inl s') :
  GI s' ∧ s'.1.length ≤ s.1.length + 1 ∧ ∃ t c1, Bp n x = some t ∧ Tok.step (s.1, A7 s.2.1) t = some (s'.1, c1) ∧ (∀ x, x ∈ c1 ↔ x ∈ A7 s'.2.1) ∧ (∀ y, y ∈ A7 s'.2.2 ↔ y ∈ A7 s.2.2 ∨ Tok.ver y = t) := by
 rw [goF] at h
 cases ht : Bp n x with
 | none => rw [ht] at h; cases h
 | some t =>
  rw [ht] at h
  simp only at h
  cases hs : Tok.step (s.1, A7 s.2.1) t with
  | none => rw [hs] at h; cases h
  | some q =>
   obtain ⟨w1, c1⟩ := q
   rw [hs] at h
   rcases Bt hs with ⟨v, r, rfl, hw, e⟩ | ⟨u, v, r, rfl, hw, e⟩ | ⟨u, v, r, rfl, hw, hh, hn, e⟩
   ·cases h
    cases e
    refine ⟨⟨hi.ne, hi.one, hi.sub, hi.nc, ID hi.nm _ _⟩, by simp, _, _, rfl, hs, fun x => Iff.rfl, fun y => ?_⟩
    rw [ER]
    simp [or_comm]
   ·cases h
    cases e
    simp only at hw
    have hv : v ∈ A7 s.2.1 := hi.sub v (by rw [hw]; simp)
    simp only [hv, if_true]
    refine ⟨⟨by simp, hi.one, fun y hy => hi.sub y (by rw [hw]; exact List.mem_cons_of_mem _ hy), hi.nc, hi.nm⟩, by rw [hw]; simp, _, _, rfl, hs, fun x => Iff.rfl, fun y => by simp⟩
   ·cases h
    cases e
    simp only at hw hn
    simp only [hn, if_false]
    refine ⟨⟨by simp, ARj hi.one v, fun y hy => ?_, ID hi.nc _ _, hi.nm⟩, by rw [hw]; simp, _, _, rfl, hs, fun x => ?_, fun y => by simp⟩
    ·rw [ER]
     rcases List.mem_cons.1 hy with rfl | hy
     ·exact .inl rfl
     ·exact .inr (hi.sub y (by rw [hw]; exact hy))
    ·rw [ER, List.mem_cons]
def AJP (s : AOr) : AY6 := .inr (.inl (s.1.reverse, s.2.1, s.2.2, ()))
theorem ASw (n : Int) : ∀ (xs : List Int) (s : AOr) (c : List Int), GI s → (∀ x, x ∈ c ↔ x ∈ A7 s.2.1) →
  (∃ L s' c', xs = L.map (CS n) ∧ (∀ t ∈ L, okT n t) ∧ run (s.1, c) L = some (s'.1, c') ∧ walk (goF n) AJP xs s = AJP s' ∧ GI s' ∧ (∀ x, x ∈ c' ↔ x ∈ A7 s'.2.1) ∧ (∀ x, x ∈ A7 s'.2.2 ↔ x ∈ A7 s.2.2 ∨ Tok.ver x ∈ L)) ∨
  (walk (goF n) AJP xs s = .inl (false, ()) ∧ ∀ L, xs = L.map (CS n) → (∀ t ∈ L, okT n t) → run (s.1, c) L = none) := by
 intro xs
 induction xs with
 | nil => intro s c hi hc; exact .inl ⟨[], s, c, rfl, by simp, rfl, rfl, hi, hc, by simp⟩
 | cons x xs ih =>
  intro s c hi hc
  rw [walk]
  have bad : ∀ {t}, Bp n x = some t → Tok.step (s.1, A7 s.2.1) t = none → ∀ L, x :: xs = L.map (CS n) → (∀ t ∈ L, okT n t) → run (s.1, c) L = none := by
   intro t ht hs L hL hok
   cases L with
   | nil => cases hL
   | cons t' L =>
    simp only [List.map_cons, List.cons.injEq] at hL
    have h1 := B1 (hok t' (by simp))
    rw [← hL.1, ht] at h1
    cases h1
    rw [At, ((VN hc t).1).2 hs]
    rfl
  cases hg : goF n x s with
  | inr r =>
   simp only
   have hr : r = .inl (false, ()) ∧ ∀ L, x :: xs = L.map (CS n) → (∀ t ∈ L, okT n t) → run (s.1, c) L = none := by
    rw [goF] at hg
    cases ht : Bp n x with
    | none =>
     rw [ht] at hg
     cases hg
     refine ⟨rfl, fun L hL hok => ?_⟩
     cases L with
     | nil => cases hL
     | cons t' L =>
      simp only [List.map_cons, List.cons.injEq] at hL
      have h1 := B1 (hok t' (by simp))
      rw [← hL.1, ht] at h1
      cases h1
    | some t =>
     rw [ht] at hg
     simp only at hg
     cases hs : Tok.step (s.1, A7 s.2.1) t with
     | none => rw [hs] at hg; cases hg; exact ⟨rfl, bad ht hs⟩
     | some q =>
      rw [hs] at hg
      cases t <;> cases hg
   rw [hr.1]
   exact .inr ⟨rfl, hr.2⟩
  | inl s' =>
   simp only
   obtain ⟨hi', _, t, c1, ht, hs, hcc, hm⟩ := AP2 hi hg
   obtain ⟨c1', hs', hcc'⟩ := (VN (c := A7 s.2.1) (c2 := c) (fun x => (hc x).symm) t).2 _ _ hs
   obtain ⟨g1, g2⟩ := IQ ht
   rcases ih s' c1' hi' (fun x => (hcc' x).symm.trans (hcc x)) with ⟨L, s2, c2, a1, a2, a3, a4, a5, a6, a7⟩ | ⟨a1, a2⟩
   ·refine .inl ⟨t :: L, s2, c2, by simp [g2, a1], ?_, by rw [At, hs']; exact a3, a4, a5, a6, fun y => ?_⟩
    ·intro y hy
     rcases List.mem_cons.1 hy with rfl | hy
     ·exact g1
     ·exact a2 y hy
    ·rw [a7, hm, List.mem_cons, or_assoc]
   ·refine .inr ⟨a1, fun L hL hok => ?_⟩
    cases L with
    | nil => cases hL
    | cons t' L =>
     simp only [List.map_cons, List.cons.injEq] at hL
     have h1 := B1 (hok t' (by simp))
     rw [← hL.1, ht] at h1
     cases h1
     rw [At, hs']
     exact a2 L hL.2 fun y hy => hok y (List.mem_cons_of_mem _ hy)
theorem AK8 : ∀ {l : List Tok} {s s' : List Int × List Int}, run s l = some s' → s'.1.getLast? = s.1.getLast? := by
 intro l
 induction l with
 | nil => intro s s' h; cases h; rfl
 | cons t l ih =>
  intro s s' h
  rw [At, Option.bind_eq_some_iff] at h
  obtain ⟨s1, h1, h2⟩ := h
  rw [ih h2]
  rcases Bt h1 with ⟨v, r, rfl, hw, rfl⟩ | ⟨u, v, r, rfl, hw, rfl⟩ | ⟨u, v, r, rfl, hw, hh, hn, rfl⟩
  ·rfl
  ·rw [hw, List.getLast?_cons_cons]
  ·rw [hw, List.getLast?_cons_cons]
theorem AUN : ∀ {l : List Tok} {s s' : List Int × List Int}, run s l = some s' → Tok.Inv s → ∀ x, Tok.ver x ∈ l → x ∈ s'.2 := by
 intro l
 induction l with
 | nil => intro s s' _ _ x hx; cases hx
 | cons t l ih =>
  intro s s' h hi x hx
  rw [At, Option.bind_eq_some_iff] at h
  obtain ⟨s1, h1, h2⟩ := h
  obtain ⟨i1, i2, i3⟩ := VM h1 hi
  rcases List.mem_cons.1 hx with rfl | hx
  ·have := (HO h2 i1).2.1
   refine this x (i1.2 x ?_)
   simp only [st] at i3
   exact List.mem_of_head? i3
  ·exact ih h2 i1 x hx
theorem AR3 {n : Int} {L : List Tok} (h : (L.map (CS n)).Nodup) : L.Nodup := by
 rw [List.Nodup, List.pairwise_map] at h
 exact h.imp fun h e => h (by rw [e])
theorem AQI {n x : Int} {xs : List Int} (h : TI n (x :: xs)) (hm : FX (x :: xs) = x) : In n x := by
 obtain ⟨L, h1, h2, h3⟩ := h
 obtain ⟨v, r, hr⟩ := h3.AJu
 have hv : Tok.ver v ∈ L := (hr.mem _).2 (by simp)
 have hvx : v ∈ x :: xs := by rw [h1]; exact List.mem_map.2 ⟨_, hv, rfl⟩
 have h4 := (D9 (xs := x :: xs) (by simp)).2 v hvx
 rw [hm] at h4
 have h5 := (h2 _ hv).2.2.2
 cases L with
 | nil => cases h1
 | cons t L =>
  simp only [List.map_cons, List.cons.injEq] at h1
  have h6 := h2 t (by simp)
  cases t with
  | ver w => rw [h1.1]; exact h6
  | arc p q =>
   have := (OJ h6.1 h6.2.1).1
   have e : x = n * (p + 1) + q := h1.1
   omega
theorem AWE (n : Int) (xs : List Int) (h0 : xs ≠ []) (hs : xs.length < 2147483648) (hr : ∀ x ∈ xs, -9223372036854775808 ≤ x ∧ x ≤ 9223372036854775807) (hn : xs.Nodup) (hm : ∀ x, xs.head? = some x → FX xs = x) :
  AWH (n, xs, ()) = some (decide (TI n xs), ()) := by
 cases xs with
 | nil => exact absurd rfl h0
 | cons x0 tl =>
  rw [AP1, AE3]
  have i0 : idx (x0 :: tl) (0 : Int) = some x0 := by rw [FZ]; rfl
  simp only [i0, ACg]
  by_cases hin : In n x0
  ·rw [decide_eq_true hin]
   simp only [Bool.not_true]
   have hS : GI ([x0], Ah [] x0 1, []) := by
    refine ⟨by simp, fun k => ?_, fun y hy => ?_, ?_, by simp [A7]⟩
    ·have : AT (Ah ([] : List (Int × Int)) x0 1) k = if k = x0 then some 1 else none := by rw [F6]; rfl
     rw [this]
     by_cases e : k = x0 <;> simp [e, Ah, A7]
    ·simp at hy; subst hy; simp [Ah, A7]
    ·simp [Ah, A7]
   have e := D2 (step := Hc) (fun i (s : AOr) => (n, s.1.reverse, s.2.1, s.2.2, x0 :: tl, AM (x0 :: tl), (i : Int), ())) (x0 :: tl) (goF n) AJP (fun i s => GI s ∧ s.1.length ≤ i + 1) (by omega)
    (fun i x s hi hx ⟨hI, hlen⟩ => by
     obtain ⟨way, came, met⟩ := s
     cases way with
     | nil => exact absurd rfl hI.ne
     | cons w r =>
      have hst := ASx n (x0 :: tl) i x hx hi (by omega) (hr x (List.mem_of_getElem? hx)) w r came met (by simp only [List.length_cons] at hlen hi hs; omega) hI.one hI.sub
      refine ⟨fun s' h' => ?_, fun y h' => ?_⟩
      ·rw [h'] at hst
       obtain ⟨g1, g2, _⟩ := AP2 hI h'
       refine ⟨hst, g1, ?_⟩
       simp only at g2 hlen
       omega
      ·rw [h'] at hst
       exact hst)
    (fun s _ => by rw [Hc, AO, AN, decide_eq_false (by omega)]; rfl) ([x0], Ah [] x0 1, []) ⟨hS, by simp⟩
   have e' : AY Hc many (n, [x0], Ah [] x0 1, [], x0 :: tl, AM (x0 :: tl), (0 : Int), ()) = _ := e
   rw [e']
   have hk0 : A7 (Ah ([] : List (Int × Int)) x0 1) = [x0] := rfl
   rcases ASw n (x0 :: tl) ([x0], Ah [] x0 1, []) [x0] hS (fun x => by rw [hk0]) with ⟨L, s', c', a1, a2, a3, a4, a5, a6, a7⟩ | ⟨a1, a2⟩
   ·rw [a4]
    obtain ⟨t, L', rfl⟩ : ∃ t L', L = t :: L' := by cases L with
     | nil => cases a1
     | cons t L' => exact ⟨t, L', rfl⟩
    have ht : t = .ver x0 := by
     have h1 := B1 (a2 t (by simp))
     simp only [List.map_cons, List.cons.injEq] at a1
     rw [← a1.1, Bp, if_pos hin] at h1
     exact (Option.some.inj h1).symm
    subst ht
    have hLn : (Tok.ver x0 :: L').Nodup := AR3 (n := n) (by rw [← a1]; exact hn)
    have hbot := AK8 a3
    have hvs := AUN a3 (Li x0)
    have hk : (A7 s'.2.2).length ≤ (A7 s'.2.1).length := B0 a5.nm fun x hx => by
     have := (a7 x).1 hx
     simp only [A7, List.map_nil, List.not_mem_nil, false_or] at this
     exact (a6 x).1 (hvs x this)
    have hiff : (s'.1.length = 1 ∧ (A7 s'.2.2).length = (A7 s'.2.1).length) ↔ TI n (x0 :: tl) := by
     constructor
     ·rintro ⟨l1, l2⟩
      obtain ⟨w, hw⟩ := List.length_eq_one_iff.1 l1
      rw [hw] at hbot a3
      simp at hbot
      subst hbot
      refine ⟨_, a1, a2, Tok.Av.toT ⟨w, L', c', rfl, a3, fun x hx => ?_⟩ hLn⟩
      have h1 := Nq a5.nm (fun x hx => by
       have := (a7 x).1 hx
       simp only [A7, List.map_nil, List.not_mem_nil, false_or] at this
       exact (a6 x).1 (hvs x this)) (by omega) x ((a6 x).1 hx)
      have := (a7 x).1 h1
      simpa [A7] using this
     ·rintro ⟨K, k1, k2, k3⟩
      have hKL : K = Tok.ver x0 :: L' := by
       have : ∀ (A B : List Tok), A.map (CS n) = B.map (CS n) → (∀ t ∈ A, okT n t) → (∀ t ∈ B, okT n t) → A = B := by
        intro A
        induction A with
        | nil => intro B h _ _; cases B with
         | nil => rfl
         | cons b B => cases h
        | cons a A ih =>
         intro B h hA hB
         cases B with
         | nil => cases h
         | cons b B =>
          simp only [List.map_cons, List.cons.injEq] at h
          rw [FL (hA a (by simp)) (hB b (by simp)) h.1, ih B h.2 (fun t ht => hA t (by simp [ht])) fun t ht => hB t (by simp [ht])]
       exact this _ _ (by rw [← k1, a1]) k2 a2
      subst hKL
      obtain ⟨r, l', c, q1, q2, q3⟩ := k3.ACY
      cases q1
      rw [a3] at q2
      cases hs' : s'.1 with
      | nil => rw [hs'] at q2; cases q2
      | cons w r' =>
       rw [hs'] at q2
       cases q2
       refine ⟨rfl, ?_⟩
       have := B0 a5.nc (b := A7 s'.2.2) fun x hx => (a7 x).2 (.inr (q3 x ((a6 x).2 hx)))
       omega
    simp only [AJP, A1, AO, List.length_reverse]
    rw [Qu, Qu] at hiff
    by_cases l1 : s'.1.length = 1
    ·rw [decide_eq_true (show (s'.1.length : Int) = 1 by omega)]
     simp only [l1, true_and] at hiff
     by_cases l2 : s'.2.2.length = s'.2.1.length
     ·rw [decide_eq_true (show (s'.2.2.length : Int) = (s'.2.1.length : Int) by omega), decide_eq_true (hiff.1 l2)]
     ·rw [decide_eq_false (show ¬ (s'.2.2.length : Int) = (s'.2.1.length : Int) by omega), decide_eq_false (fun h => l2 (hiff.2 h))]
    ·rw [decide_eq_false (show ¬ (s'.1.length : Int) = 1 by omega), decide_eq_false (fun h => l1 (hiff.2 h).1)]
   ·rw [a1]
    have : ¬ TI n (x0 :: tl) := by
     rintro ⟨K, k1, k2, k3⟩
     obtain ⟨r, l', c, q1, q2, q3⟩ : Tok.Av K := by
      obtain ⟨t, L', rfl⟩ : ∃ t L', K = t :: L' := by cases K with
       | nil => cases k1
       | cons t L' => exact ⟨t, L', rfl⟩
      have h1 := B1 (k2 t (by simp))
      simp only [List.map_cons, List.cons.injEq] at k1
      rw [← k1.1, Bp, if_pos hin] at h1
      cases h1
      exact k3.ACY
     have hr0 : r = x0 := by
      subst q1
      simp only [List.map_cons, List.cons.injEq] at k1
      exact k1.1.symm
     subst hr0
     have := a2 K k1 k2
     simp only at this
     rw [q2] at this
     cases this
    simp [this]
  ·rw [decide_eq_false hin]
   have : ¬ TI n (x0 :: tl) := fun h => hin (AQI h (hm x0 rfl))
   simp [this]
end Go.Pev.Pl
end
end
section
namespace Go.Pev.Pl.Tok
theorem AYU {v : Int} {p : List Tok} {c : List Int} (h : run ([v], [v]) p = some ([v], c)) (hc : ∀ x ∈ c, Tok.ver x ∈ p) (hn : p.Nodup) : T p := by
 cases p with
 | nil =>
  cases h
  have := hc v (by simp)
  cases this
 | cons t p =>
  have h' := h
  rw [At, Option.bind_eq_some_iff] at h'
  obtain ⟨s1, h1, h2⟩ := h'
  rcases Bt h1 with ⟨y, r, rfl, hw, rfl⟩ | ⟨a, b, r, rfl, hw, rfl⟩ | ⟨a, b, r, rfl, hw, hh, hnc, rfl⟩
  ·simp only [List.cons.injEq] at hw
   obtain ⟨rfl, rfl⟩ := hw
   exact Av.toT ⟨_, p, c, rfl, h, hc⟩ hn
  ·simp at hw
  ·simp only [List.cons.injEq] at hw
   obtain ⟨rfl, rfl⟩ := hw
   simp only at hnc
   have hne : v ≠ b := by rintro rfl; exact hnc (by simp)
   have hT : T ([Tok.arc v b] ++ comp [Tok.arc v b] [b, v]) := by
    have : comp [Tok.arc v b] [b, v] = [.ver b, .arc b v, .ver v] := by simp [comp]
    rw [this]
    have h3 := T.add (.ver v) [] b (T.one v) hne (by simp; exact Ne.symm hne)
    exact T.rot [.ver v] [.arc v b, .ver b, .arc b v] h3
   have := AWG p [.arc v b] [b, v] [b, v] c v (.arc v b) h2 ⟨by simp; exact Ne.symm hne, by simp⟩ (by simp) rfl hT (by
    intro x hx
    have e : comp [Tok.arc v b] [b, v] = [.ver b, .arc b v, .ver v] := by simp [comp]
    rw [e] at hx
    simp at hx
    simp [hx]) hc hn
   exact this
theorem T.join {u v : Int} {a b : List Tok} (hA : T (.ver u :: a)) (hB : T (.ver v :: b)) (hd : ∀ x, Tok.ver x ∈ Tok.ver u :: a → Tok.ver x ∉ Tok.ver v :: b) :
  T (.ver u :: .arc u v :: (.ver v :: b ++ .arc v u :: a)) := by
 obtain ⟨_, fA2, fA3⟩ := hA.facts
 obtain ⟨_, fB2, fB3⟩ := hB.facts
 have nA := hA.nodup
 have nB := hB.nodup
 obtain ⟨_, _, c1, e1, h1, m1⟩ := hA.ACY
 cases e1
 obtain ⟨_, _, c2, e2, h2, m2⟩ := hB.ACY
 cases e2
 have huv : u ≠ v := by rintro rfl; exact hd u (by simp) (by simp)
 have nAB : ∀ t, t ∈ Tok.ver u :: a → t ∉ Tok.ver v :: b := fun t ht hb => hd _ (fA2 t ht) (fB2 t hb)
 have n1 : Tok.arc u v ∉ Tok.ver u :: a := fun h => hd v (fA3 _ _ h).2.1 (by simp)
 have n2 : Tok.arc u v ∉ Tok.ver v :: b := fun h => hd u (by simp) (fB3 _ _ h).1
 have n3 : Tok.arc v u ∉ Tok.ver u :: a := fun h => hd v (fA3 _ _ h).1 (by simp)
 have n4 : Tok.arc v u ∉ Tok.ver v :: b := fun h => hd u (by simp) (fB3 _ _ h).2.1
 have hnd : (Tok.ver u :: .arc u v :: (.ver v :: b ++ .arc v u :: a)).Nodup := by
  rw [List.nodup_cons] at nA
  have q1 : Tok.ver u ∉ Tok.ver v :: b := nAB _ (by simp)
  rw [List.nodup_cons, List.nodup_cons, List.nodup_append, List.nodup_cons (a := Tok.arc v u)]
  refine ⟨?_, ?_, nB, ⟨fun h => n3 (List.mem_cons_of_mem _ h), nA.2⟩, fun x hx y hy => ?_⟩
  ·intro h
   rcases List.mem_cons.1 h with h | h
   ·cases h
   ·rcases List.mem_append.1 h with h | h
    ·exact q1 h
    ·rcases List.mem_cons.1 h with h | h
     ·cases h
     ·exact nA.1 h
  ·intro h
   rcases List.mem_append.1 h with h | h
   ·exact n2 h
   ·rcases List.mem_cons.1 h with h | h
    ·cases h; exact huv rfl
    ·exact n1 (List.mem_cons_of_mem _ h)
  ·rintro rfl
   rcases List.mem_cons.1 hy with h | h
   ·subst h; exact n4 hx
   ·exact nAB x (List.mem_cons_of_mem _ h) hx
 rw [At, C1, Option.bind_some] at h1
 obtain ⟨d2, k1, k2⟩ := GM (Z := (· = u)) (c2 := [v, u]) (low := [u]) h2 (by simp) (fun y => by simp) (fun p w hm => by rintro rfl; exact hd w (by simp) (fB3 _ _ hm).2.1) (by simp)
 obtain ⟨d3, g1, g2⟩ := GM (Z := (· ∈ c2)) (c2 := d2) (low := []) h1 (by simp) (fun y => by rw [k2]; simp [or_comm]) (fun p w hm hz => hd w (fA3 _ _ (List.mem_cons_of_mem _ hm)).2.1 (m2 w hz)) (by simp)
 refine Av.toT ⟨u, _, d3, rfl, ?_, fun x hx => ?_⟩ hnd
 ·rw [At, C1, Option.bind_some, At, Ed _ _ _ _ (by simp) (by simp; exact Ne.symm huv), Option.bind_some, C5]
  rw [show ([v] ++ [u] : List Int) = [v, u] from rfl] at k1
  rw [k1, Option.bind_some, At, FN, Option.bind_some]
  simpa using g1
 ·rcases (g2 x).1 hx with h | h
  ·have := m1 x h
   simp only [List.mem_cons, List.mem_append] at this ⊢
   rcases this with h | h <;> simp [h]
  ·have := m2 x h
   simp only [List.mem_cons, List.mem_append] at this ⊢
   rcases this with h | h <;> simp [h]
theorem AZC {u v : Int} (huv : u ≠ v) : ∀ {l : List Tok} {x w1 c c1 c0 : List Int}, run (x ++ [v, u], c) l = some (w1, c1) → Tok.arc v u ∉ l → (∀ y, y ∈ c ↔ y ∈ c0 ∨ y = u) → u ∉ c0 →
  ∃ x' d, w1 = x' ++ [v, u] ∧ run (x ++ [v], c0) l = some (x' ++ [v], d) ∧ (∀ y, y ∈ c1 ↔ y ∈ d ∨ y = u) ∧ u ∉ d := by
 intro l
 induction l with
 | nil => intro x w1 c c1 c0 h _ hc hu; cases h; exact ⟨x, c0, rfl, rfl, hc, hu⟩
 | cons t l ih =>
  intro x w1 c c1 c0 h hna hc hu
  rw [At, Option.bind_eq_some_iff] at h
  obtain ⟨s1, h1, h2⟩ := h
  have hna' : Tok.arc v u ∉ l := fun h => hna (List.mem_cons_of_mem _ h)
  rcases Bt h1 with ⟨y, r, rfl, hw, rfl⟩ | ⟨a, b, r, rfl, hw, rfl⟩ | ⟨a, b, r, rfl, hw, hh, hnc, rfl⟩
  ·obtain ⟨x', d, g1, g2, g3⟩ := ih h2 hna' hc hu
   refine ⟨x', d, g1, ?_, g3⟩
   simp only at hw
   have : ∃ r', x ++ [v] = y :: r' := by
    cases x with
    | nil => simp at hw; exact ⟨[], by simp [hw.1]⟩
    | cons z x => simp at hw; exact ⟨x ++ [v], by simp [hw.1]⟩
   obtain ⟨r', e⟩ := this
   rw [At, e, C1, Option.bind_some, ← e]
   exact g2
  ·simp only at hw
   cases x with
   | nil =>
    simp only [List.nil_append, List.cons.injEq] at hw
    obtain ⟨rfl, rfl, _⟩ := hw
    exact absurd (by simp) hna
   | cons z x =>
    simp only [List.cons_append, List.cons.injEq] at hw
    obtain ⟨rfl, hw⟩ := hw
    simp only [← hw] at h2
    obtain ⟨x', d, g1, g2, g3⟩ := ih h2 hna' hc hu
    refine ⟨x', d, g1, ?_, g3⟩
    have : ∃ r', x ++ [v] = b :: r' := by
     cases x with
     | nil => simp at hw; exact ⟨[], by simp [hw.1]⟩
     | cons y x => simp at hw; exact ⟨x ++ [v], by simp [hw.1]⟩
    obtain ⟨r', e⟩ := this
    rw [At, List.cons_append, e, FN, Option.bind_some, ← e]
    exact g2
  ·simp only at hw hnc
   have hub : u ≠ b := by rintro rfl; exact hnc ((hc u).2 (.inr rfl))
   have hbc : b ∉ c0 := fun h => hnc ((hc b).2 (.inl h))
   have h2' : run ((b :: x) ++ [v, u], b :: c) l = some (w1, c1) := by
    rw [← hw] at h2
    exact h2
   obtain ⟨x', d, g1, g2, g3⟩ := ih (c0 := b :: c0) h2' hna' (fun y => by simp only [List.mem_cons, hc, or_assoc]) (by
    intro hm
    rcases List.mem_cons.1 hm with h | h
    ·exact hub h
    ·exact hu h)
   refine ⟨x', d, g1, ?_, g3⟩
   have : ∃ r', x ++ [v] = a :: r' ∧ r'.head? ≠ some b := by
    cases x with
    | nil =>
     simp at hw
     exact ⟨[], by simp [hw.1], by simp⟩
    | cons z x =>
     simp only [List.cons_append, List.cons.injEq] at hw
     refine ⟨x ++ [v], by simp [hw.1], ?_⟩
     rw [← hw.2] at hh
     cases x with
     | nil => simpa using hh
     | cons y x => simpa using hh
   obtain ⟨r', e, e2⟩ := this
   rw [At, e, Ed _ _ _ _ e2 hbc, Option.bind_some, ← e]
   exact g2
theorem T.split {u v : Int} {p q : List Tok} (h : T (.arc u v :: (p ++ .arc v u :: q))) : T p ∧ Tok.ver v ∈ p := by
 have hn := h.nodup
 obtain ⟨_, f2, f3⟩ := h.facts
 have huv : u ≠ v := (f3 u v (by simp)).2.2.2
 obtain ⟨t, ht⟩ : ∃ t, (Tok.arc u v :: (p ++ .arc v u :: q)).getLast? = some t := ⟨_, List.getLast?_eq_some_getLast (by simp)⟩
 obtain ⟨c, h1, h2⟩ := h.toC _ (Rot.refl _) t ht
 rw [At, Option.bind_eq_some_iff] at h1
 obtain ⟨s1, k1, k2⟩ := h1
 rcases Bt k1 with ⟨y, r, e, hw, _⟩ | ⟨a, b, r, e, hw, _⟩ | ⟨a, b, r, e, hw, hh, hnc, rfl⟩
 ·cases e
 ·cases e; simp at hw
 ·cases e
  simp only [List.cons.injEq] at hw
  obtain ⟨htu, rfl⟩ := hw
  rw [htu] at k2
  simp only at k2
  rw [C5, Option.bind_eq_some_iff] at k2
  obtain ⟨⟨w1, c1⟩, g1, g2⟩ := k2
  have hi : Inv ([v, u], [v, u]) := ⟨by simp; exact Ne.symm huv, by simp⟩
  obtain ⟨i1, i2, _⟩ := HO g1 hi
  rw [List.nodup_cons, List.nodup_append, List.nodup_cons (a := Tok.arc v u)] at hn
  have hnp : Tok.arc v u ∉ p := fun hm => hn.2.2.2 _ hm _ (by simp) rfl
  obtain ⟨x', d, e1, e2, e3, e4⟩ := AZC (x := []) (c0 := [v]) huv g1 hnp (fun y => by simp) (by simp; exact huv)
  rw [At, Option.bind_eq_some_iff] at g2
  obtain ⟨s2, j1, j2⟩ := g2
  have hx' : x' = [] ∧ s2 = ([u], c1) := by
   rcases Bt j1 with ⟨y, r, e, hw, _⟩ | ⟨a, b, r, e, hw, hs⟩ | ⟨a, b, r, e, hw, hh, hnc, _⟩
   ·cases e
   ·cases e
    simp only at hw
    rw [e1] at hw
    cases x' with
    | nil =>
     simp only [List.nil_append, List.cons.injEq, true_and] at hw
     rw [hs, ← hw]
     exact ⟨rfl, rfl⟩
    | cons z x' =>
     exfalso
     have hnd := i1.1
     simp only at hnd
     rw [e1, hw] at hnd
     simp only [List.cons_append, List.cons.injEq] at hw
     have : v ∈ u :: r := by rw [← hw.2]; simp
     rw [List.nodup_cons] at hnd
     exact hnd.1 this
   ·cases e
    exact absurd (i2 u (by simp)) hnc
  obtain ⟨rfl, rfl⟩ := hx'
  have hmet : ∀ x ∈ d, Tok.ver x ∈ p := by
   intro x hx
   have hxu : x ≠ u := by rintro rfl; exact e4 hx
   have hx1 : x ∈ c1 := (e3 x).2 (.inl hx)
   have hi2 : Inv ([u], c1) := ⟨by simp, fun y hy => by simp at hy; subst hy; exact i2 y (by simp)⟩
   have hx2 := (HO j2 hi2).2.1 x hx1
   have hx3 := (h2 x).1 hx2
   obtain ⟨g, _⟩ := VR (z := x) (c := c1.filter (· ≠ x)) j2 (by simp; exact hxu) (fun y => by
    simp only [List.mem_filter, decide_eq_true_eq]
    constructor
    ·intro hh
     by_cases e : y = x
     ·exact .inr e
     ·exact .inl ⟨hh, by simpa using e⟩
    ·rintro (hh | rfl)
     ·exact hh.1
     ·exact hx1) (by simp)
   simp only [List.mem_cons, reduceCtorEq, List.mem_append, false_or] at hx3
   rcases hx3 with hh | hh
   ·exact hh
   ·exact absurd hh g
  have e2' : run ([v], [v]) p = some ([v], d) := e2
  have hvd : v ∈ d := (HO e2' (Li v)).2.1 v (by simp)
  exact ⟨AYU e2' hmet hn.2.1, hmet v hvd⟩
end Go.Pev.Pl.Tok
end
section
namespace Go.Pev
open Go.RowKit
section
variable {P : Program} {g : FuncId}
theorem Sb {na : Nat} {its outs : AE} {rs : List RS} {f : CT (leaves its) → Option (CT (leaves outs))} (hf : ∀ x, f x = none) : AR P g (AF na its outs rs f) := by
 intro R args H fz slot k r hk
 unfold AF at hk
 split at hk
 ·cases hk
 ·split at hk
  ·cases hk
  ·rw [hf] at hk; cases hk
end
section
variable {S : List Nat} {H H' : List Ob}
def APd : AE → Bool
 | [] => true
 | (.obj _, _) :: _ => false
 | _ :: r => APd r
def AZG (S : List Nat) (v : AV) : Prop := ∀ id ∈ Ax v, id ∈ S
def AOV (S : List Nat) (bs : List Bnd) : Prop := ∀ b ∈ bs, ∀ id, b.id? = some id → id ∈ S
theorem AOV.get {bs : List Bnd} (h : AOV S bs) {j : Nat} {b : Bnd} {id : Nat} (hj : bs[j]? = some b) (hi : b.id? = some id) : id ∈ S := h b (List.mem_of_getElem? hj) id hi
theorem AOV.snoc {bs : List Bnd} (h : AOV S bs) {b : Bnd} (hb : ∀ id, b.id? = some id → id ∈ S) : AOV S (bs ++ [b]) := by
 intro x hx id hi
 rcases List.mem_append.1 hx with hx | hx
 ·exact h x hx id hi
 ·simp only [List.mem_singleton] at hx; subst hx; exact hb id hi
theorem AXy {tm : List AV} {bs : List Bnd} {l : Loc} (hS : ∀ id ∈ BD tm, id ∈ S) (hc : AF6 S H) (hH : ∀ id ∈ S, H[id]? = H'[id]?) (hb : AOV S bs) (hl : ∀ j, l ≠ .obj j) :
  look tm H bs l = look tm H' bs l ∧ ∀ v, look tm H bs l = some v → AZG S v := by
 cases l with
 | tmp t =>
  refine ⟨rfl, fun v hv id hid => hS id ?_⟩
  exact B8 (List.mem_of_getElem? hv) hid
 | cell j c =>
  simp only [look]
  cases hj : bs[j]? with
  | none => exact ⟨rfl, fun v hv => by cases hv⟩
  | some b =>
   cases b with
   | none => exact ⟨rfl, fun v hv => by cases hv⟩
   | cut id => exact ⟨rfl, fun v hv => by cases hv⟩
   | whole id =>
    have hid := hb.get hj (id := id) rfl
    simp only
    rw [hH id hid]
    refine ⟨rfl, fun v hv => ?_⟩
    cases ho : H'[id]? with
    | none => rw [ho] at hv; cases hv
    | some o =>
     rw [ho] at hv
     cases o <;> simp only at hv <;> first | (cases hv; done) | skip
     rename_i cs
     intro i hi
     exact hc id hid cs (by rw [hH id hid, ho]) i (B8 (List.mem_of_getElem? hv) hi)
 | cap t i =>
  refine ⟨rfl, fun v hv => ?_⟩
  simp only [look] at hv
  cases ht : tm[t]? with
  | none => rw [ht] at hv; cases hv
  | some a =>
   rw [ht] at hv
   cases a <;> simp only at hv <;> first | (cases hv; done) | skip
   ·rename_i f cs
    intro id hid
    refine hS id (B8 (List.mem_of_getElem? ht) ?_)
    simp only [Ax]
    exact B8 (List.mem_of_getElem? hv) hid
   ·rename_i f cs
    intro id hid
    refine hS id (B8 (List.mem_of_getElem? ht) ?_)
    simp only [Ax]
    exact B8 (List.mem_of_getElem? hv) hid
 | obj j => exact absurd rfl (hl j)
theorem AC5 {f : List Nat} {fz fz' : List Bool} (hl : fz.length = fz'.length) {id : Nat} (h : fz.getD id false = fz'.getD id false) : (Ai f fz).getD id false = (Ai f fz').getD id false := by
 rw [A0, A0, h, hl]
theorem AZg {tm : List AV} (hS : ∀ id ∈ BD tm, id ∈ S) (hc : AF6 S H) (hH : ∀ id ∈ S, H[id]? = H'[id]?) : ∀ (its : AE) (fz fz' : List Bool) (bs : List Bnd), APd its = true → AOV S bs → fz.length = fz'.length → (∀ id ∈ S, fz.getD id false = fz'.getD id false) →
  dec tm H its fz bs = dec tm H' its fz' bs := by
 intro its
 induction its with
 | nil => intro fz fz' bs _ _ _ _; rfl
 | cons p r ih =>
  intro fz fz' bs hn hb hlen hz
  obtain ⟨l, c⟩ := p
  have hno : (∀ j, l ≠ .obj j) ∧ APd r = true := by
   cases l with
   | obj j => cases hn
   | tmp t => exact ⟨fun j h => (by cases h), hn⟩
   | cell a b => exact ⟨fun j h => (by cases h), hn⟩
   | cap a b => exact ⟨fun j h => (by cases h), hn⟩
  obtain ⟨e1, e2⟩ := AXy hS hc hH hb hno.1
  have ihr := fun bs hb => ih fz fz' bs hno.2 hb hlen hz
  have unf : ∀ id ∈ S, Aw fz id = Aw fz' id := fun id hid => by unfold Aw; rw [hz id hid]
  cases c with
  | dat t =>
   simp only [dec, ← e1]
   cases hv : look tm H bs l with
   | none => rfl
   | some v =>
    simp only
    rw [Bf t v fun id hid => hH id (e2 v hv id hid)]
    cases E3 H' t v with
    | none => rfl
    | some q =>
     obtain ⟨x, f⟩ := q
     simp only
     rw [ih (Ai f fz) (Ai f fz') bs hno.2 hb (by rw [CV, CV, hlen]) (fun id hid => AC5 hlen (hz id hid))]
  | own T e =>
   simp only [dec, ← e1]
   cases hv : look tm H bs l with
   | none => rfl
   | some v =>
    cases v with
    | nils e' => simp only; rw [ihr _ (hb.snoc fun id h => by cases h)]
    | own id =>
     have hid : id ∈ S := e2 _ hv id (by simp [Ax])
     simp only
     rw [← hH id hid, unf id hid, ihr _ (hb.snoc fun id' h => by simp only [Bnd.id?, Option.some.injEq] at h; subst h; exact hid)]
    | win id off n =>
     have hid : id ∈ S := e2 _ hv id (by simp [Ax])
     cases off with
     | succ off => rfl
     | zero =>
      simp only
      rw [← hH id hid, unf id hid, ihr _ (hb.snoc fun id' h => by simp only [Bnd.id?, Option.some.injEq] at h; subst h; exact hid)]
    | _ => rfl
  | box n =>
   simp only [dec, ← e1]
   cases hv : look tm H bs l with
   | none => rfl
   | some v =>
    cases v with
    | ptr id off =>
     have hid : id ∈ S := e2 _ hv id (by simp [Ax])
     cases off with
     | succ off => rfl
     | zero =>
      simp only
      rw [← hH id hid, ihr _ (hb.snoc fun id' h => by simp only [Bnd.id?, Option.some.injEq] at h; subst h; exact hid)]
    | _ => rfl
  | map k v =>
   simp only [dec, ← e1]
   cases hv : look tm H bs l with
   | none => rfl
   | some u =>
    cases u with
    | mp id =>
     have hid : id ∈ S := e2 _ hv id (by simp [Ax])
     simp only
     rw [← hH id hid, ihr _ (hb.snoc fun id' h => by simp only [Bnd.id?, Option.some.injEq] at h; subst h; exact hid)]
    | _ => rfl
  | own' j => simp only [dec, ← e1, ihr bs hb]
  | ptr' j off => simp only [dec, ← e1, ihr bs hb]
  | map' j => simp only [dec, ← e1, ihr bs hb]
  | sub' j => simp only [dec, ← e1, ihr bs hb]
  | win' j =>
   simp only [dec, ← e1]
   rw [ihr bs hb]
   cases hv : look tm H bs l with
   | none => rfl
   | some v =>
    cases v with
    | own id =>
     have hid : id ∈ S := e2 _ hv id (by simp [Ax])
     cases bs[j]? with
     | none => rfl
     | some b =>
      cases b with
      | whole id' =>
       refine Eq.trans (b := match decide (id = id'), H[id]? with
        | true, some (.arr _ _ ys) => (match dec tm H' r fz' bs with
         | some (xs, bs', g) => some ((AM ys, xs), bs', g)
         | none => none)
        | _, _ => none) rfl ?_
       rw [hH id hid]
       rfl
      | _ => rfl
    | win id off n =>
     cases off with
     | succ off => cases bs[j]? <;> rfl
     | zero =>
      cases bs[j]? with
      | none => rfl
      | some b => cases b <;> rfl
    | _ => cases bs[j]? <;> rfl
  | clo f ps => simp only [dec, ← e1, ihr bs hb]
  | bnd f j => simp only [dec, ← e1, ihr bs hb]
  | prs T j =>
   simp only [dec, ← e1]
   cases hv : look tm H bs l with
   | none => rfl
   | some v =>
    cases v with
    | nils e' => simp only; rw [ihr _ (hb.snoc fun id h => by cases h)]
    | own id =>
     have hid : id ∈ S := e2 _ hv id (by simp [Ax])
     simp only
     rw [← hH id hid, ihr _ (hb.snoc fun id' h => by simp only [Bnd.id?, Option.some.injEq] at h; subst h; exact hid)]
    | _ => rfl
  | nil e => simp only [dec, ← e1, ihr bs hb]
theorem AI1 {fz fz' : List Bool} : ∀ (n : Nat) (bs : List Bnd) (slot : Nat), (∀ s, slot ≤ s → s < slot + n → A3 H fz s = A3 H' fz' s) → Eb H fz (B2 n bs slot) bs = Eb H' fz' (B2 n bs slot) bs := by
 intro n
 induction n with
 | zero => intro bs slot _; cases bs <;> rfl
 | succ n ih =>
  intro bs slot h
  cases bs with
  | nil =>
   simp only [B2, Eb, List.tail_nil]
   rw [h slot (Nat.le_refl _) (by omega), ih [] (slot + 1) fun s h1 h2 => h s (by omega) (by omega)]
  | cons b bs =>
   cases b with
   | whole id =>
    simp only [B2, Eb, List.tail_cons]
    rw [ih bs slot fun s h1 h2 => h s h1 (by omega)]
   | none =>
    simp only [B2, Eb, List.tail_cons]
    rw [h slot (Nat.le_refl _) (by omega), ih bs (slot + 1) fun s h1 h2 => h s (by omega) (by omega)]
   | cut id =>
    simp only [B2, Eb, List.tail_cons]
    rw [h slot (Nat.le_refl _) (by omega), ih bs (slot + 1) fun s h1 h2 => h s (by omega) (by omega)]
theorem AH {na : Nat} {its outs : AE} {rs : List RS} {f : CT (leaves its) → Option (CT (leaves outs))} (hno : APd its = true) (hn : Nat.ble (Cc outs) 4 = true) : T6 (AF na its outs rs f) := by
 intro R args H H' fz fz' slot k S hS hc ha
 have hn4 := Nat.le_of_ble_eq_true hn
 have hd : dec args H its fz [] = dec args H' its fz' [] := AZg hS hc ha.heap its fz fz' [] hno (fun b hb => by cases hb) ha.len ha.wrF
 unfold AF
 rw [hd]
 split
 ·rfl
 ·rename_i x bs fr _
  split
  ·rfl
  ·split
   ·rfl
   ·have hf : ∀ (g : List Nat) s, slot ≤ s → s < slot + Cc outs → A3 H (Ai g fz) s = A3 H' (Ai g fz') s := fun g s h1 h2 => F8 ha h1 (by omega) g
    unfold M8
    rw [AI1 (fz := fz) (fz' := fz') (Cc outs) bs slot (hf []), AI1 (fz := Ai fr fz) (fz' := Ai fr fz') (Cc outs) bs slot (hf fr)]
end
def AZx (i : Nat) (args : List AV) : Option FuncId :=
 match args[i]? with
 | some (.clo f _) => some f
 | some (.bnd f _) => some f
 | _ => none
def Env.Fp (E : Env) (g : FuncId) (i : Nat) (c : FuncId) (s : Spec) : Env where
 spec x := match Nat.beq x g with
  | true => fun R args H fz slot k => match AZx i args with
   | some c' => match Nat.beq c' c with
    | true => s R args H fz slot k
    | false => E.spec x R args H fz slot k
   | .none => Option.none
  | false => E.spec x
 loc x := match Nat.beq x g with
  | true => false
  | false => E.loc x
 loc2 x := match Nat.beq x g with
  | true => E.loc2 g
  | false => E.loc2 x
theorem Env.Bh {P : Program} {E : Env} {g : FuncId} {i : Nat} {c : FuncId} {s : Spec} (h : Ad P E) (hs : AR P g s) (hl2 : T6 s) : Ad P (E.Fp g i c s) := by
 refine ⟨?_, ?_, ?_⟩
 ·intro x
  simp only [Env.Fp]
  cases hx : Nat.beq x g with
  | false => exact h.1 x
  | true =>
   have := Nat.eq_of_beq_eq_true hx
   subst this
   intro R args H fz slot k r hk
   simp only at hk
   split at hk
   ·rename_i c' hc'
    split at hk
    ·rename_i hb
     obtain ⟨v, e, h1, h2, h3, h4⟩ := hs R args H fz slot k r hk
     exact ⟨v, e, h1, fun R' k' => by simp only [hc', hb]; exact h2 R' k', h3, h4⟩
    ·rename_i hb
     obtain ⟨v, e, h1, h2, h3, h4⟩ := h.1 x R args H fz slot k r hk
     exact ⟨v, e, h1, fun R' k' => by simp only [hc', hb]; exact h2 R' k', h3, h4⟩
   ·cases hk
 ·intro x hx
  simp only [Env.Fp] at hx ⊢
  cases hb : Nat.beq x g with
  | true => rw [hb] at hx; cases hx
  | false => rw [hb] at hx; exact h.2.1 x hx
 ·intro x hx
  simp only [Env.Fp] at hx ⊢
  cases hb : Nat.beq x g with
  | true =>
   rw [hb] at hx
   have := Nat.eq_of_beq_eq_true hb
   subst this
   have h2 := h.2.2 x hx
   intro R args H H' fz fz' slot k S a1 a2 a3
   simp only
   split
   ·split
    ·exact hl2 R args H H' fz fz' slot k S a1 a2 a3
    ·exact h2 R args H H' fz fz' slot k S a1 a2 a3
   ·rfl
  | false => rw [hb] at hx; exact h.2.2 x hx
end Go.Pev
end
section
namespace Go.Pev
open Go.RowKit Go.ChangeShapes Go.WideShapes Go.ChangeAt
def MO (P : Program) (rd : TypeId → Option Ty) : List Field → Nat → Option Ty
 | [], _ => some .unit
 | f :: r, off => match rd f.type, MO P rd r (off + P.cellsOf f.type) with
  | some a, some b => match Nat.beq f.offset off && Nat.beq (P.cellsOf f.type) a.size with
   | true => some (.prod a b)
   | false => none
  | _, _ => none
def Eh (P : Program) : Nat → TypeId → Option Ty
 | 0, _ => none
 | n + 1, t => match P.underlying t with
  | some .bool => some .bool
  | some (.int k) => some (.int k)
  | some (.slice e) => match Eh P n e with
   | some a => match Nat.beq (P.cellsOf e) a.size && !(Nat.beq a.size 0) with
    | true => some (.slice a)
    | false => none
   | none => none
  | some (.array c e) => match Eh P n e with
   | some a => match Nat.beq (P.cellsOf e) a.size && Nat.beq (P.cellsOf t) (c * a.size) with
    | true => some (.arr c a)
    | false => none
   | none => none
  | some (.struct fs) => match MO P (Eh P n) fs.toList 0 with
   | some a => match Nat.beq (P.cellsOf t) a.size with
    | true => some a
    | false => none
   | none => none
  | _ => none
def wfD : (t : Ty) → t.den → Prop
 | .unit, _ => True
 | .bool, _ => True
 | .int k, n => k.min ≤ n ∧ n ≤ k.max
 | .slice e, xs => List.length (α := e.den) xs ≤ maxLen ∧ ∀ x ∈ (xs : List e.den), wfD e x
 | .prod a b, d => wfD a d.1 ∧ wfD b d.2
 | .arr n e, xs => List.length (α := e.den) xs = n ∧ ∀ x ∈ (xs : List e.den), wfD e x
section
variable {H : Type} {enc : TypeId × Value → H} {P : Program} {w : World} {spare : Nat → Bool} {held : Bool}
abbrev below (w : World) : Nat → Prop := fun b => b < w.heap.size
theorem AY7 {k : IntKind} {n : Int} (h : (Lit.int k n).wf = true) : k.min ≤ n ∧ n ≤ k.max := by
 simpa [Lit.wf] using h
theorem APE {α : Type} {R : α → List Value → Prop} {k : Nat} : ∀ (m : Nat) (f : Nat → List Value), (∀ i, i < m → (f i).length = k ∧ ∃ x, R x (f i)) → ∃ xs : List α, xs.length = m ∧ rows R xs ((List.range m).flatMap f) ∧ ∀ x ∈ xs, ∃ i, i < m ∧ R x (f i) := by
 intro m
 induction m with
 | zero => intro f _; exact ⟨[], rfl, rfl, fun x hx => by cases hx⟩
 | succ m ih =>
  intro f h
  obtain ⟨xs, h1, h2, h3⟩ := ih f fun i hi => h i (by omega)
  obtain ⟨_, x, hx⟩ := h m (by omega)
  refine ⟨xs ++ [x], by simp [h1], ?_, fun y hy => ?_⟩
  ·rw [List.range_succ, List.flatMap_append]
   exact Jr h2 (by simp; exact ⟨f m, [], by simp, hx, rfl⟩)
  ·rcases List.mem_append.1 hy with hy | hy
   ·obtain ⟨i, hi, hr⟩ := h3 y hy; exact ⟨i, by omega, hr⟩
   ·simp only [List.mem_singleton] at hy; subst hy; exact ⟨m, by omega, hx⟩
theorem AWU {f : Nat → List Value} {k : Nat} : ∀ (m : Nat), (∀ i, i < m → (f i).length = k) → ∀ (j : Nat) (u : Value), ((List.range m).flatMap f)[j]? = some u → ∃ i r, i < m ∧ r < k ∧ j = i * k + r ∧ (f i)[r]? = some u := by
 intro m
 induction m with
 | zero => intro _ j u h; simp at h
 | succ m ih =>
  intro hl j u h
  rw [List.range_succ, List.flatMap_append] at h
  have hlen : ∀ m', m' ≤ m → ((List.range m').flatMap f).length = m' * k := by
   intro m' hm'
   induction m' with
   | zero => simp
   | succ m' ih' =>
    rw [List.range_succ, List.flatMap_append, List.length_append, ih' (by omega)]
    simp [hl m' (by omega), Nat.add_mul]
  rcases Nat.lt_or_ge j (m * k) with hj | hj
  ·rw [List.getElem?_append_left (by rw [hlen m (Nat.le_refl _)]; exact hj)] at h
   obtain ⟨i, r, h1, h2, h3, h4⟩ := ih (fun i hi => hl i (by omega)) j u h
   exact ⟨i, r, by omega, h2, h3, h4⟩
  ·rw [List.getElem?_append_right (by rw [hlen m (Nat.le_refl _)]; exact hj), hlen m (Nat.le_refl _)] at h
   simp only [List.flatMap_cons, List.flatMap_nil, List.append_nil] at h
   have hr : j - m * k < k := by
    have := Du h
    rwa [hl m (by omega)] at this
   exact ⟨m, j - m * k, by omega, hr, by omega, h⟩
theorem AWs (a : Addr) (i j : Nat) : (a.add i).add j = a.add (i + j) := by
 unfold Addr.add
 by_cases hi : i = 0
 ·subst hi; simp
 ·by_cases hj : j = 0
  ·subst hj; simp
  ·have : ¬ (i + j = 0) := by omega
   simp [hi, hj, Nat.add_assoc]
theorem AOU {α : Type} [Inhabited α] {n : Nat} {p : Nat → α → Prop} (h : ∀ i, i < n → ∃ x, p i x) : ∃ f : Nat → α, ∀ i, i < n → p i (f i) := by
 classical
 refine ⟨fun i => if hi : i < n then Classical.choose (h i hi) else default, fun i hi => ?_⟩
 simp only [dif_pos hi]
 exact Classical.choose_spec (h i hi)
theorem ALe {rd : TypeId → Option Ty} {cs : List Value} (hrd : ∀ (f : Field) (a : Ty), rd f.type = some a → (P.cellsOf f.type = a.size) → (∃ y : Nat × (DataW H × List MemPlace), DataW.trod enc P w 0 spare held y.1 f.type ((cs.drop f.offset).take (P.cellsOf f.type)) = some y.2) → ∃ d : a.den, Dat w (below w) a d ((cs.drop f.offset).take (P.cellsOf f.type)) ∧ wfD a d) :
  ∀ (fs : List Field) (off : Nat) (t : Ty), MO P rd fs off = some t → off + t.size = cs.length → (∀ f ∈ fs, ∃ y : Nat × (DataW H × List MemPlace), DataW.trod enc P w 0 spare held y.1 f.type ((cs.drop f.offset).take (P.cellsOf f.type)) = some y.2) →
   ∃ d : t.den, Dat w (below w) t d (cs.drop off) ∧ wfD t d := by
 intro fs
 induction fs with
 | nil =>
  intro off t h hl _
  simp only [MO, Option.some.injEq] at h
  subst h
  refine ⟨(), ?_, trivial⟩
  show cs.drop off = []
  simp [Ty.size] at hl
  exact List.drop_eq_nil_of_le (by omega)
 | cons f r ih =>
  intro off t h hl hf
  simp only [MO] at h
  split at h
  ·rename_i a b ha hb
   split at h
   ·rename_i hc
    simp only [Option.some.injEq] at h
    subst h
    simp only [Bool.and_eq_true] at hc
    have h1 := Nat.eq_of_beq_eq_true hc.1
    have h2 := Nat.eq_of_beq_eq_true hc.2
    obtain ⟨d, hd, hw⟩ := hrd f a ha h2 (hf f (by simp))
    simp only [Ty.size] at hl
    obtain ⟨e, he, hw'⟩ := ih (off + P.cellsOf f.type) b hb (by omega) fun g hg => hf g (by simp [hg])
    refine ⟨(d, e), ⟨(cs.drop off).take (P.cellsOf f.type), cs.drop (off + P.cellsOf f.type), ?_, ?_, he⟩, hw, hw'⟩
    ·rw [← List.drop_drop, List.take_append_drop]
    ·rw [h1] at hd; exact hd
   ·cases h
  ·cases h
theorem ATp : ∀ (n : Nat) (t : TypeId) (ty : Ty) (fuel : Nat) (cs : List Value) (x : DataW H × List MemPlace), Eh P n t = some ty → DataW.trod enc P w 0 spare held fuel t cs = some x → ∃ d : ty.den, Dat w (below w) ty d cs ∧ wfD ty d := by
 intro n
 induction n with
 | zero => intro t ty fuel cs x h; cases h
 | succ n ih =>
  intro t ty fuel cs x h hx
  simp only [Eh] at h
  split at h
  ·rename_i hu
   simp only [Option.some.injEq] at h; subst h
   obtain ⟨b, rfl, _⟩ := DataW.trod_bool hu hx
   exact ⟨b, rfl, trivial⟩
  ·rename_i k hu
   simp only [Option.some.injEq] at h; subst h
   obtain ⟨m, rfl, _, hw⟩ := DataW.trod_int hu hx
   exact ⟨m, rfl, AY7 hw⟩
  ·rename_i e hu
   split at h
   ·rename_i a ha
    split at h
    ·rename_i hc
     simp only [Option.some.injEq] at h; subst h
     rw [Bool.and_eq_true] at hc
     have hpos : a.size ≠ 0 := fun h0 => by rw [h0] at hc; simp at hc
     have hc := Nat.eq_of_beq_eq_true hc.1
     rcases DataW.trod_slice hu hx with ⟨rfl, _⟩ | ⟨ad, len, cap, elems, rest, m, rfl, rfl, _, _, hle, hmax, hlen, hel, _⟩
     ·exact ⟨[], ⟨none, 0, rfl, Nat.le_refl _, fun hne => absurd rfl hne⟩, Nat.zero_le _, fun x hx => by cases hx⟩
     ·-- each element
      have each : ∀ i, i < len → ∃ cs', w.cells? 0 (ad.add (i * P.cellsOf e)) (P.cellsOf e) = some cs' ∧ ∃ d : a.den, Dat w (below w) a d cs' ∧ wfD a d := by
       intro i hi
       have h1 := hel i hi
       rw [List.getElem?_eq_getElem (by omega), Option.bind_eq_some_iff] at h1
       obtain ⟨cs', h2, h3⟩ := h1
       exact ⟨cs', h2, ih e a m cs' _ ha h3⟩
      obtain ⟨f, hf⟩ := AOU (α := List Value) (p := fun i cs' => w.cells? 0 (ad.add (i * P.cellsOf e)) (P.cellsOf e) = some cs' ∧ ∃ d : a.den, Dat w (below w) a d cs' ∧ wfD a d) each
      have hfl : ∀ i, i < len → (f i).length = a.size := by
       intro i hi
       obtain ⟨_, hl, _⟩ := World.cells?_some (hf i hi).1
       rw [hl, hc]
      obtain ⟨xs, h1, h2, h3⟩ := APE (R := fun (d : a.den) cs => Dat w (below w) a d cs ∧ wfD a d) (k := a.size) len f fun i hi => ⟨hfl i hi, (hf i hi).2⟩
      refine ⟨xs, ⟨some ad, cap, by rw [h1], by rw [h1]; exact hle, fun hne => ⟨ad, (List.range len).flatMap f, rfl, ?_, BO (fun x _ cs hx => hx.1) h2, fun j u hu => ?_⟩⟩, by rw [h1]; exact Nat.le_trans hle hmax, fun x hx => ?_⟩
      ·-- the block is there
       have hl0 : 0 < len := by
        rcases Nat.eq_zero_or_pos len with h0 | h0
        ·exact absurd (List.eq_nil_of_length_eq_zero (by rw [h1, h0])) hne
        ·exact h0
       have hb := World.cells?_block (hf 0 hl0).1 (by omega)
       rw [Nat.zero_mul] at hb
       have e0 : ad.add 0 = ad := by simp [Addr.add]
       rw [e0] at hb
       exact hb
      ·obtain ⟨i, r, hi, hr, rfl, hur⟩ := AWU len hfl j u hu
       obtain ⟨_, _, hcell⟩ := World.cells?_some (hf i hi).1
       have := hcell r (by rw [hc]; exact hr)
       rw [hur] at this
       rw [← this, hc, AWs]
      ·obtain ⟨i, _, hr⟩ := h3 x hx
       exact hr.2
    ·cases h
   ·cases h
  ·rename_i c e hu
   split at h
   ·rename_i a ha
    split at h
    ·rename_i hc
     simp only [Option.some.injEq] at h; subst h
     rw [Bool.and_eq_true] at hc
     have hc1 := Nat.eq_of_beq_eq_true hc.1
     have hc2 := Nat.eq_of_beq_eq_true hc.2
     obtain ⟨xs, m, rfl, _, hl, hxs, hfs⟩ := DataW.trod_array hu hx
     rw [hc2] at hl
     obtain ⟨ys, h1, h2, h3⟩ := APE (R := fun (d : a.den) cs => Dat w (below w) a d cs ∧ wfD a d) (k := a.size) c (fun i => (cs.drop (i * a.size)).take a.size) fun i hi => by
      have hi1 : i * a.size + a.size ≤ c * a.size := by
       have := Nat.mul_le_mul_right a.size (show i + 1 ≤ c from hi)
       rwa [Nat.add_mul, Nat.one_mul] at this
      have h1 := hfs i hi
      rw [List.getElem?_eq_getElem (by omega), hc1] at h1
      exact ⟨by rw [List.length_take, List.length_drop, hl]; omega, ih e a m _ _ ha h1⟩
     have hjoin : ∀ k, k ≤ c → (List.range k).flatMap (fun i => (cs.drop (i * a.size)).take a.size) = cs.take (k * a.size) := by
      intro k
      induction k with
      | zero => intro _; simp
      | succ k ihk =>
       intro hk
       rw [List.range_succ, List.flatMap_append, ihk (by omega), Nat.add_mul, Nat.one_mul, List.take_add]
       simp
     rw [hjoin c (Nat.le_refl _), ← hl, List.take_length] at h2
     exact ⟨ys, ⟨h1, BO (fun x _ cs hx => hx.1) h2⟩, h1, fun x hx => by obtain ⟨i, _, hr⟩ := h3 x hx; exact hr.2⟩
    ·cases h
   ·cases h
  ·rename_i fs hu
   split at h
   ·rename_i a ha
    split at h
    ·rename_i hc
     simp only [Option.some.injEq] at h; subst h
     have hc := Nat.eq_of_beq_eq_true hc
     obtain ⟨xs, m, rfl, _, hl, hxs, hfs⟩ := DataW.trod_struct hu hx
     obtain ⟨d, hd, hw⟩ := ALe (enc := enc) (w := w) (spare := spare) (held := held) (cs := cs) (fun f b hb _ ⟨y, hy⟩ => ih f.type b y.1 _ y.2 hb hy) fs.toList 0 _ ha (by rw [hl, hc]; omega) (fun f hf => by
      obtain ⟨i, hi⟩ := List.getElem?_of_mem hf
      have h1 := hfs i f (by simpa using hi)
      have hlt : i < xs.length := by rw [hxs]; simpa using Du hi
      rw [List.getElem?_eq_getElem hlt] at h1
      exact ⟨(m, xs[i]), h1⟩)
     rw [List.drop_zero] at hd
     exact ⟨d, hd, hw⟩
    ·cases h
   ·cases h
  ·cases h
theorem AMX {r : Reach} {b0 : Nat} {t : TypeId} {v : Value} (hval : Value.okWide P w r b0 t v) (hn : ∀ d, P.underlying t = some d → (match d with | .bool | .int _ | .slice _ => true | _ => false) = true) {ty : Ty} {n : Nat} (h : Eh P (n + 1) t = some ty) : v.cells.toList = [v] := by
 simp only [Value.okWide] at hval
 have hu : ∃ d, P.underlying t = some d := by
  cases hu : P.underlying t with
  | none => simp only [Eh, hu] at h; cases h
  | some d => exact ⟨d, rfl⟩
 obtain ⟨d, hu⟩ := hu
 have := hn d hu
 rw [hu] at hval
 cases d <;> simp only [Bool.false_eq_true] at this <;> simp only [Cell.okWide, hu] at hval <;> cases v <;> first | rfl | (simp_all [Cell.ok])
theorem US {r : Reach} {b0 : Nat} {t : TypeId} {v : Value} {ps : List MemPlace} {dd : DataW H} (hval : Value.okWide P w r b0 t v) (hd : DataW.Trod enc P w 0 spare held t v dd ps) {ty : Ty} {n : Nat} (h : Eh P (n + 1) t = some ty) :
  ∃ d : ty.den, Bc w (below w) ty d v ∧ wfD ty d := by
 obtain ⟨fuel, hf⟩ := hd
 obtain ⟨d, h1, h2⟩ := ATp (n + 1) t ty fuel _ _ h hf
 refine ⟨d, ?_, h2⟩
 have one : (∀ d, P.underlying t = some d → (match d with | .bool | .int _ | .slice _ => true | _ => false) = true) → ty.isAgg = false → Bc w (below w) ty d v := by
  intro hn hg
  unfold Bc
  rw [hg]
  rw [AMX hval hn h] at h1
  exact h1
 have agg : (∃ cs, v = .agg cs) → ty.isAgg = true → Bc w (below w) ty d v := by
  rintro ⟨cs, rfl⟩ hg
  unfold Bc
  rw [hg]
  exact ⟨cs, rfl, h1⟩
 have hu : ∃ d, P.underlying t = some d := by
  cases hu : P.underlying t with
  | none => simp only [Eh, hu] at h; cases h
  | some d => exact ⟨d, rfl⟩
 obtain ⟨td, hu⟩ := hu
 simp only [Eh, hu] at h
 split at h
 ·rename_i hq; cases hq; simp only [Option.some.injEq] at h; subst h
  exact one (fun d hd => by rw [hu] at hd; cases hd; rfl) rfl
 ·rename_i k hq; cases hq; simp only [Option.some.injEq] at h; subst h
  exact one (fun d hd => by rw [hu] at hd; cases hd; rfl) rfl
 ·rename_i e hq; cases hq
  split at h
  ·split at h
   ·simp only [Option.some.injEq] at h; subst h
    exact one (fun d hd => by rw [hu] at hd; cases hd; rfl) rfl
   ·cases h
  ·cases h
 ·rename_i c e hq; cases hq
  have hv : ∃ cs, v = .agg cs := by
   simp only [Value.okWide, hu] at hval
   obtain ⟨cs, rfl, _⟩ := hval
   exact ⟨cs, rfl⟩
  split at h
  ·split at h
   ·simp only [Option.some.injEq] at h; subst h
    exact agg hv rfl
   ·cases h
  ·cases h
 ·rename_i fs hq; cases hq
  have hv : ∃ cs, v = .agg cs := by
   simp only [Value.okWide, hu] at hval
   obtain ⟨cs, rfl, _⟩ := hval
   exact ⟨cs, rfl⟩
  split at h
  ·rename_i a ha
   split at h
   ·simp only [Option.some.injEq] at h; subst h
    refine agg hv ?_
    cases hfs : fs.toList with
    | nil => rw [hfs] at ha; simp only [MO, Option.some.injEq] at ha; subst ha; rfl
    | cons f r =>
     rw [hfs] at ha
     simp only [MO] at ha
     split at ha
     ·split at ha
      ·simp only [Option.some.injEq] at ha; subst ha; rfl
      ·cases ha
     ·cases ha
   ·cases h
  ·cases h
 ·cases h
theorem AAT {g : FuncId} {s : Spec} (hs : AR P g s) {args : List AV} {b : Bool} {e : Eff} (hrun : s (AV × Eff) args [] [] 0 (fun v e => some (v, e)) = some (.data .bool b, e)) {vals : List Value}
  (hr : AZ w (below w) (fun _ => none) [] args vals) : Calls P g vals.toArray w fun en w' => en = .returned (.bool b) ∧ Below w.heap.size w w' := by
 obtain ⟨v, e', h1, _, _, h4⟩ := hs _ args [] [] 0 _ _ hrun
 simp only [Option.some.injEq, Prod.mk.injEq] at h1
 obtain ⟨rfl, rfl⟩ := h1
 have hi : HI w (below w) (fun _ => none) [] [] := ⟨fun id o h => by simp at h, fun i j b c b' c' h => by simp [owned] at h, fun i b c h => by simp [owned] at h, fun i T t xs b c h => by simp at h, fun b h => h, rfl⟩
 refine (h4 w _ _ vals hi hr).mono ?_
 rintro en w' ⟨u, rfl, F', m', ⟨hx, _⟩, hu⟩
 have hb : u = .bool b := CN hu
 subst hb
 exact ⟨rfl, hx.os, hx.tape, hx.output, hx.size, fun i hi => hx.keep i hi fun j c ho _ => by simp [owned] at ho⟩
end
section
variable {H : Type} {enc : TypeId × Value → H} {P : Program}
theorem Zf {f : Func} {s : ChangeSpec} {apart fresh handsOn again : Bool} {W W' : World} {args : Array Value} {v : Value} {ds gs : List (DataW H)} {before pa pv : List MemPlace}
  (hW : DataW.Whole enc P f.params.toList s.vars apart W args.toList ds gs before)
  (hres : ∀ (b : Nat) (sp : Nat → Bool) (hd : Bool), DataW.TrodAll enc P W' b sp hd f.resultTypes.toList (v.resultList f.resultTypes.size) (s.fn H (ds ++ gs)).results [])
  (hargs : ∀ sp : Nat → Bool, (∀ p ∈ before, sp p.block = true) → DataW.TrodAll enc P W' 0 sp true f.params.toList args.toList (s.fn H (ds ++ gs)).args pa)
  (hvars : ∀ sp : Nat → Bool, (∀ p ∈ before, sp p.block = true) → DataW.TrodVars enc P W' sp s.vars (s.fn H (ds ++ gs)).vars pv)
  (hps : before = pa ++ pv) (hb : Below W.heap.size W W')
  (hok : ∀ (j : Nat) (t : TypeId) (r : Value), f.resultTypes[j]? = some t → (v.resultList f.resultTypes.size)[j]? = some r → Value.okWide P W' .any 0 t r) :
  s.post enc P f apart fresh handsOn again W args v W' := by
 have hlt : ∀ p ∈ before, p.block < W.heap.size := fun p hp => hW.lt p hp
 have hold : ∀ p ∈ before, (fun b => decide (b < W.heap.size)) p.block = true := fun p hp => by simpa using hlt p hp
 refine ⟨ds, gs, before, [], pa, pv, hW, hres _ _ _, hargs _ hold, hvars _ hold, World.keptBut_mono (fun p hp => ⟨hp, ?_⟩) (hb.frame (· ∈ before)), fun _ => ?_⟩
 ·rw [hps, List.mem_append] at hp
  exact Or.inr hp
 ·obtain ⟨_, _, _, _, _, hz, hn⟩ := hW
  refine ⟨hok, _, _, ([] ++ pa) ++ pv, ⟨[] ++ pa, pv, trodAll_append (hargs _ (fun _ _ => rfl)) (hres _ _ _), hvars _ (fun _ _ => rfl), rfl, ?_, ?_⟩, ?_⟩
  ·intro b off hp
   have hin : MemPlace.cell b off ∈ before := by rw [hps]; simpa using hp
   rw [hb.frozen (hlt _ hin)]
   exact hz b off hin
  ·intro ha
   have := hn ha
   rw [hps] at this
   simpa using this
  ·intro p hp _
   rw [hps]
   simpa using hp
theorem ME {t : TypeId} (hl : laidOutB P = true) (hr : P.readableRec t = true) (hrow : t < P.types.size) {W W' : World} {v : Value} {d : DataW H} {ps : List MemPlace}
  (h : DataW.Trod enc P W 0 (fun _ => true) true t v d ps) (hb : Below W.heap.size W W') (hlt : ∀ x ∈ ps, x.block < W.heap.size) {sp : Nat → Bool} (hs : ∀ x ∈ ps, sp x.block = true) :
  DataW.Trod enc P W' 0 sp true t v d ps :=
 WideElems.Trod_stays hl hr hrow h (fun x hx => hb.same (hlt x hx)) hs
end
end Go.Pev
end
section
section
namespace Go.Pev.Pl
open Tok
theorem Tn {a b : Nat} (hb : 0 < b) : rem? (a : Int) (b : Int) = some ((a % b : Nat) : Int) := by
 rw [Vq, Pn, if_neg (by omega)]
 rfl
theorem I1 {a b : Nat} (h : a < 2 * b) : a % b = if a < b then a else a - b := by
 split
 ·exact Nat.mod_eq_of_lt (by assumption)
 ·rw [Nat.mod_eq_sub_mod (by omega), Nat.mod_eq_of_lt (by omega)]
def Io (n t u : Int) : Bool := match Bp n t with
 | some x => decide (x.st = u)
 | none => false
theorem Kw {l : List Int} {j : Nat} (hj : j ≤ l.length) : (rot l j).length = l.length := by
 simp [rot]; omega
theorem FE {l : List Int} {j k : Nat} (hj : j < l.length) (hk : k < l.length) : (rot l j).getD k 0 = l.getD ((j + k) % l.length) 0 := by
 rw [I1 (by omega), rot]
 by_cases h : j + k < l.length
 ·rw [if_pos h, List.getD_eq_getElem?_getD, List.getElem?_append_left (by simp; omega), List.getElem?_drop, List.getD_eq_getElem?_getD]
 ·rw [if_neg h, List.getD_eq_getElem?_getD, List.getElem?_append_right (by simp; omega), List.getElem?_take_of_lt (by simp; omega), List.getD_eq_getElem?_getD]
  congr 2
  simp; omega
def Red (n : Int) (l l' : List Int) : Prop := ∃ j x u v rest, j < l.length ∧ rot l j = x :: CS n (.arc u v) :: v :: CS n (.arc v u) :: rest ∧ okT n (.arc u v) ∧ Io n x u = true ∧ l' = rest ++ [x]
def Eg (l : List Int) (i : Nat) : List Int := (List.range' 3 (l.length - 3)).map fun k => l.getD ((i + k) % l.length) 0
theorem ARI {l : List Int} {i j : Nat} (hl : 4 ≤ l.length) (hj : j < l.length) (hij : i = if j + 1 = l.length then 0 else j + 1) : Eg l i = (rot l j).drop 4 ++ [(rot l j).getD 0 0] := by
 apply List.ext_getElem
 ·simp [Eg, Kw (Nat.le_of_lt hj)]; omega
 ·intro m h1 h2
  simp only [Eg, List.length_map, List.length_range'] at h1
  simp only [Eg, List.getElem_map, List.getElem_range', Nat.one_mul]
  have hi : i < l.length := by rw [hij]; split <;> omega
  by_cases hm : m < l.length - 4
  ·rw [List.getElem_append_left (by simp [Kw (Nat.le_of_lt hj)]; omega), List.getElem_drop]
   have := FE (l := l) (j := j) (k := 4 + m) hj (by omega)
   rw [List.getD_eq_getElem?_getD, List.getElem?_eq_getElem (by rw [Kw (Nat.le_of_lt hj)]; omega), Option.getD_some] at this
   rw [this]
   congr 1
   rw [I1 (by omega), I1 (by omega), hij]
   (repeat' split) <;> omega
  ·rw [List.getElem_append_right (by simp [Kw (Nat.le_of_lt hj)]; omega)]
   simp only [List.getElem_singleton]
   rw [FE hj (by omega)]
   congr 1
   rw [I1 (by omega), I1 (by omega), hij]
   (repeat' split) <;> omega
theorem AZu {α : Type} {l : List α} (z : α) (h : 4 ≤ l.length) : l = l.getD 0 z :: l.getD 1 z :: l.getD 2 z :: l.getD 3 z :: l.drop 4 := by
 match l, h with
 | a :: b :: c :: d :: r, _ => rfl
def I6 (n : Int) (l : List Int) (i : Nat) : Bool :=
 decide (4 ≤ l.length) && match Bp n (l.getD i 0) with
  | some (.arc u v) => decide (l.getD ((i + 1) % l.length) 0 = v) && (decide (l.getD ((i + 2) % l.length) 0 = Cn n v u) && Io n (l.getD ((i + l.length - 1) % l.length) 0) u)
  | _ => false
theorem EO {n u v : Int} (h : okT n (.arc u v)) : okT n (.arc v u) := ⟨h.2.1, h.1, Ne.symm h.2.2⟩
theorem ANF {n : Int} {l : List Int} {i : Nat} (hi : i < l.length) (h : I6 n l i = true) : Red n l (Eg l i) := by
 rw [I6, Bool.and_eq_true, decide_eq_true_eq] at h
 obtain ⟨hl, h⟩ := h
 cases ht : Bp n (l.getD i 0) with
 | none => rw [ht] at h; cases h
 | some t =>
  rw [ht] at h
  cases t with
  | ver v => cases h
  | arc u v =>
   simp only [Bool.and_eq_true, decide_eq_true_eq] at h
   obtain ⟨h1, h2, h3⟩ := h
   obtain ⟨g1, g2⟩ := IQ ht
   let j := if i = 0 then l.length - 1 else i - 1
   have hj : j < l.length := by simp only [j]; split <;> omega
   have hij : i = if j + 1 = l.length then 0 else j + 1 := by simp only [j]; (repeat' split) <;> omega
   have m0 : (i + l.length - 1) % l.length = (j + 0) % l.length := by
    rw [I1 (by omega), I1 (by omega)]; simp only [j]; (repeat' split) <;> omega
   have m1 : i = (j + 1) % l.length := by rw [I1 (by omega)]; simp only [j]; (repeat' split) <;> omega
   have m2 : (i + 1) % l.length = (j + 2) % l.length := by
    rw [I1 (by omega), I1 (by omega)]; simp only [j]; (repeat' split) <;> omega
   have m3 : (i + 2) % l.length = (j + 3) % l.length := by
    rw [I1 (by omega), I1 (by omega)]; simp only [j]; (repeat' split) <;> omega
   have hlr : 4 ≤ (rot l j).length := by rw [Kw (Nat.le_of_lt hj)]; exact hl
   have e := AZu (0 : Int) hlr
   have r0 := FE (l := l) (k := 0) hj (by omega)
   have r1 := FE (l := l) (k := 1) hj (by omega)
   have r2 := FE (l := l) (k := 2) hj (by omega)
   have r3 := FE (l := l) (k := 3) hj (by omega)
   rw [← m0] at r0
   rw [← m1] at r1
   rw [← m2, h1] at r2
   rw [← m3, h2, Cm (EO g1)] at r3
   refine ⟨j, (rot l j).getD 0 0, u, v, (rot l j).drop 4, hj, ?_, g1, by rw [r0]; exact h3, ARI hl hj hij⟩
   rw [r1, r2, r3, ← g2] at e
   exact e
theorem ALd {n : Int} {l l' : List Int} (h : Red n l l') : ∃ i, i < l.length ∧ I6 n l i = true := by
 obtain ⟨j, x, u, v, rest, hj, hr, hok, hst, _⟩ := h
 have hl : 4 ≤ l.length := by
  have := congrArg List.length hr
  rw [Kw (Nat.le_of_lt hj)] at this
  simp only [List.length_cons] at this
  omega
 let i := if j + 1 = l.length then 0 else j + 1
 have hi : i < l.length := by simp only [i]; split <;> omega
 have m0 : (i + l.length - 1) % l.length = (j + 0) % l.length := by
  rw [I1 (by omega), I1 (by omega)]; simp only [i]; (repeat' split) <;> omega
 have m1 : i = (j + 1) % l.length := by rw [I1 (by omega)]; simp only [i]; (repeat' split) <;> omega
 have m2 : (i + 1) % l.length = (j + 2) % l.length := by
  rw [I1 (by omega), I1 (by omega)]; simp only [i]; (repeat' split) <;> omega
 have m3 : (i + 2) % l.length = (j + 3) % l.length := by
  rw [I1 (by omega), I1 (by omega)]; simp only [i]; (repeat' split) <;> omega
 have r0 := FE (l := l) (k := 0) hj (by omega)
 have r1 := FE (l := l) (k := 1) hj (by omega)
 have r2 := FE (l := l) (k := 2) hj (by omega)
 have r3 := FE (l := l) (k := 3) hj (by omega)
 rw [hr] at r0 r1 r2 r3
 rw [← m0] at r0
 rw [← m1] at r1
 rw [← m2] at r2
 rw [← m3] at r3
 simp only [List.getD_cons_zero, List.getD_cons_succ] at r0 r1 r2 r3
 refine ⟨i, hi, ?_⟩
 rw [I6, ← r1, B1 hok]
 simp only [← r0, ← r2, ← r3, hst, Cm (EO hok), hl, decide_true, Bool.and_self]
theorem AZH {n : Int} {l l' : List Int} (h : Red n l l') (hn : l.Nodup) : TI n l ↔ TI n l' := by
 obtain ⟨j, x, u, v, rest, hj, hr, hok, hst, rfl⟩ := h
 obtain ⟨X, hX, hXs⟩ : ∃ X, Bp n x = some X ∧ X.st = u := by
  rw [Io] at hst
  cases hx : Bp n x with
  | none => rw [hx] at hst; cases hst
  | some X => rw [hx] at hst; exact ⟨X, rfl, by simpa using hst⟩
 obtain ⟨hX1, hX2⟩ := IQ hX
 have hnr : (rot l j).Nodup := by
  rw [rot]
  exact (List.perm_append_comm.nodup_iff).2 (by rw [List.take_append_drop]; exact hn)
 rw [hr] at hnr
 constructor
 ·rintro ⟨L, h1, h2, h3⟩
  have hL : rot l j = (L.drop j ++ L.take j).map (CS n) := by rw [rot, h1]; simp
  have hTr : T (L.drop j ++ L.take j) := T.rot (L.take j) (L.drop j) (by rw [List.take_append_drop]; exact h3)
  have hok2 : ∀ t ∈ L.drop j ++ L.take j, okT n t := fun t ht => h2 t (by
   rw [← List.take_append_drop j L]
   simp only [List.mem_append] at ht ⊢
   exact ht.symm)
  generalize L.drop j ++ L.take j = M at *
  rw [hr] at hL
  match M, hL with
  | [_, _], hL => simp at hL
  | [_, _, _], hL => simp at hL
  | a :: b :: c :: d :: r, hL =>
   simp only [List.map_cons, List.cons.injEq] at hL
   obtain ⟨e1, e2, e3, e4, e5⟩ := hL
   have q1 : X = a := FL hX1 (hok2 a (by simp)) (by rw [hX2, e1])
   have q2 : Tok.arc u v = b := FL hok (hok2 b (by simp)) e2
   have q3 : Tok.ver v = c := FL (show okT n (.ver v) from hok.2.1) (hok2 c (by simp)) e3
   have q4 : Tok.arc v u = d := FL (EO hok) (hok2 d (by simp)) e4
   subst q1 q2 q3 q4
   subst hXs
   have := T.less hTr
   refine ⟨r ++ [X], by simp [e5, hX2], fun t ht => hok2 t ?_, T.rot [X] r this⟩
   simp only [List.mem_append, List.mem_singleton] at ht
   rcases ht with h | h <;> simp [h]
 ·rintro ⟨K, k1, k2, k3⟩
  obtain ⟨K1, K2, rfl, e1, e2⟩ := List.map_eq_append_iff.1 k1.symm
  obtain ⟨X', K3, rfl, e3, e4⟩ := List.map_eq_cons_iff.1 e2
  rw [List.map_eq_nil_iff] at e4
  subst e4
  have q1 : X' = X := FL (k2 X' (by simp)) hX1 (by rw [hX2, e3])
  subst q1
  have t1 : T (X' :: K1) := T.rot K1 [X'] k3
  subst hXs
  have hvm : ∀ t, t ∈ X' :: K1 → okT n t := fun t ht => k2 t (by
   simp only [List.mem_cons, List.mem_append, List.mem_singleton] at ht ⊢
   rcases ht with h | h <;> simp [h])
  have hnv : Tok.ver v ∉ X' :: K1 := by
   intro hm
   have hvl : v = x ∨ v ∈ rest := by
    rcases List.mem_cons.1 hm with h | h
    ·left; rw [← hX2, ← h]; rfl
    ·right; rw [← e1]; exact List.mem_map.2 ⟨_, h, rfl⟩
   simp only [List.nodup_cons, List.mem_cons, not_or] at hnr
   rcases hvl with h | h
   ·exact hnr.1.2.1 h.symm
   ·exact hnr.2.2.1.2 h
  have t2 := T.add X' K1 v t1 hok.2.2 hnv
  have hmap : rot l j = (X' :: .arc X'.st v :: .ver v :: .arc v X'.st :: K1).map (CS n) := by
   rw [hr]; simp only [List.map_cons, hX2, e1]; rfl
  have hok3 : ∀ t ∈ X' :: Tok.arc X'.st v :: .ver v :: .arc v X'.st :: K1, okT n t := by
   intro t ht
   simp only [List.mem_cons] at ht
   rcases ht with rfl | rfl | rfl | rfl | h
   ·exact hX1
   ·exact hok
   ·exact hok.2.1
   ·exact EO hok
   ·exact hvm t (List.mem_cons_of_mem _ h)
  generalize X' :: Tok.arc X'.st v :: .ver v :: .arc v X'.st :: K1 = M at *
  rw [rot] at hmap
  obtain ⟨M1, M2, rfl, f1, f2⟩ := List.map_eq_append_iff.1 hmap.symm
  refine ⟨M2 ++ M1, by rw [List.map_append, f1, f2, List.take_append_drop], fun t ht => hok3 t ?_, T.rot M1 M2 t2⟩
  simp only [List.mem_append] at ht ⊢
  exact ht.symm
theorem AZk {n : Int} {l : List Int} (h : TI n l) (hl : 1 < l.length) : ∃ l', Red n l l' := by
 obtain ⟨L, h1, h2, h3⟩ := h
 rcases h3.leaf with ⟨v, e⟩ | ⟨x, v, r, p, q, e1, e2⟩
 ·rw [h1, e] at hl; simp at hl
 ·have hmap : l.map id = (p ++ q).map (CS n) := by rw [List.map_id, h1, e1]
  rw [List.map_id] at hmap
  have hok : ∀ t ∈ q ++ p, okT n t := fun t ht => h2 t (by rw [e1]; simp only [List.mem_append] at ht ⊢; exact ht.symm)
  have key : ∀ j, j < l.length → rot l j = (q ++ p).map (CS n) → ∃ l', Red n l l' := by
   intro j hj hrj
   rw [← e2] at hok
   rw [← e2] at hrj
   have ha : okT n (.arc x.st v) := hok _ (by simp)
   exact ⟨_, j, CS n x, x.st, v, r.map (CS n), hj, by rw [hrj]; rfl, ha, by rw [Io, B1 (hok x (by simp))]; simp, rfl⟩
  by_cases hq : q = []
  ·subst hq
   refine key 0 (by omega) ?_
   simp [rot, hmap]
  ·have hj : p.length < l.length := by
    rw [hmap, List.length_map, List.length_append]
    have := List.length_pos_iff.2 hq
    omega
   refine key p.length hj ?_
   rw [rot, hmap, List.map_append]
   rw [List.drop_left' (by simp), List.take_left' (by simp), List.map_append]
end Go.Pev.Pl
end
section
namespace Go.Pev.Pl
open Tok
theorem ALZ {l : List Int} {i : Nat} (hi : i < l.length) : ∀ x ∈ Eg l i, x ∈ l := by
 intro x hx
 simp only [Eg, List.mem_map] at hx
 obtain ⟨k, _, rfl⟩ := hx
 have hk : (i + k) % l.length < l.length := Nat.mod_lt _ (by omega)
 rw [List.getD_eq_getElem?_getD, List.getElem?_eq_getElem hk, Option.getD_some]
 exact List.getElem_mem hk
theorem ARJ {n : Int} {l l' : List Int} (h : Red n l l') (hn : l.Nodup) : l'.Nodup := by
 obtain ⟨j, x, u, v, rest, hj, hr, hok, hst, rfl⟩ := h
 have hnr : (rot l j).Nodup := by
  rw [rot]
  exact (List.perm_append_comm.nodup_iff).2 (by rw [List.take_append_drop]; exact hn)
 rw [hr] at hnr
 have : (x :: rest).Nodup := by
  simp only [List.nodup_cons, List.mem_cons, not_or] at hnr ⊢
  exact ⟨hnr.1.2.2.2, hnr.2.2.2.2⟩
 exact (List.perm_append_comm (l₁ := [x]) (l₂ := rest)).nodup_iff.1 this
theorem AWy (n t : Int) : TI n [t] ↔ In n t := by
 constructor
 ·rintro ⟨L, h1, h2, h3⟩
  rcases h3.leaf with ⟨v, e⟩ | ⟨x, v, r, hr⟩
  ·subst e
   simp only [List.map_cons, List.map_nil, List.cons.injEq, and_true] at h1
   rw [h1]
   exact h2 (.ver v) (by simp)
  ·have h4 := hr.length
   have h5 := congrArg List.length h1
   simp only [List.length_cons, List.length_nil, List.length_map] at h4 h5
   omega
 ·intro h
  exact ⟨[.ver t], rfl, fun x hx => by simp at hx; subst hx; exact h, T.one t⟩
theorem AWz (n : Int) : ¬ TI n [] := by
 rintro ⟨L, h1, h2, h3⟩
 have := h3.facts.1
 cases L with
 | nil => exact this rfl
 | cons t L => cases h1
end Go.Pev.Pl
end
section
namespace Go.Pev.Pl
open Tok
def RG (n : Int) (xs : List Int) : Prop := Rt xs ∧ xs ≠ [] ∧ FX xs = xs.headD 0 ∧ TI n xs
def okR (n : Int) : List Int → Int → List (List Int) → Prop
 | _, _, [] => True
 | seen, last, l :: ls => RG n l ∧ last < l.headD 0 ∧ (∀ t ∈ l, t < n → t ∉ seen) ∧ okR n (seen ++ l.filter (fun t => decide (t < n))) (l.headD 0) ls
def RF (n : Int) (rings : List (List Int)) : Prop := Sz n ∧ okR n [] (-1) rings ∧ ∀ v, 0 ≤ v → v < n → v ∈ rings.flatten
noncomputable instance (n : Int) (rings : List (List Int)) : Decidable (RF n rings) := Classical.propDecidable _
noncomputable instance (n : Int) (xs : List Int) : Decidable (RG n xs) := Classical.propDecidable _
def MI (n : Int) (met : List (Int × Int)) (seen : List Int) : Prop := ∀ t, t < n → (AT met t).getD (0 : Int) = if t ∈ seen then 1 else 0
theorem ACL (n : Int) (l : List Int) (hl : l.length < 1073741824) (d1 : List (List Int)) (d3 : Int) (d4 : List (List Int)) (d5 d6 : Int) (d7 : List Int) (d8 d9 : Int) (d10 : Bool) (d11 : List Int) (d12 d13 : Bool) (d14 : List Int) (d15 : Int) (d16 : List Int) (d17 : Int) (d18 : Bool) (d19 : Int) (d20 : List Int) (d21 d22 : Bool) :
  ∀ (m k cnt : Nat) (met : List (Int × Int)) (seen : List Int), k + m = l.length → MI n met seen → (l.drop k).Nodup → m < cnt →
  ((∀ t ∈ l.drop k, t < n → t ∉ seen) ∧ ∃ met', AQ DG cnt (n, d1, met, d3, d4, d5, d6, d7, d8, d9, d10, d11, d12, d13, d14, d15, d16, d17, d18, d19, d20, d21, d22, l, (l.length : Int), (k : Int), ()) =
    some (.inr (.inl (n, d1, met', d3, d4, d5, d6, d7, d8, d9, d10, d11, d12, d13, d14, d15, d16, d17, d18, d19, d20, d21, d22, ()))) ∧ MI n met' (seen ++ (l.drop k).filter (fun t => decide (t < n)))) ∨
  (¬ (∀ t ∈ l.drop k, t < n → t ∉ seen) ∧ AQ DG cnt (n, d1, met, d3, d4, d5, d6, d7, d8, d9, d10, d11, d12, d13, d14, d15, d16, d17, d18, d19, d20, d21, d22, l, (l.length : Int), (k : Int), ()) = some (.inl (false, ()))) := by
 intro m
 induction m with
 | zero =>
  intro k cnt met seen hk hm hn hc
  obtain ⟨cnt, rfl⟩ : ∃ c, cnt = c + 1 := ⟨cnt - 1, by omega⟩
  have e : l.drop k = [] := List.drop_of_length_le (by omega)
  rw [e]
  refine .inl ⟨by simp, met, ?_, by simpa using hm⟩
  rw [AQ, DG, AN, decide_eq_false (by omega)]
 | succ m ih =>
  intro k cnt met seen hk hm hn hc
  obtain ⟨cnt, rfl⟩ : ∃ c, cnt = c + 1 := ⟨cnt - 1, by omega⟩
  have hk' : k < l.length := by omega
  have e : l.drop k = l.getD k 0 :: l.drop (k + 1) := by
   rw [List.drop_eq_getElem_cons hk', List.getD_eq_getElem?_getD, List.getElem?_eq_getElem hk', Option.getD_some]
  rw [AQ, DG, AN, decide_eq_true hk']
  simp only [EC (0 : Int) hk']
  rw [e] at hn ⊢
  generalize l.getD k 0 = t at *
  rw [List.nodup_cons] at hn
  rw [AL (by omega), Am]
  by_cases ht : t < n
  ·rw [decide_eq_true ht]
   have hmt := hm t ht
   simp only [hmt, Am]
   by_cases hs : t ∈ seen
   ·rw [if_pos hs, decide_eq_true (by omega)]
    exact .inr ⟨fun h => h t (by simp) ht hs, rfl⟩
   ·rw [if_neg hs, decide_eq_false (by omega)]
    simp only []
    have w1 : IntKind.wrap .i64 ((0 : Int) + 1) = 1 := by rw [Af (by omega)]; rfl
    rw [w1]
    have hm' : MI n (Ah met t 1) (seen ++ [t]) := by
     intro y hy
     rw [F6]
     by_cases e2 : y = t
     ·simp [e2]
     ·simp only [e2, if_false, List.mem_append, List.mem_singleton, or_false]; exact hm y hy
    have hiff : (∀ y ∈ t :: l.drop (k + 1), y < n → y ∉ seen) ↔ ∀ y ∈ l.drop (k + 1), y < n → y ∉ seen ++ [t] := by
     constructor
     ·intro h y hy hyn hm2
      simp only [List.mem_append, List.mem_singleton] at hm2
      rcases hm2 with h2 | rfl
      ·exact h y (List.mem_cons_of_mem _ hy) hyn h2
      ·exact hn.1 hy
     ·intro h y hy hyn hm2
      rcases List.mem_cons.1 hy with rfl | hy
      ·exact hs hm2
      ·exact h y hy hyn (by simp [hm2])
    rcases ih (k + 1) cnt _ _ (by omega) hm' hn.2 (by omega) with ⟨q1, met', q2, q3⟩ | ⟨q1, q2⟩
    ·refine .inl ⟨hiff.2 q1, met', q2, ?_⟩
     rw [List.filter_cons_of_pos (by simpa using ht)]
     simpa using q3
    ·exact .inr ⟨fun h => q1 (hiff.1 h), q2⟩
  ·rw [decide_eq_false ht]
   simp only []
   have hm' : MI n (Ah met t (IntKind.wrap .i64 (((AT met t).getD (0 : Int)) + (1 : Int)))) seen := by
    intro y hy
    rw [F6, if_neg (by omega)]
    exact hm y hy
   have hiff : (∀ y ∈ t :: l.drop (k + 1), y < n → y ∉ seen) ↔ ∀ y ∈ l.drop (k + 1), y < n → y ∉ seen := by
    constructor
    ·intro h y hy; exact h y (List.mem_cons_of_mem _ hy)
    ·intro h y hy hyn
     rcases List.mem_cons.1 hy with rfl | hy
     ·exact absurd hyn ht
     ·exact h y hy hyn
   rcases ih (k + 1) cnt _ _ (by omega) hm' hn.2 (by omega) with ⟨q1, met', q2, q3⟩ | ⟨q1, q2⟩
   ·refine .inl ⟨hiff.2 q1, met', q2, ?_⟩
    rw [List.filter_cons_of_neg (by simpa using ht)]
    exact q3
   ·exact .inr ⟨fun h => q1 (hiff.1 h), q2⟩
theorem UU (n : Int) (rings : List (List Int)) (hlen : rings.length < 1073741824) (hr : ∀ l ∈ rings, l.length < 9223372036854775808 ∧ ∀ x ∈ l, -9223372036854775808 ≤ x ∧ x ≤ 9223372036854775807) :
  ∀ (ls : List (List Int)) (i cnt : Nat) (met : List (Int × Int)) (last : Int) (seen : List Int), rings.drop i = ls → i ≤ rings.length → MI n met seen → ls.length < cnt →
  (okR n seen last ls ∧ ∃ met' seen', AQ DH cnt (n, rings, met, last, rings, (rings.length : Int), (i : Int), ()) = some (.inr (.inl (n, rings, met', ()))) ∧ MI n met' seen' ∧ ∀ v, v ∈ seen' ↔ v ∈ seen ∨ (v < n ∧ v ∈ ls.flatten)) ∨
  (¬ okR n seen last ls ∧ AQ DH cnt (n, rings, met, last, rings, (rings.length : Int), (i : Int), ()) = some (.inl (false, ()))) := by
 have hmany : 4294967296 < many := by simp only [many]; omega
 intro ls
 induction ls with
 | nil =>
  intro i cnt met last seen hd hi hm hc
  obtain ⟨cnt, rfl⟩ : ∃ c, cnt = c + 1 := ⟨cnt - 1, by simp at hc; omega⟩
  have : rings.length ≤ i := by simpa using hd
  refine .inl ⟨trivial, met, seen, ?_, hm, by simp⟩
  rw [AQ, DH, AN, decide_eq_false (by omega)]
 | cons l ls ih =>
  intro i cnt met last seen hd hi hm hc
  simp only [List.length_cons] at hc
  obtain ⟨cnt, rfl⟩ : ∃ c, cnt = c + 1 := ⟨cnt - 1, by omega⟩
  have hi' : i < rings.length := by
   refine Classical.byContradiction fun h => ?_
   rw [List.drop_of_length_le (by omega)] at hd
   cases hd
  rw [List.drop_eq_getElem_cons hi'] at hd
  simp only [List.cons.injEq] at hd
  obtain ⟨hd1, hd2⟩ := hd
  have hx : rings[i]? = some l := by rw [List.getElem?_eq_getElem hi', hd1]
  have hmem : l ∈ rings := List.mem_of_getElem? hx
  obtain ⟨hl, hlr⟩ := hr l hmem
  rw [AQ, DH, AN, decide_eq_true hi', okR]
  simp only [An hx, A1]
  cases l with
  | nil =>
   rw [AO, decide_eq_true (by simp)]
   exact .inr ⟨fun h => h.1.2.1 rfl, rfl⟩
  | cons x tl =>
   rw [AO, decide_eq_false (by simp only [List.length_cons]; omega)]
   have i0 : idx (x :: tl) (0 : Int) = some x := by rw [FZ]; rfl
   simp only [i0, List.headD_cons, Aq]
   by_cases c1 : x ≤ last
   ·rw [decide_eq_true c1]
    exact .inr ⟨fun h => by omega, rfl⟩
   ·rw [decide_eq_false c1]
    simp only [MM]
    by_cases c2 : Rt (x :: tl)
    ·rw [decide_eq_true c2]
     have hl : (x :: tl).length < 1073741824 := by have := c2.1; omega
     simp only [Bool.not_true, AIV (x :: tl) (by simp) (by omega)]
     by_cases c3 : FX (x :: tl) = x
     ·rw [decide_eq_true c3]
      simp only [Bool.not_true]
      rw [AWE n (x :: tl) (by simp) (by omega) hlr c2.2.2 (fun y hy => by simp at hy; rw [← hy]; exact c3)]
      by_cases c4 : TI n (x :: tl)
      ·rw [decide_eq_true c4]
       simp only [Bool.not_true, Aj]
       have hRG : RG n (x :: tl) := ⟨c2, by simp, c3, c4⟩
       rcases ACL n (x :: tl) hl rings x rings (rings.length : Int) (i : Int) (x :: tl) x last false (x :: tl) true false (x :: tl) (FX (x :: tl)) (x :: tl) x false n (x :: tl) true false (x :: tl).length 0 many met seen (by omega) hm (by rw [List.drop_zero]; exact c2.2.2) (by omega) with ⟨q1, met', q2, q3⟩ | ⟨q1, q2⟩
       ·rw [List.drop_zero] at q1 q3
        have q2' : AQ DG many (n, rings, met, x, rings, (rings.length : Int), (i : Int), x :: tl, x, last, false, x :: tl, true, false, x :: tl, FX (x :: tl), x :: tl, x, false, n, x :: tl, true, false, x :: tl, ((x :: tl).length : Int), (0 : Int), ()) = _ := q2
        simp only [q2', AL (show i + 1 < 9223372036854775808 by omega)]
        rcases ih (i + 1) cnt met' x (seen ++ (x :: tl).filter (fun t => decide (t < n))) hd2 (by omega) q3 (by omega) with ⟨p1, met2, seen2, p2, p3, p4⟩ | ⟨p1, p2⟩
        ·refine .inl ⟨⟨hRG, by omega, q1, p1⟩, met2, seen2, p2, p3, fun v => ?_⟩
         rw [p4, List.mem_append, List.mem_filter, List.flatten_cons, List.mem_append]
         simp only [decide_eq_true_eq]
         constructor
         ·rintro ((h | h) | h)
          ·exact .inl h
          ·exact .inr ⟨h.2, .inl h.1⟩
          ·exact .inr ⟨h.1, .inr h.2⟩
         ·rintro (h | ⟨h, h2 | h2⟩)
          ·exact .inl (.inl h)
          ·exact .inl (.inr ⟨h2, h⟩)
          ·exact .inr ⟨h, h2⟩
        ·exact .inr ⟨fun h => p1 h.2.2.2, p2⟩
       ·rw [List.drop_zero] at q1
        have q2' : AQ DG many (n, rings, met, x, rings, (rings.length : Int), (i : Int), x :: tl, x, last, false, x :: tl, true, false, x :: tl, FX (x :: tl), x :: tl, x, false, n, x :: tl, true, false, x :: tl, ((x :: tl).length : Int), (0 : Int), ()) = _ := q2
        simp only [q2']
        exact .inr ⟨fun h => q1 h.2.2.1, by trivial⟩
      ·rw [decide_eq_false c4]
       exact .inr ⟨fun h => c4 h.1.2.2.2, rfl⟩
     ·rw [decide_eq_false c3]
      exact .inr ⟨fun h => c3 h.1.2.2.1, rfl⟩
    ·rw [decide_eq_false c2]
     exact .inr ⟨fun h => c2 h.1.1, rfl⟩
theorem UT (n : Int) (rings : List (List Int)) (hlen : rings.length < 1073741824) (hr : ∀ l ∈ rings, l.length < 9223372036854775808 ∧ ∀ x ∈ l, -9223372036854775808 ≤ x ∧ x ≤ 9223372036854775807) :
  PM ((n, (rings, ())), ()) = some (decide (RF n rings), ()) := by
 have hmany : 4294967296 < many := by simp only [many]; omega
 rw [AAi, NR]
 simp only [Ii]
 by_cases hS : Sz n
 ·rw [decide_eq_true hS]
  simp only [Bool.not_true, Aj, AO]
  rcases UU n rings hlen hr rings 0 many [] (-1) [] (by simp) (by omega) (fun t _ => by simp [AT]) (by omega) with ⟨p1, met, seen, p2, p3, p4⟩ | ⟨p1, p2⟩
  ·have p2' : AQ DH many (n, rings, [], -1, rings, (rings.length : Int), (0 : Int), ()) = _ := p2
   simp only [p2']
   obtain ⟨s1, s2⟩ := hS
   obtain ⟨N, rfl⟩ := Int.eq_ofNat_of_zero_le (show 0 ≤ n by omega)
   have e := APD (step := D3) (fun i => (met, (N : Int), (i : Int), ())) N (fun i => decide ((i : Int) ∉ seen)) (fun _ => .inl (false, ())) (.inr (.inl ())) (by omega)
    (fun i hi => by
     have := p3 (i : Int) (by omega)
     rw [D3, AN, decide_eq_true hi]
     simp only [this, A1]
     by_cases h : (i : Int) ∈ seen
     ·simp only [h, if_true, not_true]
      rw [AL (by omega)]; simp
     ·simp [h])
    (by rw [D3, AN, decide_eq_false (by omega)])
   rw [Aj] at e
   have hv : ∀ v, v ∈ seen ↔ (v < (N : Int) ∧ v ∈ rings.flatten) := fun v => by rw [p4]; simp
   rcases e with ⟨k, k1, k2, _, k4⟩ | ⟨k1, k4⟩
   ·have k4' : AQ D3 many (met, (N : Int), (0 : Int), ()) = _ := k4
    rw [k4', decide_eq_false]
    rintro ⟨_, _, h⟩
    simp only [decide_eq_true_eq] at k2
    exact k2 ((hv _).2 ⟨by omega, h (k : Int) (by omega) (by omega)⟩)
   ·have k4' : AQ D3 many (met, (N : Int), (0 : Int), ()) = _ := k4
    rw [k4', decide_eq_true]
    refine ⟨⟨s1, s2⟩, p1, fun v v1 v2 => ?_⟩
    obtain ⟨k, rfl⟩ := Int.eq_ofNat_of_zero_le v1
    have := k1 k (by omega)
    simp only [decide_eq_false_iff_not, Classical.not_not] at this
    exact ((hv _).1 this).2
  ·have p2' : AQ DH many (n, rings, [], -1, rings, (rings.length : Int), (0 : Int), ()) = _ := p2
   simp only [p2']
   rw [decide_eq_false (fun h => p1 h.2.1)]
 ·rw [decide_eq_false hS, decide_eq_false (fun h => hS h.1)]; rfl
end Go.Pev.Pl
end
section
namespace Go.Pev.Pl
open Tok
def MB (N : Nat) (met : List Bool) (seen : List Int) : Prop := met.length = N ∧ ∀ k, k < N → met.getD k false = decide ((k : Int) ∈ seen)
theorem Vy {xs : List Int} (hr : Rt xs) (h : xs ≠ []) : plain xs = xs ↔ FX xs = xs.headD 0 := by
 obtain ⟨a, b, h1, h2⟩ := Gk hr h
 constructor
 ·intro e
  rw [e] at h2
  rw [h2]
  have : FX xs = FX xs := rfl
  conv => lhs; rw [← h2]
  rfl
 ·intro e
  cases a with
  | nil => rw [h2, List.append_nil]; exact h1.symm
  | cons y a =>
   exfalso
   have hn := hr.2.2
   have hy : y = FX xs := by rw [e, h1]; rfl
   rw [h1, List.cons_append, List.nodup_cons] at hn
   exact hn.1 (by rw [← hy]; simp)
theorem ARm {n : Int} : ∀ {ls : List (List Int)} {seen : List Int} {last : Int}, okR n seen last ls → seen.Nodup → (seen ++ ls.flatten.filter (fun t => decide (t < n))).Nodup ∧ ∀ l ∈ ls, RG n l := by
 intro ls
 induction ls with
 | nil => intro seen last _ h; simpa using h
 | cons l ls ih =>
  intro seen last ⟨h1, h2, h3, h4⟩ hs
  obtain ⟨g1, g2⟩ := ih h4 (by
   rw [List.nodup_append]
   refine ⟨hs, (h1.1.2.2).filter _, fun a ha b hb => ?_⟩
   rintro rfl
   simp only [List.mem_filter, decide_eq_true_eq] at hb
   exact h3 a hb.1 hb.2 ha)
  refine ⟨by rw [List.flatten_cons, List.filter_append, ← List.append_assoc]; exact g1, fun k hk => ?_⟩
  rcases List.mem_cons.1 hk with rfl | hk
  ·exact h1
  ·exact g2 k hk
theorem Lh {n : Int} {l : List Int} (h : RG n l) : In n (l.headD 0) := by
 obtain ⟨h1, h2, h3, h4⟩ := h
 cases l with
 | nil => exact absurd rfl h2
 | cons x l => exact AQI h4 h3
theorem APY {n : Int} (hn : 1 ≤ n) : ∀ {ls : List (List Int)} {seen : List Int} {last : Int}, okR n seen last ls → -1 ≤ last → last < n → (ls.length : Int) ≤ n - 1 - last := by
 intro ls
 induction ls with
 | nil => intro seen last _ _ h; simp; omega
 | cons l ls ih =>
  intro seen last ⟨h1, h2, h3, h4⟩ hl hl2
  have hh := (Lh h1).2.2
  have := ih h4 (by omega) hh.2
  simp only [List.length_cons]
  omega
end Go.Pev.Pl
end
section
namespace Go.Pev.Pl
open Tok
def hd (l : List Int) : Int := l.headD 0
def Dis (n : Int) (a b : List Int) : Prop := ∀ t ∈ a, t < n → t ∉ b
structure FR (n : Int) (rings : List (List Int)) : Prop where
 sz : Sz n
 rg : ∀ l ∈ rings, RG n l
 up : rings.Pairwise (fun a b => hd a < hd b)
 dis : rings.Pairwise (Dis n)
 cov : ∀ v, In n v → ∃ l ∈ rings, v ∈ l
theorem Dis.symm {n : Int} {a b : List Int} (h : Dis n a b) : Dis n b a := fun t ht hn ha => h t ha hn ht
theorem APZ {n : Int} : ∀ {ls : List (List Int)} {seen : List Int} {last : Int}, okR n seen last ls ↔ (∀ l ∈ ls, RG n l ∧ last < hd l ∧ ∀ t ∈ l, t < n → t ∉ seen) ∧ ls.Pairwise (fun a b => hd a < hd b) ∧ ls.Pairwise (Dis n) := by
 intro ls
 induction ls with
 | nil => intro seen last; simp [okR]
 | cons l ls ih =>
  intro seen last
  rw [okR, ih, List.pairwise_cons, List.pairwise_cons]
  constructor
  ·rintro ⟨h1, h2, h3, h4, h5, h6⟩
   refine ⟨fun k hk => ?_, ⟨fun k hk => (h4 k hk).2.1, h5⟩, ⟨fun k hk t ht htn htk => ?_, h6⟩⟩
   ·rcases List.mem_cons.1 hk with rfl | hk
    ·exact ⟨h1, h2, h3⟩
    ·obtain ⟨q1, q2, q3⟩ := h4 k hk
     exact ⟨q1, Int.lt_trans h2 q2, fun t ht htn hts => q3 t ht htn (by simp [hts])⟩
   ·exact (h4 k hk).2.2 t htk htn (by simp [ht, htn])
  ·rintro ⟨h1, ⟨h2, h3⟩, ⟨h4, h5⟩⟩
   obtain ⟨q1, q2, q3⟩ := h1 l (by simp)
   refine ⟨q1, q2, q3, fun k hk => ?_, h3, h5⟩
   obtain ⟨p1, p2, p3⟩ := h1 k (by simp [hk])
   refine ⟨p1, h2 k hk, fun t ht htn hts => ?_⟩
   simp only [List.mem_append, List.mem_filter] at hts
   rcases hts with h | h
   ·exact p3 t ht htn h
   ·exact h4 k hk t h.1 htn ht
theorem HD {n : Int} {rings : List (List Int)} : RF n rings ↔ FR n rings := by
 constructor
 ·rintro ⟨h1, h2, h3⟩
  obtain ⟨q1, q2, q3⟩ := APZ.1 h2
  refine ⟨h1, fun l hl => (q1 l hl).1, q2, q3, fun v hv => ?_⟩
  obtain ⟨l, hl, h⟩ := List.mem_flatten.1 (h3 v hv.2.2.1 hv.2.2.2)
  exact ⟨l, hl, h⟩
 ·rintro ⟨h1, h2, h3, h4, h5⟩
  refine ⟨h1, APZ.2 ⟨fun l hl => ⟨h2 l hl, ?_, by simp⟩, h3, h4⟩, fun v v1 v2 => ?_⟩
  ·have := (Lh (h2 l hl)).2.2.1
   show (-1 : Int) < l.headD 0
   omega
  ·obtain ⟨l, hl, h⟩ := h5 v ⟨h1.1, h1.2, v1, v2⟩
   exact List.mem_flatten.2 ⟨l, hl, h⟩
theorem R0 {ys zs : List (List Int)} (hz : zs.Pairwise (fun a b => hd a < hd b)) (hp : ys.Perm zs) (hy : ys.Pairwise (fun a b => ¬ hd b < hd a)) : ys = zs := by
 have hinj : ∀ a ∈ zs, ∀ b ∈ zs, hd a = hd b → a = b := by
  intro a ha b hb e
  refine Classical.byContradiction fun hne => ?_
  obtain ⟨i, hi, rfl⟩ := List.getElem_of_mem ha
  obtain ⟨j, hj, rfl⟩ := List.getElem_of_mem hb
  rw [List.pairwise_iff_getElem] at hz
  rcases Nat.lt_trichotomy i j with h | h | h
  ·have := hz i j hi hj h; omega
  ·subst h; exact hne rfl
  ·have := hz j i hj hi h; omega
 refine List.Perm.eq_of_pairwise (le := fun a b => ¬ hd b < hd a) ?_ hy ?_ hp
 ·intro a b ha hb h1 h2
  exact hinj a (hp.mem_iff.1 ha) b hb (by omega)
 ·exact hz.imp fun h => by omega
def plc (rings : List (List Int)) (v : Int) : Int := if rings.any (fun l => decide (v ∈ l)) then ((rings.findIdx (fun l => decide (v ∈ l)) : Nat) : Int) else -1
theorem Ik (n : Int) (rings : List (List Int)) (v : Int) (hlen : rings.length < 1073741824) (hr : ∀ l ∈ rings, l.length < 9223372036854775808) : PO ((n, (rings, ())), v, ()) = some (plc rings v, ()) := by
 rw [AAq, NT, HY, DO]
 have e := L4 (step := BW) (fun i => (v, rings, AM rings, (i : Int), ())) rings (fun l => decide (v ∈ l)) (fun i => .inl (v, (i : Int), ())) (.inr (.inl (v, ()))) (by omega)
  (fun i l hi hx => by
   have hl := hr l (List.mem_of_getElem? hx)
   rw [BW, AO, AN, decide_eq_true hi]
   simp only [An hx, H4 l v (by omega)]
   rw [AL (by omega)]
   by_cases h : v ∈ l
   ·rw [decide_eq_true h]; rfl
   ·rw [decide_eq_false h]; rfl)
  (by rw [BW, AO, AN, decide_eq_false (by omega)])
 have e' : AY BW many (v, rings, AM rings, (0 : Int), ()) = _ := e
 simp only [e', plc]
 cases rings.any (fun l => decide (v ∈ l)) <;> rfl
theorem Jv {rings : List (List Int)} {v : Int} (h : ∃ l ∈ rings, v ∈ l) : ∃ k l, plc rings v = ((k : Nat) : Int) ∧ rings[k]? = some l ∧ v ∈ l ∧ k < rings.length := by
 obtain ⟨l, hl, hv⟩ := h
 have hany : rings.any (fun l => decide (v ∈ l)) = true := List.any_eq_true.2 ⟨l, hl, by simpa using hv⟩
 have hk : rings.findIdx (fun l => decide (v ∈ l)) < rings.length := List.findIdx_lt_length.2 ⟨l, hl, by simpa using hv⟩
 refine ⟨_, rings[rings.findIdx (fun l => decide (v ∈ l))], by rw [plc, if_pos hany], by rw [List.getElem?_eq_getElem hk], ?_, hk⟩
 have := List.findIdx_getElem (xs := rings) (p := fun l => decide (v ∈ l)) (w := hk)
 simpa using this
theorem FR.uniq {n : Int} {rings : List (List Int)} (h : FR n rings) {i j : Nat} {a b : List Int} {v : Int} (hi : rings[i]? = some a) (hj : rings[j]? = some b) (hn : v < n) (ha : v ∈ a) (hb : v ∈ b) : i = j := by
 obtain ⟨hi1, rfl⟩ := List.getElem?_eq_some_iff.1 hi
 obtain ⟨hj1, rfl⟩ := List.getElem?_eq_some_iff.1 hj
 have hd := List.pairwise_iff_getElem.1 h.dis
 rcases Nat.lt_trichotomy i j with g | g | g
 ·exact absurd hb (hd i j hi1 hj1 g v ha hn)
 ·exact g
 ·exact absurd ha (hd j i hj1 hi1 g v hb hn)
theorem FR.ADM {n : Int} {rings : List (List Int)} (h : FR n rings) {k : Nat} {a : List Int} {v : Int} (hk : rings[k]? = some a) (hn : v < n) (ha : v ∈ a) : plc rings v = (k : Int) := by
 obtain ⟨j, l, e, hj, hv, _⟩ := Jv ⟨a, List.mem_of_getElem? hk, ha⟩
 rw [e, h.uniq hj hk hn hv ha]
theorem YD {α : Type} {l : List α} {i : Nat} {a : α} (h : l[i]? = some a) : l.Perm (a :: l.eraseIdx i) := by
 obtain ⟨hi, rfl⟩ := List.getElem?_eq_some_iff.1 h
 rw [List.eraseIdx_eq_take_drop_succ]
 conv => lhs; rw [← List.take_append_drop i l, List.drop_eq_getElem_cons hi]
 exact List.perm_middle
theorem Hg {α : Type} {l : List α} {i j : Nat} {a b : α} (hij : i < j) (hi : l[i]? = some a) (hj : l[j]? = some b) : l.Perm (a :: b :: (l.eraseIdx j).eraseIdx i) := by
 have h1 := YD hj
 have h2 : (l.eraseIdx j)[i]? = some a := by rw [List.getElem?_eraseIdx_of_lt hij, hi]
 exact h1.trans (((YD h2).cons b).trans (List.Perm.swap a b _))
theorem ARl {n : Int} {t : Tok} (h : okT n t) : 0 ≤ CS n t ∧ CS n t ≤ 4160 ∧ CS n t < n * (n + 1) := by
 cases t with
 | ver v =>
  obtain ⟨h1, h2, h3, h4⟩ := h
  have : n * 1 ≤ n * (n + 1) := Int.mul_le_mul_of_nonneg_left (by omega) (by omega)
  simp only [CS]; omega
 | arc u v =>
  obtain ⟨h1, h2, _⟩ := h
  obtain ⟨g1, g2, _⟩ := OJ h1 h2
  have hb := El (u := n + 1 - 1) h1.1 h1.2.1 (by have := h1.1; omega) (by have := h1.2.1; omega)
  have e : n * (n + 1) = n * (n + 1 - 1) + n := by rw [show n + 1 - 1 = n by omega, Int.mul_add, Int.mul_one]
  have := h1.1
  have := h1.2.1
  simp only [CS]
  omega
theorem AZO {n : Int} {t : Tok} (h : okT n t) : Sz n := by
 cases t with
 | ver v => exact ⟨h.1, h.2.1⟩
 | arc u v => exact ⟨h.1.1, h.1.2.1⟩
theorem MD : ∀ {L : List Tok}, L.Nodup → (HL L).Nodup
 | [], _ => by simp [HL]
 | .ver v :: L, h => by
  rw [List.nodup_cons] at h
  rw [HL, List.nodup_cons]
  exact ⟨fun hm => h.1 (Ns.1 hm), MD h.2⟩
 | .arc _ _ :: L, h => by
  rw [List.nodup_cons] at h
  rw [HL]
  exact MD h.2
theorem AY5 {n : Int} {xs : List Int} (h : TI n xs) : Rt xs := by
 obtain ⟨L, rfl, h2, h3⟩ := h
 have hn := h3.nodup
 refine ⟨?_, fun x hx => ?_, ?_⟩
 ·obtain ⟨v, r, hr⟩ := h3.AJu
  have hS : Sz n := AZO (h2 (.ver v) ((hr.mem _).2 (by simp)))
  have hl := h3.len
  have hv := B0 (a := HL L) (b := (List.range n.toNat).map (fun (k : Nat) => (k : Int))) (MD hn) fun x hx => by
   have := h2 _ (Ns.1 hx)
   have h5 := this.2.2
   rw [List.mem_map]
   exact ⟨x.toNat, by rw [List.mem_range]; omega, by omega⟩
  have h6 := hS.2
  simp only [List.length_map, List.length_range] at hv ⊢
  omega
 ·obtain ⟨t, ht, rfl⟩ := List.mem_map.1 hx
  have := ARl (h2 t ht)
  omega
 ·rw [List.Nodup, List.pairwise_map]
  exact hn.imp_of_mem fun ha hb hne e => hne (FL (h2 _ ha) (h2 _ hb) e)
def AFs (a b : List Int) : Prop := ∃ x y, a = x ++ y ∧ b = y ++ x
theorem AFs.perm {a b : List Int} (h : AFs a b) : a.Perm b := by
 obtain ⟨x, y, rfl, rfl⟩ := h
 exact List.perm_append_comm
theorem AFs.symm {a b : List Int} (h : AFs a b) : AFs b a := by obtain ⟨x, y, h1, h2⟩ := h; exact ⟨y, x, h2, h1⟩
theorem AWx {n : Int} {a b : List Int} (h : TI n a) (r : AFs a b) : TI n b := by
 obtain ⟨L, h1, h2, h3⟩ := h
 obtain ⟨x, y, rfl, rfl⟩ := r
 obtain ⟨L1, L2, rfl, e1, e2⟩ := List.map_eq_append_iff.1 h1.symm
 refine ⟨L2 ++ L1, by rw [List.map_append, e1, e2], fun t ht => h2 t ?_, T.rot L1 L2 h3⟩
 simp only [List.mem_append] at ht ⊢
 exact ht.symm
theorem CH {xs : List Int} {t : Int} (h : t ∈ xs) : AFs xs (A2 xs t) := by
 obtain ⟨a, b, e1, _, e3⟩ := Vc h
 exact ⟨a, t :: b, e1, by rw [e3]⟩
theorem ARs {xs ys : List Int} (h : xs.Perm ys) (hne : xs ≠ []) : FX ys = FX xs := by
 obtain ⟨h1, h2⟩ := D9 hne
 exact AXs (h.mem_iff.1 h1) fun x hx => h2 x (h.mem_iff.2 hx)
theorem ALk {xs : List Int} (hr : Rt xs) (hne : xs ≠ []) : AFs xs (plain xs) := by
 rw [plain, if_pos ⟨hr, hne⟩]
 exact CH (D9 hne).1
theorem AY4 {n : Int} {xs : List Int} (h : TI n xs) : xs ≠ [] := by rintro rfl; exact AWz n h
theorem Y2 {n : Int} {xs : List Int} (h : TI n xs) : RG n (plain xs) ∧ AFs xs (plain xs) := by
 have hr := AY5 h
 have hne := AY4 h
 have h1 := ALk hr hne
 have h2 := AWx h h1
 refine ⟨⟨AY5 h2, AY4 h2, ?_, h2⟩, h1⟩
 rw [ARs h1.perm hne]
 obtain ⟨a, b, _, e⟩ := Gk hr hne
 rw [e]; rfl
theorem RG.self {n : Int} {xs : List Int} (h : RG n xs) : plain xs = xs := (Vy h.1 h.2.1).2 h.2.2.1
theorem AKM {n : Int} {xs : List Int} (h : TI n xs) {t : Tok} (ht : okT n t) (hx : CS n t ∈ xs) : ∃ a, A2 xs (CS n t) = (t :: a).map (CS n) ∧ T (t :: a) ∧ (∀ y ∈ t :: a, okT n y) := by
 have h1 := AWx h (CH hx)
 obtain ⟨a, b, e1, e2, e3⟩ := Vc hx
 obtain ⟨L, q1, q2, q3⟩ := h1
 rw [e3, List.cons_append] at q1
 cases L with
 | nil => cases q1
 | cons t' L =>
  simp only [List.map_cons, List.cons.injEq] at q1
  have := FL ht (q2 t' (by simp)) q1.1
  subst this
  exact ⟨L, by rw [e3, List.cons_append, List.map_cons, q1.2], q3, q2⟩
end Go.Pev.Pl
end
section
namespace Go.Pev.Pl
open Go.RowKit Tok
theorem N4 (a : Int) : ieq a a = true := by rw [ES]; simp
def Dom (rings : List (List Int)) : Prop := rings.length < 1073741824 ∧ ∀ l ∈ rings, l.length < 9223372036854775808 ∧ ∀ x ∈ l, -9223372036854775808 ≤ x ∧ x ≤ 9223372036854775807
theorem FR.dom {n : Int} {rings : List (List Int)} (h : FR n rings) : Dom rings := by
 have h1 := HD.2 h
 have h2 := APY h.sz.1 h1.2.1 (by omega) (by have := h.sz.1; omega)
 have h3 := h.sz.2
 refine ⟨by omega, fun l hl => ?_⟩
 have := (h.rg l hl).1
 exact ⟨by have := this.1; omega, fun x hx => by have := this.2.1 x hx; omega⟩
theorem Qy {l : List Int} (h : l ≠ []) : hd l ∈ l := by
 cases l with
 | nil => exact absurd rfl h
 | cons x l => simp [hd]
end Go.Pev.Pl
end
section
namespace Go.Pev.Pl
open Tok
def AVe (n : Int) (xs : List Int) : List Int := xs.filter fun t => !decide (n ≤ t)
noncomputable def AFh (n : Int) (rings : List (List Int)) (ok : Bool) : Int := if RF n rings then if ok then 0 else 10 else 1
theorem AOF (n : Int) (rings : List (List Int)) (xs : List Int) (hs : xs.length < 9223372036854775808) : Cl (xs, n, rings, ()) = some (n, rings, xs.any (fun x => decide (x < 0) || decide (n ≤ x)), ()) := by
 rw [G4, Cw, Hb, DP]
 have e := L4 (step := BX) (fun i => (n, rings, xs, AM xs, (i : Int), ())) xs (fun x => decide (x < 0) || decide (n ≤ x)) (fun i => .inl (n, rings, (i : Int), ())) (.inr (.inl (n, rings, ()))) hs
  (fun i x hi hx => by
   rw [BX, AO, AN, decide_eq_true hi]
   simp only [An hx, Am, Aq]
   rw [AL (by omega)]
   by_cases h : x < 0
   ·simp [h]
   ·by_cases h2 : n ≤ x
    ·simp [h, h2]
    ·simp [h, h2])
  (by rw [BX, AO, AN, decide_eq_false (by omega)])
 have e' : AY BX many (n, rings, xs, AM xs, (0 : Int), ()) = _ := e
 rw [e']
 generalize (xs.any fun x => decide (x < 0) || decide (n ≤ x)) = b
 cases b <;> simp [Aq]
theorem AOq {n v : Int} (hS : Sz n) : (decide (v < 0) || decide (n ≤ v)) = !decide (In n v) := by
 by_cases h : In n v
 ·obtain ⟨_, _, h3, h4⟩ := h
  simp [In, hS.1, hS.2, h3, h4]
 ·have : v < 0 ∨ n ≤ v := by
   refine Classical.byContradiction fun hc => h ⟨hS.1, hS.2, by omega, by omega⟩
  rcases this with g | g <;> simp [h, g]
theorem X3 (n : Int) (rings : List (List Int)) (xs : List Int) (hD : Dom rings) (hs : xs.length < 9223372036854775808) : Ms ((n, (rings, ())), xs, ()) = some (AFh n rings (xs.all fun v => decide (In n v)), ()) := by
 rw [ABa, OD]
 simp only [UT n rings hD.1 hD.2, AOF n rings xs hs, AFh]
 by_cases h : RF n rings
 ·have hb : (xs.any fun x => decide (x < 0) || decide (n ≤ x)) = !(xs.all fun v => decide (In n v)) := by
   rw [List.not_all_eq_any_not]
   congr 1
   funext x
   exact AOq h.1
  simp only [h, decide_true, Bool.not_true, hb, if_true]
  cases xs.all fun v => decide (In n v) <;> rfl
 ·simp [h]
def JY (n : Int) (A : List Int) : List Int := ((List.range n.toNat).map fun (k : Nat) => (k : Int)).filter fun v => decide (v ∈ A)
theorem GK {n : Int} {A : List Int} (v : Int) : v ∈ JY n A ↔ 0 ≤ v ∧ v < n ∧ v ∈ A := by
 rw [JY, List.mem_filter, List.mem_map, decide_eq_true_eq]
 constructor
 ·rintro ⟨⟨k, hk, rfl⟩, h⟩
  rw [List.mem_range] at hk
  exact ⟨by omega, by omega, h⟩
 ·rintro ⟨h1, h2, h3⟩
  exact ⟨⟨v.toNat, by rw [List.mem_range]; omega, by omega⟩, h3⟩
theorem AGB (n : Int) (A : List Int) : (JY n A).Pairwise (· < ·) := by
 rw [JY]
 refine List.Pairwise.filter _ ?_
 rw [List.pairwise_map]
 exact List.pairwise_lt_range.imp fun h => by omega
theorem ASC {n : Int} {A : List Int} (h : RG n A) : (AVe n A).Perm (JY n A) := by
 have hl : (AVe n A).Nodup := h.1.2.2.filter _
 have hv : (JY n A).Nodup := (AGB n A).imp fun h => by omega
 exact (List.perm_ext_iff_of_nodup hl hv).2 fun v => by
  rw [GK, AVe, List.mem_filter]
  simp only [Bool.not_eq_true', decide_eq_false_iff_not]
  constructor
  ·rintro ⟨h1, h2⟩
   have := (h.1.2.1 v h1).1
   exact ⟨this, by omega, h1⟩
  ·rintro ⟨h1, h2, h3⟩
   exact ⟨h3, by omega⟩
theorem AVd {n : Int} {A : List Int} (h : RG n A) : A.length + 2 = 3 * (JY n A).length := by
 rw [← (ASC h).length_eq]
 obtain ⟨L, q1, q2, q3⟩ := h.2.2.2
 have hv : AVe n A = HL L := by
  rw [q1]
  clear q1 q3
  induction L with
  | nil => rfl
  | cons t L ih =>
   have h1 := ih fun t ht => q2 t (List.mem_cons_of_mem _ ht)
   have h2 := q2 t (by simp)
   rw [AVe] at h1 ⊢
   cases t with
   | ver v =>
    have : ¬ n ≤ v := by have := h2.2.2.2; omega
    rw [List.map_cons, List.filter_cons_of_pos (by simp only [CS]; simp [this]), h1, HL]
    rfl
   | arc u v =>
    have := (OJ h2.1 h2.2.1).1
    rw [List.map_cons, List.filter_cons_of_neg (by simp only [CS]; simp [this]), h1, HL]
 rw [hv, q1, List.length_map]
 exact q3.len
end Go.Pev.Pl
end
section
namespace Go.Pev.Pl.SG
open Go.Sort
structure SP (α : Type) where
 z : α
 c : α × α × Unit → Option (Int × Unit)
 ok : α → Prop
 okz : α
 W6 : ok okz
 lt : α → α → Bool
 swo : SWO lt
 AFL : ∀ {x y : α}, ok x → ok y → ∃ r, c (x, y, ()) = some (r, ()) ∧ ilt r (0 : Int) = lt x y
variable {α : Type} {S : SP α}
abbrev EL {α : Type} (S : SP α) := {x : α // S.ok x}
instance : Inhabited (EL S) := ⟨⟨S.okz, S.W6⟩⟩
def rep (d : Array (EL S)) : List α := d.toList.map Subtype.val
theorem Ac {d : Array (EL S)} {n : Nat} (h : n < d.size) : idx (rep d) (n : Int) = some (d[n]!).val := by
 rw [idx_eq, Lr, if_neg (by omega)]
 simp [rep, h]
theorem Al {d : Array (EL S)} {n : Nat} {z : α} (h : n < d.size) : AS (rep d) (AG (n : Int)) z = (d[n]!).val := by
 simp [AS, AG, rep, h]
theorem Ce {d : Array (EL S)} {n : Nat} {x : (EL S)} : Ak (rep d) (AG (n : Int)) x.val = rep (d.setIfInBounds n x) := by
 simp [Ak, AG, rep, List.map_set]
theorem AP9 {d : Array (EL S)} : AM (rep d) = (d.size : Int) := by simp [AM, rep]
def ltX (x y : (EL S)) : Bool := S.lt x.val y.val
theorem AUB : SWO (ltX (S := S)) := ⟨fun x => S.swo.irrefl x.val, fun x y z => S.swo.trans x.val y.val z.val, fun x y z => S.swo.ntrans x.val y.val z.val⟩
noncomputable def AYd (x y : (EL S)) : Int := match S.c (x.val, y.val, ()) with
 | some (c, _) => c
 | none => 0
theorem CB (x y : (EL S)) : S.c (x.val, y.val, ()) = some (AYd x y, ()) := by
 obtain ⟨c, e, _⟩ := S.AFL x.property y.property
 rw [AYd, e]
theorem Cu (x y : (EL S)) : ilt (AYd x y) (0 : Int) = ltX x y := by
 obtain ⟨c, e, h⟩ := S.AFL x.property y.property
 rw [AYd, e]
 exact h
theorem AYJ (a b i : Nat) : ∀ (j : Nat) (d : Array (EL S)) (n : Nat), j < d.size → d.size < 4611686018427387904 → j < n →
  AQ (Nz S.z S.c) n ((rep d), (a : Int), (b : Int), (i : Int), (j : Int), ()) = some (.inl ((rep (insInner ltX a j d)), (a : Int), (b : Int), (i : Int), ())) := by
 intro j
 induction j with
 | zero =>
  intro d n hj hs hn
  obtain ⟨n, rfl⟩ : ∃ k, n = k + 1 := ⟨n - 1, by omega⟩
  have h0 : ilt (a : Int) ((0 : Nat) : Int) = false := by rw [AN]; simp
  simp only [AQ, Nz, h0, insInner]
 | succ j ih =>
  intro d n hj hs hn
  obtain ⟨n, rfl⟩ : ∃ k, n = k + 1 := ⟨n - 1, by omega⟩
  have e1 : IntKind.wrap .i64 (((j + 1 : Nat) : Int) - 1) = (j : Int) := by rw [Af (by omega)]; omega
  have hj' : j < d.size := by omega
  simp only [AQ, Nz, AN, e1, Ac hj, Ac hj', Al hj, Al hj', CB, Cu, insInner, gt_iff_lt]
  by_cases h1 : a < j + 1
  ·cases h2 : ltX d[j + 1]! d[j]!
   ·simp only [h1, decide_true, h2, Bool.and_false, Bool.false_eq_true, if_false]
   ·simp only [h1, decide_true, h2, Bool.and_true, if_true, Ce]
    rw [Ac (by simpa using hj')]
    simp only [Ck]
    exact ih (swp d (j + 1) j) n (by rw [size_swp]; omega) (by rw [size_swp]; omega) (by omega)
  ·simp only [h1, decide_false, Bool.false_and, Bool.false_eq_true, if_false]
theorem CG (lt : (EL S) → (EL S) → Bool) (a j : Nat) (d : Array (EL S)) : (insInner lt a j d).size = d.size := by
 induction j generalizing d with
 | zero => rfl
 | succ j ih =>
  rw [insInner]
  split
  ·rw [ih, size_swp]
  ·rfl
theorem AVw (a b : Nat) : ∀ (k i : Nat) (d : Array (EL S)) (n : Nat), b - i = k → b ≤ d.size → d.size < 4611686018427387904 → d.size < many → k < n →
  AQ (N0 S.z S.c) n ((rep d), (a : Int), (b : Int), (i : Int), ()) = some (.inl ((rep (insOuter ltX a b i d)), ())) := by
 intro k
 induction k with
 | zero =>
  intro i d n hk hb hs hm hn
  obtain ⟨n, rfl⟩ : ∃ k, n = k + 1 := ⟨n - 1, by omega⟩
  have h0 : ¬ i < b := by omega
  rw [insOuter]
  simp only [AQ, N0, AN, h0, decide_false, if_false]
 | succ k ih =>
  intro i d n hk hb hs hm hn
  obtain ⟨n, rfl⟩ : ∃ k, n = k + 1 := ⟨n - 1, by omega⟩
  have h0 : i < b := by omega
  have e1 : IntKind.wrap .i64 ((i : Int) + 1) = ((i + 1 : Nat) : Int) := by rw [Af (by omega)]; omega
  rw [insOuter]
  simp only [AQ, N0, AN, h0, decide_true, if_true, Aj]
  rw [AYJ a b i i d many (by omega) hs (by omega)]
  simp only [e1]
  exact ih (i + 1) _ n (by omega) (by rw [CG]; omega) (by rw [CG]; omega) (by rw [CG]; omega) (by omega)
theorem AVv (d : Array (EL S)) (a b : Nat) (hab : a ≤ b) (hb : b ≤ d.size) (hs : d.size < 4294967296) : (AYL S.z S.c) ((rep d), (a : Int), (b : Int), ()) = some ((rep (insertionSort ltX d a b)), ()) := by
 have hm : d.size < many := by simp only [many]; omega
 have e1 : IntKind.wrap .i64 ((a : Int) + 1) = ((a + 1 : Nat) : Int) := by rw [Af (by omega)]; omega
 rw [AYK, AEl]
 simp only [e1, Aj]
 rw [AVw a b (b - (a + 1)) (a + 1) d many rfl hb (by omega) hm (by omega)]
 rfl
end Go.Pev.Pl.SG
end
end
section
section
namespace Go.Pev.Pl.SG
open Go.Sort
variable {α : Type} {S : SP α}
theorem AK5 (hi first : Nat) : ∀ (k root : Nat) (d : Array (EL S)) (n : Nat), hi - root = k → root ≤ hi → first + hi ≤ d.size → d.size < 4294967296 → (hi = 0 ∨ root < hi) → k < n →
  AQ (Jm S.z S.c) n ((rep d), (hi : Int), (first : Int), (root : Int), ()) = some (.inl ((rep (siftDown ltX hi first root d)), ())) ∨
  AQ (Jm S.z S.c) n ((rep d), (hi : Int), (first : Int), (root : Int), ()) = some (.inr (.inl ((rep (siftDown ltX hi first root d)), ()))) := by
 intro k
 induction k using Nat.strongRecOn with
 | _ k ih =>
 intro root d n hk hr hf hs hz hn
 obtain ⟨n, rfl⟩ : ∃ k, n = k + 1 := ⟨n - 1, by omega⟩
 rw [siftDown]
 simp (disch := omega) only [AQ, Jm, AAX, AL, wrap_add, Br, AN]
 by_cases h1 : hi ≤ 2 * root + 1
 ·simp only [h1, decide_true, ge_iff_le, dite_true, true_or]
 ·have i0 : first + root < d.size := by omega
  have i1 : first + (2 * root + 1) < d.size := by omega
  simp only [h1, decide_false, ge_iff_le, if_false, dite_false]
  simp (disch := omega) only [Ac, Al, CB, Cu]
  by_cases h2 : 2 * root + 1 + 1 < hi
  ·have i2 : first + (2 * root + 2) < d.size := by omega
   have i3 : 2 * root + 1 + 1 = 2 * root + 2 := by omega
   have i4 : first + (2 * root + 1) + 1 = first + (2 * root + 2) := by omega
   have h3 : 2 * root + 2 < hi := by omega
   simp only [i3, i4, h3, decide_true]
   simp (disch := omega) only [Ac, Al, CB, Cu, Ce]
   cases h4 : ltX d[first + (2 * root + 1)]! d[first + (2 * root + 2)]!
   ·simp only [Bool.and_false, Bool.false_eq_true, if_false]
    cases h5 : ltX d[first + root]! d[first + (2 * root + 1)]!
    ·simp
    ·simp only [Bool.not_true, Bool.false_eq_true, if_false]
     rw [Ac (by simpa using i1)]
     simp only [Ck]
     exact ih (hi - (2 * root + 1)) (by omega) (2 * root + 1) _ n rfl (by omega) (by rw [size_swp]; omega) (by rw [size_swp]; omega) (by omega) (by omega)
   ·simp only [Bool.and_true, if_true]
    cases h5 : ltX d[first + root]! d[first + (2 * root + 2)]!
    ·simp
    ·simp only [Bool.not_true, Bool.false_eq_true, if_false, dite_true]
     rw [Ac (by simpa using i2)]
     simp only [Ck]
     exact ih (hi - (2 * root + 2)) (by omega) (2 * root + 2) _ n rfl (by omega) (by rw [size_swp]; omega) (by rw [size_swp]; omega) (by omega) (by omega)
  ·simp only [h2, decide_false, Bool.false_and, Bool.false_eq_true, if_false, Ce]
   cases h5 : ltX d[first + root]! d[first + (2 * root + 1)]!
   ·simp
   ·simp only [Bool.not_true, Bool.false_eq_true, if_false]
    rw [Ac (by simpa using i1)]
    simp only [Ck]
    exact ih (hi - (2 * root + 1)) (by omega) (2 * root + 1) _ n rfl (by omega) (by rw [size_swp]; omega) (by rw [size_swp]; omega) (by omega) (by omega)
theorem AAx (d : Array (EL S)) (root hi first : Nat) (hf : first + hi ≤ d.size) (hs : d.size < 4294967296) (hz : hi = 0 ∧ root = 0 ∨ root < hi) : (AGp S.z S.c) ((rep d), (root : Int), (hi : Int), (first : Int), ()) = some ((rep (siftDown ltX hi first root d)), ()) := by
 have hm : d.size < many := by simp only [many]; omega
 rw [AUM, Tk]
 simp only [Aj]
 rcases AK5 hi first (hi - root) root d many rfl (by omega) hf hs (by omega) (by omega) with h | h <;> rw [h]
theorem BS (lt : (EL S) → (EL S) → Bool) (hi first : Nat) : ∀ (k root : Nat) (d : Array (EL S)), hi - root = k → (siftDown lt hi first root d).size = d.size := by
 intro k
 induction k using Nat.strongRecOn with
 | _ k ih =>
 intro root d hk
 rw [siftDown]
 split
 ·rfl
 ·split
  ·split
   ·rfl
   ·split
    ·rw [ih (hi - (2 * root + 2)) (by omega) _ _ rfl, size_swp]
    ·rfl
  ·split
   ·rfl
   ·rw [ih (hi - (2 * root + 1)) (by omega) _ _ rfl, size_swp]
theorem AJI (hi first : Nat) : ∀ (k : Nat) (d : Array (EL S)) (n : Nat), (hi = 0 ∧ k ≤ 1 ∨ k ≤ hi) → first + hi ≤ d.size → d.size < 4294967296 → k < n →
  AQ (KO S.z S.c) n ((rep d), (first : Int), (0 : Int), (hi : Int), (k : Int) - 1, ()) = some (.inl ((rep (heapBuild ltX hi first k d)), (first : Int), (0 : Int), (hi : Int), ())) := by
 intro k
 induction k with
 | zero =>
  intro d n hk hf hs hn
  obtain ⟨n, rfl⟩ : ∃ k, n = k + 1 := ⟨n - 1, by omega⟩
  rw [AQ, KO, Aq, decide_eq_false (by omega)]
  rfl
 | succ k ih =>
  intro d n hk hf hs hn
  obtain ⟨n, rfl⟩ : ∃ k, n = k + 1 := ⟨n - 1, by omega⟩
  have e0 : ((k + 1 : Nat) : Int) - 1 = (k : Int) := by omega
  rw [AQ, KO, e0, Aq, decide_eq_true (by omega)]
  simp only [AAx d k hi first hf hs (by omega)]
  rw [Af (by omega)]
  exact ih _ n (by omega) (by rw [BS _ _ _ _ _ _ rfl]; omega) (by rw [BS _ _ _ _ _ _ rfl]; omega) (by omega)
theorem C2 (lt : (EL S) → (EL S) → Bool) (hi first : Nat) : ∀ (k : Nat) (d : Array (EL S)), (heapBuild lt hi first k d).size = d.size := by
 intro k
 induction k with
 | zero => intro d; rfl
 | succ k ih => intro d; rw [heapBuild, ih, BS _ _ _ _ _ _ rfl]
theorem ASo (first : Nat) : ∀ (k : Nat) (d : Array (EL S)) (n : Nat), first + k ≤ d.size → d.size < 4294967296 → k < n →
  AQ (KN S.z S.c) n ((rep d), (first : Int), (0 : Int), (k : Int) - 1, ()) = some (.inl ((rep (heapPop ltX first k d)), ())) := by
 intro k
 induction k with
 | zero =>
  intro d n hf hs hn
  obtain ⟨n, rfl⟩ : ∃ k, n = k + 1 := ⟨n - 1, by omega⟩
  rw [AQ, KN, Aq, decide_eq_false (by omega)]
  rfl
 | succ k ih =>
  intro d n hf hs hn
  obtain ⟨n, rfl⟩ : ∃ k, n = k + 1 := ⟨n - 1, by omega⟩
  have e0 : ((k + 1 : Nat) : Int) - 1 = (k : Int) := by omega
  have i0 : first < d.size := by omega
  have i1 : first + k < d.size := by omega
  rw [AQ, KN, e0, Aq, decide_eq_true (by omega)]
  simp (disch := omega) only [wrap_add, Ac, Al, Ce]
  rw [Ac (by simpa using i1)]
  simp only [Ck]
  have := AAx (swp d first (first + k)) 0 k first (by rw [size_swp]; omega) (by rw [size_swp]; omega) (by omega)
  simp only [Int.natCast_zero] at this
  simp only [this]
  rw [Af (by omega)]
  exact ih _ n (by rw [BS _ _ _ _ _ _ rfl, size_swp]; omega) (by rw [BS _ _ _ _ _ _ rfl, size_swp]; omega) (by omega)
theorem ASn (d : Array (EL S)) (a b : Nat) (hab : a < b) (hb : b ≤ d.size) (hs : d.size < 4294967296) : (APx S.z S.c) ((rep d), (a : Int), (b : Int), ()) = some ((rep (heapSort ltX d a b)), ()) := by
 have hm : 4294967296 < many := by simp only [many]; omega
 rw [AWC, Tz]
 simp (disch := omega) only [BV, Ag, AYz, Aj]
 have e : (((b - a - 1) / 2 : Nat) : Int) = (((b - a - 1) / 2 + 1 : Nat) : Int) - 1 := by omega
 rw [e, AJI (b - a) a _ d many (by omega) (by omega) hs (by omega)]
 have e2 : (((b - a - 1 : Nat)) : Int) = ((b - a : Nat) : Int) - 1 := by omega
 simp (disch := omega) only [Ag, e2]
 rw [ASo a (b - a) _ many (by rw [C2]; omega) (by rw [C2]; omega) (by omega)]
 rfl
end Go.Pev.Pl.SG
end
section
namespace Go.Pev.Pl.SG
open Go.Sort
variable {α : Type} {S : SP α}
theorem ARH : ∀ (k i j : Nat) (d : Array (EL S)) (n : Nat), j - i = k → (j < d.size) → d.size < 4294967296 → k < n →
  AQ (Tm S.z S.c) n ((rep d), (i : Int), (j : Int), ()) = some (.inl ((rep (reverseLoop i j d)), ())) := by
 intro k
 induction k using Nat.strongRecOn with
 | _ k ih =>
 intro i j d n hk hj hs hn
 obtain ⟨n, rfl⟩ : ∃ k, n = k + 1 := ⟨n - 1, by omega⟩
 rw [reverseLoop, AQ, Tm]
 simp only [AN]
 by_cases h : i < j
 ·have hi : i < d.size := by omega
  simp only [h, decide_true, if_true, Ac hj, Ac hi, Al hi, Al hj, Ce]
  rw [Ac (by simpa using hj)]
  simp (disch := omega) only [Ck, AL, Ag]
  exact ih (j - 1 - (i + 1)) (by omega) (i + 1) (j - 1) _ n rfl (by rw [size_swp]; omega) (by rw [size_swp]; omega) (by omega)
 ·simp only [h, decide_false, if_false]
theorem AUW (d : Array (EL S)) (a b : Nat) (hab : a < b) (hb : b ≤ d.size) (hs : d.size < 4294967296) : (AXZ S.z S.c) ((rep d), (a : Int), (b : Int), ()) = some ((rep (reverseRange d a b)), ()) := by
 have hm : 4294967296 < many := by simp only [many]; omega
 rw [AXY, ADF]
 simp (disch := omega) only [Ag, Aj]
 rw [ARH (b - 1 - a) a (b - 1) d many rfl (by omega) hs (by omega)]
 rfl
theorem DV {d : Array (EL S)} {i j : Nat} (hi : i < d.size) (hj : j < d.size) : idx (Ak (rep d) (AG (i : Int)) (AS (rep d) (AG (j : Int)) S.z)) (j : Int) = some ((d.setIfInBounds i d[j]!)[j]!).val ∧
  Ak (Ak (rep d) (AG (i : Int)) (AS (rep d) (AG (j : Int)) S.z)) (AG (j : Int)) (AS (rep d) (AG (i : Int)) S.z) = (rep (swp d i j)) := by
 rw [Al hi, Al hj, Ce, Ce]
 exact ⟨Ac (by simpa using hj), rfl⟩
theorem AC7 (step : List α × Int × Int × Int × Unit → Option ((List α × Int × Int × Int × Unit) ⊕ (List α × Int × Int × Int × Unit) ⊕ Unit)) (p : (EL S) → Bool) (d : Array (EL S)) (a j : Nat) (hs : d.size < 4294967296) (hj : j < d.size)
  (h : ∀ i : Nat, i ≤ d.size → step ((rep d), (a : Int), (i : Int), (j : Int), ()) = if i ≤ j ∧ p d[i]! then some (.inl ((rep d), (a : Int), ((i + 1 : Nat) : Int), (j : Int), ())) else some (.inr (.inl ((rep d), (a : Int), (i : Int), (j : Int), ())))) :
  ∀ (k i n : Nat), j + 1 - i = k → i ≤ d.size → k < n → AQ step n ((rep d), (a : Int), (i : Int), (j : Int), ()) = some (.inl ((rep d), (a : Int), ((scanUp p d j i : Nat) : Int), (j : Int), ())) := by
 intro k
 induction k using Nat.strongRecOn with
 | _ k ih =>
 intro i n hk hi hn
 obtain ⟨n, rfl⟩ : ∃ k, n = k + 1 := ⟨n - 1, by omega⟩
 rw [scanUp, AQ, h i hi]
 by_cases h1 : i ≤ j ∧ p d[i]! = true
 ·rw [if_pos h1, if_pos (by simpa using h1)]
  exact ih (j + 1 - (i + 1)) (by omega) (i + 1) n rfl (by omega) (by omega)
 ·rw [if_neg h1, if_neg (by simpa using h1)]
theorem Pa (step : List α × Int × Int × Int × Unit → Option ((List α × Int × Int × Int × Unit) ⊕ (List α × Int × Int × Int × Unit) ⊕ Unit)) (p : (EL S) → Bool) (d : Array (EL S)) (a i : Nat) (hi : 1 ≤ i)
  (h : ∀ j : Nat, j < d.size → step ((rep d), (a : Int), (i : Int), (j : Int), ()) = if i ≤ j ∧ p d[j]! then some (.inl ((rep d), (a : Int), (i : Int), ((j - 1 : Nat) : Int), ())) else some (.inr (.inl ((rep d), (a : Int), (i : Int), (j : Int), ())))) :
  ∀ (j n : Nat), j < d.size → j < n → AQ step n ((rep d), (a : Int), (i : Int), (j : Int), ()) = some (.inl ((rep d), (a : Int), (i : Int), ((scanDown p d i j : Nat) : Int), ())) := by
 intro j
 induction j with
 | zero =>
  intro n hj hn
  obtain ⟨n, rfl⟩ : ∃ k, n = k + 1 := ⟨n - 1, by omega⟩
  rw [AQ, h 0 hj, if_neg (by omega)]
  rfl
 | succ j ih =>
  intro n hj hn
  obtain ⟨n, rfl⟩ : ∃ k, n = k + 1 := ⟨n - 1, by omega⟩
  rw [scanDown, AQ, h (j + 1) hj]
  by_cases h1 : i ≤ j + 1 ∧ p d[j + 1]! = true
  ·rw [if_pos h1, if_pos (by simpa using h1)]
   exact ih n (by omega) (by omega)
  ·rw [if_neg h1, if_neg (by simpa using h1)]
section
variable (d : Array (EL S)) (a i j : Nat) (hs : d.size < 4294967296) (ha : a < d.size) (hj : j < d.size)
include hs ha hj
theorem AIK (hi : i ≤ d.size) : (No S.z S.c) ((rep d), (a : Int), (i : Int), (j : Int), ()) = if i ≤ j ∧ (fun x => ltX x d[a]!) d[i]! = true then some (.inl ((rep d), (a : Int), ((i + 1 : Nat) : Int), (j : Int), ())) else some (.inr (.inl ((rep d), (a : Int), (i : Int), (j : Int), ()))) := by
 rw [No]
 simp only [Br]
 by_cases h : i ≤ j
 ·have hi' : i < d.size := by omega
  simp (disch := omega) only [h, decide_true, Ac, Al, CB, Cu, AL, true_and]
  cases ltX d[i]! d[a]! <;> simp
 ·simp only [h, decide_false, false_and, if_false]
theorem AII (hi : i ≤ d.size) : (Nl S.z S.c) ((rep d), (a : Int), (i : Int), (j : Int), ()) = if i ≤ j ∧ (fun x => ltX x d[a]!) d[i]! = true then some (.inl ((rep d), (a : Int), ((i + 1 : Nat) : Int), (j : Int), ())) else some (.inr (.inl ((rep d), (a : Int), (i : Int), (j : Int), ()))) := by
 rw [Nl]
 simp only [Br]
 by_cases h : i ≤ j
 ·have hi' : i < d.size := by omega
  simp (disch := omega) only [h, decide_true, Ac, Al, CB, Cu, AL, true_and]
  cases ltX d[i]! d[a]! <;> simp
 ·simp only [h, decide_false, false_and, if_false]
theorem AIJ (hi : 1 ≤ i) : (Nn S.z S.c) ((rep d), (a : Int), (i : Int), (j : Int), ()) = if i ≤ j ∧ (fun x => !ltX x d[a]!) d[j]! = true then some (.inl ((rep d), (a : Int), (i : Int), ((j - 1 : Nat) : Int), ())) else some (.inr (.inl ((rep d), (a : Int), (i : Int), (j : Int), ()))) := by
 rw [Nn]
 simp only [Br]
 by_cases h : i ≤ j
 ·simp (disch := omega) only [h, decide_true, Ac, Al, CB, Cu, Ag, true_and]
  cases ltX d[j]! d[a]! <;> simp
 ·simp only [h, decide_false, false_and, if_false]
theorem AIH (hi : 1 ≤ i) : (Nk S.z S.c) ((rep d), (a : Int), (i : Int), (j : Int), ()) = if i ≤ j ∧ (fun x => !ltX x d[a]!) d[j]! = true then some (.inl ((rep d), (a : Int), (i : Int), ((j - 1 : Nat) : Int), ())) else some (.inr (.inl ((rep d), (a : Int), (i : Int), (j : Int), ()))) := by
 rw [Nk]
 simp only [Br]
 by_cases h : i ≤ j
 ·simp (disch := omega) only [h, decide_true, Ac, Al, CB, Cu, Ag, true_and]
  cases ltX d[j]! d[a]! <;> simp
 ·simp only [h, decide_false, false_and, if_false]
theorem Z3 (hi : i ≤ d.size) : (Iv S.z S.c) ((rep d), (a : Int), (i : Int), (j : Int), ()) = if i ≤ j ∧ (fun x => !ltX d[a]! x) d[i]! = true then some (.inl ((rep d), (a : Int), ((i + 1 : Nat) : Int), (j : Int), ())) else some (.inr (.inl ((rep d), (a : Int), (i : Int), (j : Int), ()))) := by
 rw [Iv]
 simp only [Br]
 by_cases h : i ≤ j
 ·have hi' : i < d.size := by omega
  simp (disch := omega) only [h, decide_true, Ac, Al, CB, Cu, AL, true_and]
  cases ltX d[a]! d[i]! <;> simp
 ·simp only [h, decide_false, false_and, if_false]
theorem Z2 (hi : 1 ≤ i) : (Iu S.z S.c) ((rep d), (a : Int), (i : Int), (j : Int), ()) = if i ≤ j ∧ (fun x => ltX d[a]! x) d[j]! = true then some (.inl ((rep d), (a : Int), (i : Int), ((j - 1 : Nat) : Int), ())) else some (.inr (.inl ((rep d), (a : Int), (i : Int), (j : Int), ()))) := by
 rw [Iu]
 simp only [Br]
 by_cases h : i ≤ j
 ·simp (disch := omega) only [h, decide_true, Ac, Al, CB, Cu, Ag, true_and]
  cases ltX d[a]! d[j]! <;> simp
 ·simp only [h, decide_false, false_and, if_false]
end
theorem C3 (p : (EL S) → Bool) (d : Array (EL S)) (j i : Nat) (hj : j < d.size) (hi : i ≤ d.size) : scanUp p d j i ≤ d.size := by
 suffices h : ∀ (k i : Nat), j + 1 - i = k → i ≤ d.size → scanUp p d j i ≤ d.size from h _ i rfl hi
 intro k
 induction k using Nat.strongRecOn with
 | _ k ih =>
 intro i hk hi
 rw [scanUp]
 split
 ·rename_i h
  have : i ≤ j := by simp at h; exact h.1
  exact ih (j + 1 - (i + 1)) (by omega) (i + 1) rfl (by omega)
 ·exact hi
theorem AMB (a : Nat) : ∀ (k i j : Nat) (d : Array (EL S)) (n : Nat), j + 1 - i = k → a < d.size → 1 ≤ i → i ≤ d.size → j < d.size → d.size < 4294967296 → k < n →
  AQ (Nm S.z S.c) n ((rep d), (a : Int), (i : Int), (j : Int), ()) = some (.inl ((rep (partLoop ltX a i j d).2), (a : Int), (((partLoop ltX a i j d).1 : Nat) : Int), ())) ∧ (partLoop ltX a i j d).1 ≤ j ∧ (partLoop ltX a i j d).2.size = d.size := by
 intro k
 induction k using Nat.strongRecOn with
 | _ k ih =>
 intro i j d n hk ha hi hi' hj hs hn
 have hm : 4294967296 < many := by simp only [many]; omega
 obtain ⟨n, rfl⟩ : ∃ k, n = k + 1 := ⟨n - 1, by omega⟩
 rw [partLoop_eq, AQ, Nm]
 have u1 := scanUp_ge (fun x => ltX x d[a]!) d j i
 have u2 := C3 (fun x => ltX x d[a]!) d j i hj hi'
 rw [Aj, AC7 _ (fun x => ltX x d[a]!) d a j hs hj (fun i h => AII d a i j hs ha hj h) _ i many rfl hi' (by omega)]
 generalize scanUp (fun x => ltX x d[a]!) d j i = i2 at *
 have v1 := scanDown_le (fun x => !ltX x d[a]!) d i2 j
 simp only [Aj]
 rw [Pa _ (fun x => !ltX x d[a]!) d a i2 (by omega) (fun j h => AIH d a i2 j hs ha h (by omega)) j many hj (by omega)]
 generalize scanDown (fun x => !ltX x d[a]!) d i2 j = j2 at *
 simp only [AN]
 by_cases h : j2 < i2
 ·simp only [h, decide_true, gt_iff_lt, if_true]
  exact ⟨trivial, v1, trivial⟩
 ·have hi2 : i2 < d.size := by omega
  have hj2 : j2 < d.size := by omega
  simp only [h, decide_false, gt_iff_lt, if_false, Ac hi2, Ac hj2, (DV hi2 hj2).1, (DV hi2 hj2).2]
  simp (disch := omega) only [AL, Ag]
  obtain ⟨q1, q2, q3⟩ := ih (j2 - 1 + 1 - (i2 + 1)) (by omega) (i2 + 1) (j2 - 1) (swp d i2 j2) n rfl (by rw [size_swp]; omega) (by omega) (by rw [size_swp]; omega) (by rw [size_swp]; omega) (by rw [size_swp]; omega) (by omega)
  exact ⟨q1, by omega, by rw [q3, size_swp]⟩
theorem ARa (d : Array (EL S)) (a b p : Nat) (ha : a ≤ p) (hp : p < b) (hb : b ≤ d.size) (hs : d.size < 4294967296) :
  (ABB S.z S.c) ((rep d), (a : Int), (b : Int), (p : Int), ()) = some ((rep (partition ltX d a b p).2.2), (((partition ltX d a b p).1 : Nat) : Int), (partition ltX d a b p).2.1, ()) := by
 have hm : 4294967296 < many := by simp only [many]; omega
 have ha' : a < d.size := by omega
 have hp' : p < d.size := by omega
 rw [AVC, Tp, partition]
 simp only [Ac ha', Ac hp', (DV ha' hp').1, (DV ha' hp').2]
 have hs' := hs
 rw [← size_swp d a p] at ha' hs' hb
 generalize swp d a p = d at *
 simp (disch := omega) only [AL, Ag, Aj]
 have u1 := scanUp_ge (fun x => ltX x d[a]!) d (b - 1) (a + 1)
 have u2 := C3 (fun x => ltX x d[a]!) d (b - 1) (a + 1) (by omega) (by omega)
 rw [AC7 _ (fun x => ltX x d[a]!) d a (b - 1) hs' (by omega) (fun i h => AIK d a i (b - 1) hs' ha' (by omega) h) _ (a + 1) many rfl (by omega) (by omega)]
 generalize scanUp (fun x => ltX x d[a]!) d (b - 1) (a + 1) = i2 at *
 have v1 := scanDown_le (fun x => !ltX x d[a]!) d i2 (b - 1)
 simp only []
 rw [Pa _ (fun x => !ltX x d[a]!) d a i2 (by omega) (fun j h => AIJ d a i2 j hs' ha' h (by omega)) (b - 1) many (by omega) (by omega)]
 generalize scanDown (fun x => !ltX x d[a]!) d i2 (b - 1) = j2 at *
 simp only [AN]
 have hj2 : j2 < d.size := by omega
 by_cases h : j2 < i2
 ·simp only [h, decide_true, gt_iff_lt, if_true, Ac ha', Ac hj2, (DV hj2 ha').1, (DV hj2 ha').2]
 ·have hi2 : i2 < d.size := by omega
  simp only [h, decide_false, gt_iff_lt, if_false, Ac hi2, Ac hj2, (DV hi2 hj2).1, (DV hi2 hj2).2]
  simp (disch := omega) only [AL, Ag]
  obtain ⟨q1, q2, q3⟩ := AMB a (j2 - 1 + 1 - (i2 + 1)) (i2 + 1) (j2 - 1) (swp d i2 j2) many rfl (by rw [size_swp]; omega) (by omega) (by rw [size_swp]; omega) (by rw [size_swp]; omega) (by rw [size_swp]; omega) (by omega)
  simp only [q1]
  rw [size_swp] at q3
  generalize partLoop ltX a (i2 + 1) (j2 - 1) (swp d i2 j2) = r at *
  have h1 : r.1 < r.2.size := by omega
  have h2 : a < r.2.size := by omega
  simp only [Ac h1, Ac h2, (DV h1 h2).1, (DV h1 h2).2]
theorem ADr (a : Nat) : ∀ (k i j : Nat) (d : Array (EL S)) (n : Nat), j + 1 - i = k → a < d.size → 1 ≤ i → i ≤ d.size → j < d.size → d.size < 4294967296 → k < n →
  AQ (Iw S.z S.c) n ((rep d), (a : Int), (i : Int), (j : Int), ()) = some (.inl ((rep (partEqLoop ltX a i j d).2), (((partEqLoop ltX a i j d).1 : Nat) : Int), ())) := by
 intro k
 induction k using Nat.strongRecOn with
 | _ k ih =>
 intro i j d n hk ha hi hi' hj hs hn
 have hm : 4294967296 < many := by simp only [many]; omega
 obtain ⟨n, rfl⟩ : ∃ k, n = k + 1 := ⟨n - 1, by omega⟩
 rw [partEqLoop_eq, AQ, Iw]
 have u1 := scanUp_ge (fun x => !ltX d[a]! x) d j i
 have u2 := C3 (fun x => !ltX d[a]! x) d j i hj hi'
 rw [Aj, AC7 _ (fun x => !ltX d[a]! x) d a j hs hj (fun i h => Z3 d a i j hs ha hj h) _ i many rfl hi' (by omega)]
 generalize scanUp (fun x => !ltX d[a]! x) d j i = i2 at *
 have v1 := scanDown_le (fun x => ltX d[a]! x) d i2 j
 simp only [Aj]
 rw [Pa _ (fun x => ltX d[a]! x) d a i2 (by omega) (fun j h => Z2 d a i2 j hs ha h (by omega)) j many hj (by omega)]
 generalize scanDown (fun x => ltX d[a]! x) d i2 j = j2 at *
 simp only [AN]
 by_cases h : j2 < i2
 ·simp only [h, decide_true, gt_iff_lt, if_true]
 ·have hi2 : i2 < d.size := by omega
  have hj2 : j2 < d.size := by omega
  simp only [h, decide_false, gt_iff_lt, if_false, Ac hi2, Ac hj2, (DV hi2 hj2).1, (DV hi2 hj2).2]
  simp (disch := omega) only [AL, Ag]
  exact ih (j2 - 1 + 1 - (i2 + 1)) (by omega) (i2 + 1) (j2 - 1) (swp d i2 j2) n rfl (by rw [size_swp]; omega) (by omega) (by rw [size_swp]; omega) (by rw [size_swp]; omega) (by rw [size_swp]; omega) (by omega)
theorem AIO (d : Array (EL S)) (a b p : Nat) (ha : a ≤ p) (hp : p < b) (hb : b ≤ d.size) (hs : d.size < 4294967296) :
  (Tq S.z S.c) ((rep d), (a : Int), (b : Int), (p : Int), ()) = some ((rep (partitionEqual ltX d a b p).2), (((partitionEqual ltX d a b p).1 : Nat) : Int), ()) := by
 have hm : 4294967296 < many := by simp only [many]; omega
 have ha' : a < d.size := by omega
 have hp' : p < d.size := by omega
 rw [AMP, LC, partitionEqual]
 simp only [Ac ha', Ac hp', (DV ha' hp').1, (DV ha' hp').2]
 have hs' := hs
 rw [← size_swp d a p] at ha' hs' hb
 generalize swp d a p = d at *
 simp (disch := omega) only [AL, Ag, Aj]
 rw [ADr a _ (a + 1) (b - 1) d many rfl ha' (by omega) (by omega) (by omega) hs' (by omega)]
end Go.Pev.Pl.SG
end
section
namespace Go.Pev.Pl.SG
open Go.Sort
variable {α : Type} {S : SP α}
theorem EI (d : Array (EL S)) (b : Nat) : ∀ (k i : Nat), b - i = k → i ≤ b → i ≤ scanSorted ltX d b i ∧ scanSorted ltX d b i ≤ b := by
 intro k
 induction k using Nat.strongRecOn with
 | _ k ih =>
 intro i hk hi
 rw [scanSorted]
 split
 ·rename_i h
  have : i < b := by simp at h; exact h.1
  have := ih (b - (i + 1)) (by omega) (i + 1) rfl (by omega)
  omega
 ·omega
theorem Zr (d : Array (EL S)) (a b s : Nat) (hb : b ≤ d.size) (hs : d.size < 4294967296) : ∀ (k i n : Nat), b - i = k → 1 ≤ i → i ≤ b → k < n →
  AQ (HS S.z S.c) n ((rep d), (a : Int), (b : Int), (i : Int), (s : Int), ()) = some (.inl ((rep d), (a : Int), (b : Int), ((scanSorted ltX d b i : Nat) : Int), (s : Int), ())) := by
 intro k
 induction k using Nat.strongRecOn with
 | _ k ih =>
 intro i n hk h1 hi hn
 obtain ⟨n, rfl⟩ : ∃ k, n = k + 1 := ⟨n - 1, by omega⟩
 rw [scanSorted, AQ, HS]
 simp only [AN]
 by_cases h : i < b
 ·have i0 : i < d.size := by omega
  have i1 : i - 1 < d.size := by omega
  simp (disch := omega) only [h, decide_true, Ag, AL, Ac, Al, CB, Cu, Bool.true_and]
  cases h2 : ltX d[i]! d[i - 1]!
  ·simp only [Bool.not_false, if_true]
   exact ih (b - (i + 1)) (by omega) (i + 1) n rfl (by omega) (by omega) (by omega)
  ·simp only [Bool.not_true, Bool.false_eq_true, if_false]
 ·simp only [h, decide_false, Bool.false_and, Bool.false_eq_true, if_false]
theorem Zt (a b i s : Nat) : ∀ (j : Nat) (d : Array (EL S)) (n : Nat), j < d.size → d.size < 4294967296 → j < n →
  AQ (FU S.z S.c) n ((rep d), (a : Int), (b : Int), (i : Int), (s : Int), (j : Int), ()) = some (.inl ((rep (shiftDown ltX j d)), (a : Int), (b : Int), (i : Int), (s : Int), ())) := by
 intro j
 induction j with
 | zero =>
  intro d n hj hs hn
  obtain ⟨n, rfl⟩ : ∃ k, n = k + 1 := ⟨n - 1, by omega⟩
  rw [AQ, FU, Aq, decide_eq_false (by omega)]
  rfl
 | succ j ih =>
  intro d n hj hs hn
  obtain ⟨n, rfl⟩ : ∃ k, n = k + 1 := ⟨n - 1, by omega⟩
  have hj' : j < d.size := by omega
  rw [shiftDown, AQ, FU, Aq, decide_eq_true (by omega)]
  simp (disch := omega) only [Ag, Nat.add_sub_cancel, Ac, Al, CB, Cu]
  cases h2 : ltX d[j + 1]! d[j]!
  ·simp only [Bool.not_false, if_true]
  ·have e1 := DV hj hj'
   simp only [Al hj, Al hj'] at e1
   simp only [Bool.not_true, Bool.false_eq_true, if_false, e1]
   exact ih _ n (by rw [size_swp]; omega) (by rw [size_swp]; omega) (by omega)
theorem SY (a b i s : Nat) : ∀ (k j : Nat) (d : Array (EL S)) (n : Nat), b - j = k → 1 ≤ j → b ≤ d.size → d.size < 4294967296 → k < n →
  AQ (FT S.z S.c) n ((rep d), (a : Int), (b : Int), (i : Int), (s : Int), (j : Int), ()) = some (.inl ((rep (shiftUp ltX b j d)), (a : Int), (b : Int), (i : Int), (s : Int), ())) := by
 intro k
 induction k using Nat.strongRecOn with
 | _ k ih =>
 intro j d n hk h1 hb hs hn
 obtain ⟨n, rfl⟩ : ∃ k, n = k + 1 := ⟨n - 1, by omega⟩
 rw [shiftUp, AQ, FT]
 simp only [AN]
 by_cases h : j < b
 ·have i0 : j < d.size := by omega
  have i1 : j - 1 < d.size := by omega
  simp (disch := omega) only [h, decide_true, if_true, Ag, AL, Ac, Al, CB, Cu]
  cases h2 : ltX d[j]! d[j - 1]!
  ·simp only [Bool.not_false, if_true]
  ·have e1 := DV i0 i1
   simp only [Al i0, Al i1] at e1
   simp only [Bool.not_true, Bool.false_eq_true, if_false, e1]
   exact ih (b - (j + 1)) (by omega) (j + 1) _ n rfl (by omega) (by rw [size_swp]; omega) (by rw [size_swp]; omega) (by omega)
 ·simp only [h, decide_false, if_false]
theorem Gh : ∀ (j : Nat) (d : Array (EL S)), (shiftDown ltX j d).size = d.size := by
 intro j
 induction j with
 | zero => intro d; rfl
 | succ j ih =>
  intro d
  rw [shiftDown]
  split
  ·rfl
  ·rw [ih, size_swp]
theorem Bz (b : Nat) : ∀ (k j : Nat) (d : Array (EL S)), b - j = k → (shiftUp ltX b j d).size = d.size := by
 intro k
 induction k using Nat.strongRecOn with
 | _ k ih =>
 intro j d hk
 rw [shiftUp]
 split
 ·split
  ·rfl
  ·rw [ih (b - (j + 1)) (by omega) (j + 1) _ rfl, size_swp]
 ·rfl
theorem Zs (a b : Nat) (hab : a < b) : ∀ (k i s : Nat) (d : Array (EL S)) (n : Nat), s + k = 5 → a + 1 ≤ i → i ≤ b → b ≤ d.size → d.size < 4294967296 → k < n →
  AQ (CU S.z S.c) n ((rep d), (a : Int), (b : Int), (i : Int), (s : Int), ()) = some (.inl ((rep (partialIns ltX a b k i d).1), (partialIns ltX a b k i d).2, ())) ∨
  ((partialIns ltX a b k i d).2 = false ∧ AQ (CU S.z S.c) n ((rep d), (a : Int), (b : Int), (i : Int), (s : Int), ()) = some (.inr (.inl ((rep (partialIns ltX a b k i d).1), ())))) := by
 intro k
 induction k with
 | zero =>
  intro i s d n hk h1 hi hb hs hn
  obtain ⟨n, rfl⟩ : ∃ k, n = k + 1 := ⟨n - 1, by omega⟩
  rw [AQ, CU, Am, decide_eq_false (by omega)]
  exact .inr ⟨rfl, rfl⟩
 | succ k ih =>
  intro i s d n hk h1 hi hb hs hn
  have hm : 4294967296 < many := by simp only [many]; omega
  have es : IntKind.wrap .i64 ((s : Int) + 1) = ((s + 1 : Nat) : Int) := AL (by omega)
  obtain ⟨n, rfl⟩ : ∃ k, n = k + 1 := ⟨n - 1, by omega⟩
  rw [AQ, CU, Am, decide_eq_true (by omega), partialIns]
  simp only [Aj, Zr d a b s hb hs (b - i) i many rfl (by omega) hi (by omega)]
  have hsc := EI d b _ i rfl hi
  generalize scanSorted ltX d b i = i2 at *
  simp only [AEp]
  by_cases h2 : i2 = b
  ·simp only [h2, decide_true, if_true, true_or]
  ·simp (disch := omega) only [h2, decide_false, if_false, BV, Am, Aq]
   by_cases h3 : b - a < 50
   ·rw [if_pos h3, decide_eq_true (by omega)]
    exact .inl rfl
   ·have i0 : i2 < d.size := by omega
    have i1 : i2 - 1 < d.size := by omega
    rw [if_neg h3, decide_eq_false (by omega)]
    simp (disch := omega) only [Ag, AL, Ac i0, Ac i1, (DV i0 i1).1, (DV i0 i1).2]
    have hsz := size_swp d i2 (i2 - 1)
    generalize swp d i2 (i2 - 1) = d2 at *
    by_cases h4 : i2 - a ≥ 2
    ·rw [if_pos h4, decide_eq_true (show (2 : Int) ≤ ((i2 - a : Nat) : Int) by omega)]
     simp only [Zt a b i2 s (i2 - 1) d2 many (by omega) (by omega) (by omega)]
     have hsz2 := Gh (i2 - 1) d2
     generalize shiftDown ltX (i2 - 1) d2 = d3 at *
     simp (disch := omega) only [BV, AL]
     by_cases h5 : b - i2 ≥ 2
     ·rw [if_pos h5, decide_eq_true (show (2 : Int) ≤ ((b - i2 : Nat) : Int) by omega)]
      simp only [SY a b i2 s _ (i2 + 1) d3 many rfl (by omega) (by omega) (by omega) (by omega)]
      simp only [es]
      exact ih i2 (s + 1) (shiftUp ltX b (i2 + 1) d3) n (by omega) (by omega) (by omega) (by rw [Bz b (b - (i2 + 1)) (i2 + 1) _ rfl]; omega) (by rw [Bz b (b - (i2 + 1)) (i2 + 1) _ rfl]; omega) (by omega)
     ·rw [if_neg h5, decide_eq_false (show ¬ (2 : Int) ≤ ((b - i2 : Nat) : Int) by omega)]
      simp only [es]
      exact ih i2 (s + 1) d3 n (by omega) (by omega) (by omega) (by omega) (by omega) (by omega)
    ·rw [if_neg h4, decide_eq_false (show ¬ (2 : Int) ≤ ((i2 - a : Nat) : Int) by omega)]
     by_cases h5 : b - i2 ≥ 2
     ·rw [if_pos h5, decide_eq_true (show (2 : Int) ≤ ((b - i2 : Nat) : Int) by omega)]
      simp only [SY a b i2 s _ (i2 + 1) d2 many rfl (by omega) (by omega) (by omega) (by omega)]
      simp only [es]
      exact ih i2 (s + 1) (shiftUp ltX b (i2 + 1) d2) n (by omega) (by omega) (by omega) (by rw [Bz b (b - (i2 + 1)) (i2 + 1) _ rfl]; omega) (by rw [Bz b (b - (i2 + 1)) (i2 + 1) _ rfl]; omega) (by omega)
     ·rw [if_neg h5, decide_eq_false (show ¬ (2 : Int) ≤ ((b - i2 : Nat) : Int) by omega)]
      simp only [es]
      exact ih i2 (s + 1) d2 n (by omega) (by omega) (by omega) (by omega) (by omega) (by omega)
theorem ADj (d : Array (EL S)) (a b : Nat) (hab : a < b) (hb : b ≤ d.size) (hs : d.size < 4294967296) :
  (Ni S.z S.c) ((rep d), (a : Int), (b : Int), ()) = some ((rep (partialInsertionSort ltX d a b).1), (partialInsertionSort ltX d a b).2, ()) := by
 have hm : 4294967296 < many := by simp only [many]; omega
 rw [AHv, It, partialInsertionSort]
 simp (disch := omega) only [AL, Aj]
 have h := Zs a b hab 5 (a + 1) 0 d many rfl (Nat.le_refl _) (by omega) hb hs (by omega)
 rcases h with h | ⟨h0, h⟩
 ·have h' : AQ (CU S.z S.c) many ((rep d), (a : Int), (b : Int), ((a + 1 : Nat) : Int), (0 : Int), ()) = _ := h
  rw [h']
 ·have h' : AQ (CU S.z S.c) many ((rep d), (a : Int), (b : Int), ((a + 1 : Nat) : Int), (0 : Int), ()) = _ := h
  rw [h', h0]
theorem J6 (d : Array (EL S)) (a b : Nat) (s : Int) (ha : a < d.size) (hb : b < d.size) :
  ∃ s' p q, (LG S.z S.c) ((rep d), (a : Int), (b : Int), s, ()) = some ((rep d), s', ((p : Nat) : Int), ((q : Nat) : Int), ()) ∧ (p = a ∧ q = b ∨ p = b ∧ q = a) := by
 rw [AMR, LF]
 simp only [Ac ha, Ac hb, Al ha, Al hb, CB, Cu]
 cases ltX d[b]! d[a]!
 ·exact ⟨_, a, b, rfl, .inl ⟨rfl, rfl⟩⟩
 ·exact ⟨_, b, a, rfl, .inr ⟨rfl, rfl⟩⟩
theorem J8 (d : Array (EL S)) (a b c : Nat) (s : Int) (ha : a < d.size) (hb : b < d.size) (hc : c < d.size) :
  ∃ s' p, (LL S.z S.c) ((rep d), (a : Int), (b : Int), (c : Int), s, ()) = some ((rep d), s', ((p : Nat) : Int), ()) ∧ (p = a ∨ p = b ∨ p = c) := by
 rw [AMr, LK]
 obtain ⟨s1, p1, q1, e1, h1⟩ := J6 d a b s ha hb
 simp only [e1]
 obtain ⟨s2, p2, q2, e2, h2⟩ := J6 d q1 c s1 (by omega) hc
 simp only [e2]
 obtain ⟨s3, p3, q3, e3, h3⟩ := J6 d p1 p2 s2 (by omega) (by omega)
 simp only [e3]
 exact ⟨_, q3, rfl, by omega⟩
theorem KA (d : Array (EL S)) (a : Nat) (s : Int) (h1 : 1 ≤ a) (ha : a + 1 < d.size) (hs : d.size < 4294967296) :
  ∃ s' p, (LO S.z S.c) ((rep d), (a : Int), s, ()) = some ((rep d), s', ((p : Nat) : Int), ()) ∧ a ≤ p + 1 ∧ p ≤ a + 1 := by
 rw [AMt, LN]
 simp (disch := omega) only [Ag, AL]
 obtain ⟨s1, p1, e1, h1⟩ := J8 d (a - 1) a (a + 1) s (by omega) (by omega) ha
 simp only [e1]
 exact ⟨_, p1, rfl, by omega⟩
theorem ALy (d : Array (EL S)) (a b : Nat) (hab : a + 8 ≤ b) (hb : b ≤ d.size) (hs : d.size < 4294967296) :
  ∃ p h, (ADS S.z S.c) ((rep d), (a : Int), (b : Int), ()) = some ((rep d), ((p : Nat) : Int), h, ()) ∧ a ≤ p ∧ p < b := by
 rw [ARS, Nd]
 simp (disch := omega) only [BV, R3, AAW, D1, AAV, wrap_add, Aq]
 rw [decide_eq_true (show (8 : Int) ≤ ((b - a : Nat) : Int) by omega)]
 simp only []
 by_cases h : 50 ≤ b - a
 ·rw [decide_eq_true (show (50 : Int) ≤ ((b - a : Nat) : Int) by omega)]
  simp only []
  obtain ⟨s1, p1, e1, h1⟩ := KA d (a + (b - a) / 4 * 1) 0 (by omega) (by omega) hs
  simp only [e1]
  obtain ⟨s2, p2, e2, h2⟩ := KA d (a + (b - a) / 4 * 2) s1 (by omega) (by omega) hs
  simp only [e2]
  obtain ⟨s3, p3, e3, h3⟩ := KA d (a + (b - a) / 4 * 3) s2 (by omega) (by omega) hs
  simp only [e3]
  obtain ⟨s4, p4, e4, h4⟩ := J8 d p1 p2 p3 s3 (by omega) (by omega) (by omega)
  simp only [e4]
  cases ieq s4 0
  ·cases ieq s4 12
   ·exact ⟨p4, _, rfl, by omega, by omega⟩
   ·exact ⟨p4, _, rfl, by omega, by omega⟩
  ·exact ⟨p4, _, rfl, by omega, by omega⟩
 ·rw [decide_eq_false (show ¬ (50 : Int) ≤ ((b - a : Nat) : Int) by omega)]
  simp only []
  obtain ⟨s4, p4, e4, h4⟩ := J8 d (a + (b - a) / 4 * 1) (a + (b - a) / 4 * 2) (a + (b - a) / 4 * 3) 0 (by omega) (by omega) (by omega)
  simp only [e4]
  cases ieq s4 0
  ·cases ieq s4 12
   ·exact ⟨p4, _, rfl, by omega, by omega⟩
   ·exact ⟨p4, _, rfl, by omega, by omega⟩
  ·exact ⟨p4, _, rfl, by omega, by omega⟩
end Go.Pev.Pl.SG
end
section
namespace Go.Pev.Pl
open Go.Sort
set_option maxRecDepth 100000
theorem ASM : (List.range 256).all (fun k => match Fm[k]? with
  | some v => decide (0 ≤ v) && (decide (v ≤ 8) && decide (2 ^ v.toNat ≤ max 1 (2 * k)))
  | none => false) = true := by decide +kernel
theorem ASN {k : Nat} (h : k < 256) : ∃ v : Nat, idx Fm (k : Int) = some (v : Int) ∧ v ≤ 8 ∧ 2 ^ v ≤ max 1 (2 * k) := by
 have := List.all_eq_true.1 ASM k (List.mem_range.2 h)
 rw [idx_eq, Lr, if_neg (by omega), Int.toNat_natCast]
 cases e : Fm[k]? with
 | none => rw [e] at this; cases this
 | some v =>
  rw [e] at this
  simp only [Bool.and_eq_true, decide_eq_true_eq] at this
  exact ⟨v.toNat, by rw [Int.toNat_of_nonneg this.1], by omega, this.2.2⟩
theorem AC1 (n s : Nat) (h : s ≤ 64) : shr? .u64 (n : Int) (s : Int) = some ((n / 2 ^ s : Nat) : Int) := by
 rw [AK6, VP, if_neg (by omega), Int.toNat_natCast, show min s (IntKind.bits .u64) = s from Nat.min_eq_left h, Int.fdiv_eq_ediv_of_nonneg _ (Int.pow_nonneg (by omega))]
 rfl
theorem u8_in {n : Int} (h : 0 ≤ n ∧ n ≤ 255) : IntKind.wrap .u8 n = n := IntWalk.u8_in n h
theorem u64_in {n : Int} (h : 0 ≤ n ∧ n ≤ 18446744073709551615) : IntKind.wrap .u64 n = n := IntWalk.u64_in n h
theorem ASO (n : Nat) (hn : n < 4294967296) : ∃ v : Nat, AIu ((n : Int), ()) = some ((v : Int), ()) ∧ v ≤ 32 ∧ 2 ^ v ≤ max 1 (2 * n) := by
 rw [AIt, Tv, Aq, decide_eq_false (by omega)]
 simp only [Aq]
 have key : ∀ (s m : Nat), s ≤ 24 → m < 256 → m * 2 ^ s ≤ n → (s = 0 ∨ 1 ≤ m) → ∃ v : Nat, idx Fm (m : Int) = some (v : Int) ∧ v ≤ 8 ∧ 2 ^ (s + v) ≤ max 1 (2 * n) := by
  intro s m hs hm hle h1
  obtain ⟨v, e, h8, hp⟩ := ASN hm
  refine ⟨v, e, h8, ?_⟩
  rcases h1 with rfl | h1
  ·rw [Nat.zero_add]; simp at hle; omega
  ·have h2 : 2 ^ v ≤ 2 * m := by omega
   have h3 : 2 ^ (s + v) ≤ 2 * (m * 2 ^ s) := by
    rw [Nat.pow_add, Nat.mul_comm (2 ^ s), ← Nat.mul_assoc]
    exact Nat.mul_le_mul_right _ h2
   omega
 by_cases h1 : 65536 ≤ n
 ·rw [decide_eq_true (show (65536 : Int) ≤ (n : Int) by omega)]
  have e16 : shr? .u64 (n : Int) 16 = some ((n / 65536 : Nat) : Int) := AC1 n 16 (by omega)
  simp only [e16]
  by_cases h2 : 256 ≤ n / 65536
  ·rw [decide_eq_true (show (256 : Int) ≤ ((n / 65536 : Nat) : Int) by omega)]
   have e8 : shr? .u64 ((n / 65536 : Nat) : Int) 8 = some ((n / 65536 / 256 : Nat) : Int) := AC1 _ 8 (by omega)
   obtain ⟨v, e, h8, hp⟩ := key 24 (n / 65536 / 256) (by omega) (by omega) (by omega) (by omega)
   simp only [e8]
   rw [u8_in (by omega)]
   simp only [e]
   refine ⟨24 + v, ?_, by omega, hp⟩
   rw [Af (n := 0 + 16) (by omega), Af (n := (0 : Int) + 16 + 8) (by omega), Af (n := (v : Int)) (by omega), Af (by omega)]
   congr 2
  ·rw [decide_eq_false (show ¬ (256 : Int) ≤ ((n / 65536 : Nat) : Int) by omega)]
   obtain ⟨v, e, h8, hp⟩ := key 16 (n / 65536) (by omega) (by omega) (by omega) (by omega)
   simp only []
   rw [u8_in (by omega)]
   simp only [e]
   refine ⟨16 + v, ?_, by omega, hp⟩
   rw [Af (n := 0 + 16) (by omega), Af (n := (v : Int)) (by omega), Af (by omega)]
   congr 2
 ·rw [decide_eq_false (show ¬ (65536 : Int) ≤ (n : Int) by omega)]
  by_cases h2 : 256 ≤ n
  ·have e8 : shr? .u64 (n : Int) 8 = some ((n / 256 : Nat) : Int) := AC1 n 8 (by omega)
   obtain ⟨v, e, h8, hp⟩ := key 8 (n / 256) (by omega) (by omega) (by omega) (by omega)
   simp only []
   rw [decide_eq_true (show (256 : Int) ≤ (n : Int) by omega)]
   simp only [e8]
   rw [u8_in (by omega)]
   simp only [e]
   refine ⟨8 + v, ?_, by omega, hp⟩
   rw [Af (n := 0 + 8) (by omega), Af (n := (v : Int)) (by omega), Af (by omega)]
   congr 2
  ·obtain ⟨v, e, h8, hp⟩ := key 0 n (by omega) (by omega) (by omega) (by omega)
   simp only []
   rw [decide_eq_false (show ¬ (256 : Int) ≤ (n : Int) by omega)]
   simp only []
   rw [u8_in (by omega)]
   simp only [e]
   refine ⟨0 + v, ?_, by omega, hp⟩
   rw [Af (n := (v : Int)) (by omega), Af (by omega)]
   congr 2
theorem Sp (n : Nat) (hn : n < 4294967296) : ∃ v : Nat, bitsLen ((n : Int), ()) = some ((v : Int), ()) ∧ v ≤ 32 ∧ 2 ^ v ≤ max 1 (2 * n) := by
 rw [Yw, Ld]
 obtain ⟨v, e, h⟩ := ASO n hn
 simp only [e]
 exact ⟨v, rfl, h⟩
theorem SZ (n : Nat) (h1 : 1 ≤ n) (hn : n < 4294967296) : ∃ m : Nat, LI ((n : Int), ()) = some ((m : Int), ()) ∧ 1 ≤ m ∧ m ≤ 2 * n := by
 rw [W8, LH, u64_in (by omega)]
 obtain ⟨v, e, h32, hp⟩ := Sp n hn
 simp only [e]
 have e2 : shl? .u64 (1 : Int) (v : Int) = some ((2 ^ v : Nat) : Int) := by
  rw [AC2, TC, if_neg (by omega), Int.toNat_natCast, show min v (IntKind.bits .u64) = v from Nat.min_eq_left (by show v ≤ 64; omega), Int.one_mul]
  have : 2 ^ v ≤ 2 ^ 32 := Nat.pow_le_pow_right (by omega) h32
  have h1 : 1 ≤ 2 ^ v := Nat.one_le_two_pow
  have e : ((2 : Int) ^ v) = ((2 ^ v : Nat) : Int) := by simp
  rw [e, u64_in (by constructor <;> omega)]
 simp only [e2]
 exact ⟨2 ^ v, rfl, Nat.one_le_two_pow, by omega⟩
theorem Rs (r : Int) : ∃ r' y, xorNext (r, ()) = some (r', y, ()) := by
 rw [UC, Kr, AC2, TC, if_neg (by omega)]
 simp only []
 rw [AK6, VP, if_neg (by omega)]
 simp only []
 rw [AC2, TC, if_neg (by omega)]
 exact ⟨_, _, rfl⟩
theorem AIP (y : Int) (m : Nat) (h1 : 1 ≤ m) (hm : m < 18446744073709551616) : ∃ o : Nat, IntKind.wrap .u64 ((BitVec.ofInt (IntKind.bits .u64) y &&& BitVec.ofInt (IntKind.bits .u64) (IntKind.wrap .u64 ((m : Int) - 1))).toNat) = (o : Int) ∧ o < m := by
 rw [u64_in (n := (m : Int) - 1) (by omega), show (m : Int) - 1 = ((m - 1 : Nat) : Int) by omega, BitVec.toNat_and]
 have h2 : (BitVec.ofInt (IntKind.bits .u64) ((m - 1 : Nat) : Int)).toNat = m - 1 := by
  rw [BitVec.ofInt_natCast, BitVec.toNat_ofNat]
  exact Nat.mod_eq_of_lt (by show m - 1 < 18446744073709551616; omega)
 rw [h2]
 have h3 : (BitVec.ofInt (IntKind.bits .u64) y).toNat &&& (m - 1) ≤ m - 1 := Nat.and_le_right
 exact ⟨_, u64_in (by omega), by omega⟩
end Go.Pev.Pl
end
section
namespace Go.Pev.Pl.SG
open Go.Sort
variable {α : Type} {S : SP α}
theorem AKD (a b : Nat) (m : Nat) (h8 : a + 8 ≤ b) (hm1 : 1 ≤ m) (hm : m ≤ 2 * (b - a)) : ∀ (k t : Nat) (d : Array (EL S)) (r : Int) (n : Nat), t + k = 3 → b ≤ d.size → d.size < 4294967296 → k < n →
  ∃ d' : Array (EL S), AQ (GR S.z S.c) n ((rep d), (a : Int), ((b - a : Nat) : Int), r, (m : Int), ((a + (b - a) / 4 * 2 - 1 + t : Nat) : Int), ()) = some (.inl ((rep d'), ())) ∧ PermIn a b d d' := by
 intro k
 induction k with
 | zero =>
  intro t d r n hk hb hs hn
  obtain ⟨n, rfl⟩ : ∃ k, n = k + 1 := ⟨n - 1, by omega⟩
  rw [AQ, GR]
  simp (disch := omega) only [R3, D1, wrap_add, AL, Br]
  rw [decide_eq_false (by omega)]
  exact ⟨d, rfl, permIn_refl d a b⟩
 | succ k ih =>
  intro t d r n hk hb hs hn
  obtain ⟨n, rfl⟩ : ∃ k, n = k + 1 := ⟨n - 1, by omega⟩
  rw [AQ, GR]
  simp (disch := omega) only [R3, D1, wrap_add, AL, Br]
  rw [decide_eq_true (show a + (b - a) / 4 * 2 - 1 + t ≤ a + (b - a) / 4 * 2 + 1 by omega)]
  obtain ⟨r', y, e⟩ := Rs r
  obtain ⟨o, e2, ho⟩ := AIP y m hm1 (by omega)
  simp only [e, e2]
  rw [Af (n := (o : Int)) (by omega)]
  simp only [Br]
  have i0 : a + (b - a) / 4 * 2 - 1 + t < d.size := by omega
  have fin : ∀ q : Nat, a ≤ q → q < b → ∃ d' : Array (EL S), AQ (GR S.z S.c) n ((rep (swp d (a + (b - a) / 4 * 2 - 1 + t) q)), (a : Int), ((b - a : Nat) : Int), r', (m : Int), ((a + (b - a) / 4 * 2 - 1 + t + 1 : Nat) : Int), ()) = some (.inl ((rep d'), ())) ∧ PermIn a b d d' := by
   intro q hq1 hq2
   obtain ⟨d', e', hp⟩ := ih (t + 1) (swp d (a + (b - a) / 4 * 2 - 1 + t) q) r' n (by omega) (by rw [size_swp]; omega) (by rw [size_swp]; omega) (by omega)
   exact ⟨d', e', permIn_trans _ _ _ a b (swp_permIn d a b _ q (by omega) (by omega) hq1 hq2 hb) hp⟩
  by_cases h : b - a ≤ o
  ·have i1 : a + (o - (b - a)) < d.size := by omega
   simp (disch := omega) only [h, decide_true, BV, wrap_add, AL, Ac i0, Ac i1, (DV i0 i1).1, (DV i0 i1).2]
   exact fin _ (by omega) (by omega)
  ·have i1 : a + o < d.size := by omega
   simp (disch := omega) only [h, decide_false, BV, wrap_add, AL, Ac i0, Ac i1, (DV i0 i1).1, (DV i0 i1).2]
   exact fin _ (by omega) (by omega)
theorem AOa (d : Array (EL S)) (a b : Nat) (hab : a ≤ b) (hb : b ≤ d.size) (hs : d.size < 4294967296) :
  ∃ d' : Array (EL S), (AFb S.z S.c) ((rep d), (a : Int), (b : Int), ()) = some ((rep d'), ()) ∧ PermIn a b d d' := by
 have hm : 4294967296 < many := by simp only [many]; omega
 rw [ATR, OZ]
 simp (disch := omega) only [BV, Aq]
 by_cases h : 8 ≤ b - a
 ·rw [decide_eq_true (show (8 : Int) ≤ ((b - a : Nat) : Int) by omega)]
  obtain ⟨m, e, h1, h2⟩ := SZ (b - a) (by omega) (by omega)
  simp only [e]
  rw [u64_in (n := ((b - a : Nat) : Int)) (by omega)]
  simp (disch := omega) only [R3, D1, wrap_add, Ag, Aj]
  obtain ⟨d', e2, hp⟩ := AKD a b m (by omega) h1 h2 3 0 d ((b - a : Nat) : Int) many rfl hb hs (by omega)
  rw [Nat.add_zero] at e2
  simp only [e2]
  exact ⟨d', rfl, hp⟩
 ·rw [decide_eq_false (show ¬ (8 : Int) ≤ ((b - a : Nat) : Int) by omega)]
  exact ⟨d, rfl, permIn_refl d a b⟩
end Go.Pev.Pl.SG
end
section
namespace Go.Pev.Pl.SG
open Go.Sort
variable {α : Type} {S : SP α}
abbrev AQJ (α : Type) := List α × Int × Int × Int × Bool × Bool × Unit
abbrev GD (α : Type) := AQJ α ⊕ (List α × Unit) ⊕ Unit
def HE (d : Array (EL S)) (a b : Nat) : GD α → Prop
 | .inl (xs, x, y, l, _, _, _) => ∃ (e : Array (EL S)) (i j : Nat), xs = (rep e) ∧ x = (i : Int) ∧ y = (j : Int) ∧ 0 ≤ l ∧ l ≤ 100 ∧ i ≤ j ∧ j ≤ e.size ∧ e.size = d.size ∧ j - i < b - a ∧ Below ltX i j e ∧
   ∀ R, PermIn i j e R → SortedIn ltX i j R → PermIn a b d R ∧ SortedIn ltX a b R
 | .inr (.inl (xs, _)) => ∃ R : Array (EL S), xs = (rep R) ∧ PermIn a b d R ∧ SortedIn ltX a b R
 | .inr (.inr _) => False
def BZ (self : (List α × Int × Int × Int × Unit) → Option ((List α × Unit))) (m : Nat) : Prop :=
 ∀ (d : Array (EL S)) (a b : Nat) (l : Int), a ≤ b → b ≤ d.size → d.size < 4294967296 → 0 ≤ l → l ≤ 100 → Below ltX a b d → 2 * (b - a) < m →
  ∃ R : Array (EL S), self ((rep d), (a : Int), (b : Int), l, ()) = some ((rep R), ()) ∧ PermIn a b d R ∧ SortedIn ltX a b R
section
variable {self : (List α × Int × Int × Int × Unit) → Option ((List α × Unit))} {d : Array (EL S)} {a b : Nat} {l : Int}
theorem Jx (hself : BZ (S := S) self (b - a)) (hb : b ≤ d.size) (hs : d.size < 4294967296) (hl : 0 ≤ l ∧ l ≤ 100)
  {d3 : Array (EL S)} {p : Nat} (P3 : PermIn a b d d3) (B3 : Below ltX a b d3) (hp1 : a ≤ p) (hp2 : p < b) :
  ∃ o, (match (ABB S.z S.c) ((rep d3), (a : Int), (b : Int), (p : Int), ()) with
  | none => none
  | some (y20, y21, y22, _) => match quo? .i64 (IntKind.wrap .i64 ((b : Int) - (a : Int))) (8 : Int) with
   | none => none
   | some x23 => match (ilt (IntKind.wrap .i64 (y21 - (a : Int))) (IntKind.wrap .i64 ((b : Int) - y21))) with
    | true => match self (y20, (a : Int), y21, l, ()) with
     | none => none
     | some (y24, _) => some ((.inl (y24, (IntKind.wrap .i64 (y21 + (1 : Int))), (b : Int), l, (ile x23 (IntKind.wrap .i64 (y21 - (a : Int)))), y22, ())) : GD α)
    | false => match self (y20, (IntKind.wrap .i64 (y21 + (1 : Int))), (b : Int), l, ()) with
     | none => none
     | some (y25, _) => some (.inl (y25, (a : Int), y21, l, (ile x23 (IntKind.wrap .i64 ((b : Int) - y21))), y22, ()))) = some o ∧ HE d a b o := by
 have b3 : b ≤ d3.size := by rw [P3.1]; exact hb
 have s3 : d3.size < 4294967296 := by rw [P3.1]; exact hs
 rw [ARa d3 a b p hp1 hp2 b3 s3]
 rcases hx : partition ltX d3 a b p with ⟨mid, ap, d4⟩
 obtain ⟨g1, g2, hs4, hBa, hBr, hleft, hright⟩ := round_part AUB (partition_holds _) hp1 hp2 b3 B3 hx
 simp (disch := omega) only [BV, AL, AYy, AN]
 have b4 : b ≤ d4.size := by omega
 by_cases h : mid - a < b - mid
 ·obtain ⟨L, e, l1, l2⟩ := hself d4 a mid l g1 (by omega) (by omega) hl.1 hl.2 hBa (by omega)
  simp only [h, decide_true, e]
  obtain ⟨hBL, hfin⟩ := hleft _ l1 l2
  refine ⟨_, rfl, L, mid + 1, b, rfl, rfl, rfl, hl.1, hl.2, by omega, by rw [l1.1]; exact b4, by rw [l1.1, hs4, P3.1], by omega, hBL, fun R r1 r2 => ?_⟩
  obtain ⟨q1, q2⟩ := hfin R r1 r2
  exact ⟨permIn_trans _ _ _ a b P3 q1, q2⟩
 ·obtain ⟨L, e, l1, l2⟩ := hself d4 (mid + 1) b l (by omega) (by omega) (by omega) hl.1 hl.2 hBr (by omega)
  simp only [h, decide_false, e]
  obtain ⟨hBL, hfin⟩ := hright _ l1 l2
  refine ⟨_, rfl, L, a, mid, rfl, rfl, rfl, hl.1, hl.2, by omega, by rw [l1.1]; omega, by rw [l1.1, hs4, P3.1], by omega, hBL, fun R r1 r2 => ?_⟩
  obtain ⟨q1, q2⟩ := hfin R r1 r2
  exact ⟨permIn_trans _ _ _ a b P3 q1, q2⟩
theorem EK (hself : BZ (S := S) self (b - a)) (hb : b ≤ d.size) (hs : d.size < 4294967296) (hl : 0 ≤ l ∧ l ≤ 100)
  {d3 : Array (EL S)} {p : Nat} (wb wp : Bool) (P3 : PermIn a b d d3) (B3 : Below ltX a b d3) (hp1 : a ≤ p) (hp2 : p < b) :
  ∃ o, (P6 S.z S.c) self (rep d3) (a : Int) (b : Int) (p : Int) l wb wp = some o ∧ HE d a b o := by
 have b3 : b ≤ d3.size := by rw [P3.1]; exact hb
 have s3 : d3.size < 4294967296 := by rw [P3.1]; exact hs
 rw [P6, Am]
 by_cases h0 : 0 < a
 ·rw [decide_eq_true (by omega)]
  have i0 : a - 1 < d3.size := by omega
  have i1 : p < d3.size := by omega
  simp (disch := omega) only [Ag, Ac, Al, CB, Cu]
  cases hc : ltX d3[a - 1]! d3[p]!
  ·simp only [Bool.not_false]
   rw [AIO d3 a b p hp1 hp2 b3 s3]
   rcases hx : partitionEqual ltX d3 a b p with ⟨mid, d4⟩
   obtain ⟨hm1, hm2, hs4, hB4, hfin⟩ := round_eq AUB (partitionEqual_holds _) h0 hp1 hp2 b3 B3 hc hx
   refine ⟨_, rfl, d4, mid, b, rfl, rfl, rfl, hl.1, hl.2, by omega, by omega, by rw [hs4, P3.1], by omega, hB4, fun R r1 r2 => ?_⟩
   obtain ⟨q1, q2⟩ := hfin R r1 r2
   exact ⟨permIn_trans _ _ _ a b P3 q1, q2⟩
  ·simp only [Bool.not_true]
   exact Jx hself hb hs hl P3 B3 hp1 hp2
 ·rw [decide_eq_false (by omega)]
  exact Jx hself hb hs hl P3 B3 hp1 hp2
theorem Ng (hself : BZ (S := S) self (b - a)) (hab : a < b) (hb : b ≤ d.size) (hs : d.size < 4294967296) (hl : 0 ≤ l ∧ l ≤ 100)
  {d3 : Array (EL S)} {p : Nat} (h : Int) (wb wp : Bool) (P3 : PermIn a b d d3) (B3 : Below ltX a b d3) (hp1 : a ≤ p) (hp2 : p < b) :
  ∃ o, (ADa S.z S.c) self (rep d3) (a : Int) (b : Int) (p : Int) h l wb wp = some o ∧ HE d a b o := by
 have b3 : b ≤ d3.size := by rw [P3.1]; exact hb
 have s3 : d3.size < 4294967296 := by rw [P3.1]; exact hs
 unfold ADa
 cases wb
 ·exact EK hself hb hs hl _ _ P3 B3 hp1 hp2
 ·cases wp
  ·exact EK hself hb hs hl _ _ P3 B3 hp1 hp2
  ·simp only []
   cases ieq h 1
   ·exact EK hself hb hs hl _ _ P3 B3 hp1 hp2
   ·simp only []
    rw [ADj d3 a b hab b3 s3]
    obtain ⟨q1, q2⟩ := partialInsertionSort_holds (lt := ltX) AUB d3 a b hab b3 B3
    rcases hx : partialInsertionSort ltX d3 a b with ⟨d4, fin⟩
    rw [hx] at q1 q2
    have P4 : PermIn a b d d4 := permIn_trans _ _ _ a b P3 q1
    cases fin
    ·exact EK hself hb hs hl _ _ P4 (B3.perm b3 q1) hp1 hp2
    ·exact ⟨_, rfl, d4, rfl, P4, q2 rfl⟩
theorem Nf (hself : BZ (S := S) self (b - a)) (hab : a + 8 ≤ b) (hb : b ≤ d.size) (hs : d.size < 4294967296) (hl : 0 ≤ l ∧ l ≤ 100)
  {d3 : Array (EL S)} (wb wp : Bool) (P3 : PermIn a b d d3) (B3 : Below ltX a b d3) :
  ∃ o, (ADZ S.z S.c) self (rep d3) (a : Int) (b : Int) l wb wp = some o ∧ HE d a b o := by
 have b3 : b ≤ d3.size := by rw [P3.1]; exact hb
 have s3 : d3.size < 4294967296 := by rw [P3.1]; exact hs
 rw [ADZ]
 obtain ⟨p, h, e, hp1, hp2⟩ := ALy d3 a b hab b3 s3
 simp only [e]
 cases ieq h 2
 ·exact Ng hself (by omega) hb hs hl h _ _ P3 B3 hp1 hp2
 ·simp only [AUW d3 a b (by omega) b3 s3]
  have q1 := reverseRange_holds (α := (EL S)) d3 a b (by omega) b3
  simp (disch := omega) only [Ag, BV]
  exact Ng hself (by omega) hb hs hl 1 _ _ (permIn_trans _ _ _ a b P3 q1) (B3.perm b3 q1) (by omega) (by omega)
theorem P5 (hself : BZ (S := S) self (b - a)) (hab : a ≤ b) (hb : b ≤ d.size) (hs : d.size < 4294967296) (hl : 0 ≤ l ∧ l ≤ 100) (wb wp : Bool) (B : Below ltX a b d) :
  ∃ o, (Nh S.z S.c) self ((rep d), (a : Int), (b : Int), l, wb, wp, ()) = some o ∧ HE d a b o := by
 rw [Nh]
 simp (disch := omega) only [BV, Aq, ES]
 by_cases h12 : b - a ≤ 12
 ·rw [decide_eq_true (show ((b - a : Nat) : Int) ≤ 12 by omega)]
  simp only [AVv d a b hab hb hs]
  obtain ⟨q1, q2⟩ := insertionSort_holds (lt := ltX) AUB d a b hab hb
  exact ⟨_, rfl, _, rfl, q1, q2⟩
 ·rw [decide_eq_false (show ¬ ((b - a : Nat) : Int) ≤ 12 by omega)]
  simp only []
  by_cases h0 : l = 0
  ·subst h0
   simp only [BEq.rfl, ASn d a b (by omega) hb hs]
   obtain ⟨q1, q2⟩ := heapSort_holds (lt := ltX) AUB d a b hab hb
   exact ⟨_, rfl, _, rfl, q1, q2⟩
  ·rw [show (l == 0) = false by simpa using h0]
   simp only []
   cases wb
   ·obtain ⟨d', e, q1⟩ := AOa d a b hab hb hs
    simp only [Bool.not_false, e]
    rw [Af (by omega)]
    exact Nf hself (by omega) hb hs (by omega) _ _ q1 (B.perm hb q1)
   ·simp only [Bool.not_true]
    exact Nf hself (by omega) hb hs hl _ _ (permIn_refl d a b) B
end
theorem Jy {self : (List α × Int × Int × Int × Unit) → Option ((List α × Unit))} {m : Nat} (hself : BZ (S := S) self m) : ∀ (k : Nat) (d : Array (EL S)) (a b : Nat) (l : Int) (wb wp : Bool) (n : Nat), b - a = k → k ≤ m → a ≤ b → b ≤ d.size → d.size < 4294967296 → 0 ≤ l → l ≤ 100 → Below ltX a b d → k < n →
  ∃ R : Array (EL S), AQ ((Nh S.z S.c) self) n ((rep d), (a : Int), (b : Int), l, wb, wp, ()) = some (.inl ((rep R), ())) ∧ PermIn a b d R ∧ SortedIn ltX a b R := by
 intro k
 induction k using Nat.strongRecOn with
 | _ k ih =>
 intro d a b l wb wp n hk hm hab hb hs hl1 hl2 B hn
 obtain ⟨n, rfl⟩ : ∃ k, n = k + 1 := ⟨n - 1, by omega⟩
 have hself' : BZ (S := S) self (b - a) := fun d a' b' l h1 h2 h3 h4 h5 h6 h7 => hself d a' b' l h1 h2 h3 h4 h5 h6 (by omega)
 obtain ⟨o, e, ho⟩ := P5 hself' hab hb hs ⟨hl1, hl2⟩ wb wp B
 rw [AQ, e]
 match o, ho with
 | .inl (xs, x, y, l', wb', wp', _), ho =>
  obtain ⟨e', i, j, rfl, rfl, rfl, g1, g2, g3, g4, g5, g6, g7, hfin⟩ := ho
  obtain ⟨R, e2, r1, r2⟩ := ih (j - i) (by omega) e' i j l' wb' wp' n rfl (by omega) g3 g4 (by omega) g1 g2 g7 (by omega)
  exact ⟨R, e2, hfin R r1 r2⟩
 | .inr (.inl (xs, _)), ho =>
  obtain ⟨R, rfl, r1, r2⟩ := ho
  exact ⟨R, rfl, r1, r2⟩
theorem ABA : ∀ k : Nat, BZ (S := S) ((Jz S.z S.c) (k + 1)) (2 ^ k) := by
 intro k
 have hmany : 4294967296 < many := by simp only [many]; omega
 induction k with
 | zero =>
  intro d a b l h1 h2 h3 h4 h5 h6 h7
  have : BZ (S := S) ((Jz S.z S.c) 0) 0 := fun _ _ _ _ _ _ _ _ _ _ h => by omega
  obtain ⟨R, e, r1, r2⟩ := Jy this (b - a) d a b l true true many rfl (by omega) h1 h2 h3 h4 h5 h6 (by omega)
  refine ⟨R, ?_, r1, r2⟩
  rw [Jz, ADb]
  simp only [Aj, e]
 | succ k ih =>
  intro d a b l h1 h2 h3 h4 h5 h6 h7
  have hp : 2 ^ (k + 1) = 2 * 2 ^ k := by rw [Nat.pow_succ]; omega
  obtain ⟨R, e, r1, r2⟩ := Jy ih (b - a) d a b l true true many rfl (by omega) h1 h2 h3 h4 h5 h6 (by omega)
  refine ⟨R, ?_, r1, r2⟩
  rw [Jz, ADb]
  simp only [Aj, e]
theorem VO {α : Type} (S : SP α) (xs : List α) (h : xs.length < 4294967296) (hok : ∀ x ∈ xs, S.ok x) : ∃ ys, (AUF S.z S.c) (xs, ()) = some (ys, ()) ∧ ys.Perm xs ∧ ys.Pairwise fun x y => S.lt y x = false := by
 obtain ⟨d, rfl⟩ : ∃ d : Array (EL S), xs = rep d := by
  refine ⟨(xs.attach.map fun x => ⟨x.val, hok x.val x.property⟩).toArray, ?_⟩
  simp only [rep, List.map_map]
  exact (List.attach_map_subtype_val xs).symm
 have hl : (rep d).length = d.size := by simp [rep]
 rw [hl] at h
 rw [AUE, Ti]
 rw [AP9, u64_in (by omega)]
 obtain ⟨v, e, hv, _⟩ := Sp d.size h
 simp only [e]
 obtain ⟨R, e2, r1, r2⟩ := ABA 99 d 0 d.size (v : Int) (by omega) (by omega) h (by omega) (by omega) (.inl rfl) (by
  have : 2 ^ 99 = 633825300114114700748351602688 := by decide
  omega)
 have e3 : (AXj S.z S.c) (rep d, (0 : Int), (d.size : Int), (v : Int), ()) = some (rep R, ()) := by rw [AXi]; exact e2
 refine ⟨rep R, by simp only [e3], ?_, ?_⟩
 ·obtain ⟨hsz, _, hp⟩ := r1
  have e1 : R.extract 0 d.size = R := by rw [← hsz]; exact Array.extract_size
  rw [e1, Array.extract_size] at hp
  exact hp.map _
 ·rw [rep, List.pairwise_map, List.pairwise_iff_getElem]
  intro i j hi hj hij
  have hi' : i < R.size := by simpa using hi
  have hj' : j < R.size := by simpa using hj
  have := r2 i j (Nat.zero_le _) hij (by rw [← r1.1]; omega)
  rw [getElem!_pos R j hj', getElem!_pos R i hi'] at this
  simpa [ltX] using this
end Go.Pev.Pl.SG
end
section
namespace Go.Pev.Pl.SL
open Go.Sort
def ok (l : List Int) : Prop := l ≠ []
def okz : List Int := [0]
theorem W6 : ok okz := by simp [ok, okz]
def lt (x y : List Int) : Bool := ltInt (x.headD 0) (y.headD 0)
theorem swo : SWO lt := ⟨fun x => swo_ltInt.irrefl _, fun x y z => swo_ltInt.trans _ _ _, fun x y z => swo_ltInt.ntrans _ _ _⟩
theorem AFL {x y : List Int} (hx : ok x) (hy : ok y) : ∃ c, BC (x, y, ()) = some (c, ()) ∧ ilt c (0 : Int) = lt x y := by
 cases x with
 | nil => exact absurd rfl hx
 | cons a x =>
  cases y with
  | nil => exact absurd rfl hy
  | cons b y =>
   rw [AF9, Td]
   have i1 : idx (a :: x) (0 : Int) = some a := by rw [idx_eq]; rfl
   have i2 : idx (b :: y) (0 : Int) = some b := by rw [idx_eq]; rfl
   simp only [i1, i2, Ka, G6, Ts, QM]
   simp only [ES, Am, lt, List.headD_cons, ltInt]
   by_cases h : a < b
   ·simp [h]
   ·by_cases h2 : b < a
    ·simp [h, h2]
    ·simp [h, h2]
noncomputable def S : SG.SP (List Int) := ⟨([] : List (Int)), BC, ok, okz, W6, lt, swo, fun h1 h2 => AFL h1 h2⟩
theorem VO (xs : List (List Int)) (h : xs.length < 4294967296) (hok : ∀ x ∈ xs, ok x) : ∃ ys, AGf (xs, ()) = some (ys, ()) ∧ ys.Perm xs ∧ ys.Pairwise fun x y => lt y x = false := SG.VO S xs h hok
end Go.Pev.Pl.SL
end
end
