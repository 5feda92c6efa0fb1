/- A part of the proofs of this seat: G24eP4 G24eP5 G24eP6 G24eP7 G24eP8 G24eP9 G24eP10 G24eP11 G24eP. -/
import Derived.Test.YtaamkoofmojajaaGreatP2f13cc8cd4
set_option linter.unusedVariables false
set_option linter.unusedSimpArgs false
set_option linter.unusedSectionVars false
section
namespace Go.Pev
open Go.Proofs
set_option maxRecDepth 100000
noncomputable section
abbrev PC : Hints := { loop := fun n => match n with | 0 => Ac 1 60 ALe ALc ALa | 1 => Ac 1 60 ALd ALb ALY | _ => fun _ _ _ => none, fp := fun n => match n with | 10 => [[], [], [], [], [], [], [], [], [], [], [0], [0], [], [], [0], [0], [0], [1], [0], [1]] | _ => [] }
theorem ALX : ∀ v, ALY v = roundOf Tryz.prog Pr PC 2 1 60 (AB Tryz.f208 1) ALd ALb v := by
 rintro ⟨a0, a1, a2, a3, ⟨⟩⟩
 kernel_rfl
theorem AYw : AD (AB Tryz.f208 1) 2 = [] := by kernel_rfl
theorem AYy : Aa Tryz.prog 1 (.loop (AB Tryz.f208 1)) (PC.loop 1) := AW Jg (ALX) (AA AYw trivial)
theorem ALZ : ∀ v, ALa v = roundOf Tryz.prog Pr PC 1 1 60 (AB Tryz.f208 0) ALe ALc v := by
 rintro ⟨a0, a1, a2, a3, a4, ⟨⟩⟩
 kernel_rfl
theorem AYx : AD (AB Tryz.f208 0) 1 = [] := by kernel_rfl
theorem AYz : Aa Tryz.prog 1 (.loop (AB Tryz.f208 0)) (PC.loop 0) := AW Jg (ALZ) (AA AYx trivial)
theorem AVQ : ∀ v, ASU v = AP Tryz.prog Pr PC Tryz.f208 AG4 AG3 AG2 v := by
 rintro ⟨a0, a1, a2, ⟨⟩⟩
 kernel_rfl
theorem AbD : AD (AU Tryz.f208) 0 = [(0, AB Tryz.f208 0), (1, AB Tryz.f208 1)] := by kernel_rfl
theorem AQI : AQ Tryz.prog 208 (AF 4 AG4 AG3 AG2 AY1) := AI Jg Tryz.func208 (by kernel_rfl) (by kernel_rfl) rfl (fun v => (AY0 v).trans (AVQ v)) (AA AbD ⟨AYz, AYy, trivial⟩)
def WJ : Env := Pr.GF 208 3 204 (AF 4 AG4 AG3 AG2 AY1)
theorem Nz : Ab Tryz.prog WJ := Env.Bg Jg AQI (AH rfl rfl)
abbrev AAZ : Hints := { loop := fun n => match n with | 0 => Ac 1 67 ADw ADv ADu | _ => fun _ _ _ => none, fp := fun n => match n with | 10 => [[], [], [], [], [], [], [], [], [], [], [0], [0], [], [], [0], [0], [0], [1], [0], [1]] | _ => [] }
theorem AHo : ∀ v, ADu v = roundOf Tryz.prog WJ AAZ 1 1 67 (AB Tryz.f209 0) ADw ADv v := by
 rintro ⟨a0, a1, a2, a3, a4, a5, ⟨⟩⟩
 kernel_rfl
theorem AV9 : AD (AB Tryz.f209 0) 1 = [] := by kernel_rfl
theorem AWA : Aa Tryz.prog 1 (.loop (AB Tryz.f209 0)) (AAZ.loop 0) := AW Nz (AHo) (AA AV9 trivial)
theorem AQ9 : ∀ v, AMb v = AP Tryz.prog WJ AAZ Tryz.f209 AAY AAX AAW v := by
 rintro ⟨a0, a1, a2, ⟨⟩⟩
 kernel_rfl
theorem AZf : AD (AU Tryz.f209) 0 = [(0, AB Tryz.f209 0)] := by kernel_rfl
theorem AMa : AQ Tryz.prog 209 (AF 4 AAY AAX AAW ARA) := AI Nz Tryz.func209 (by kernel_rfl) (by kernel_rfl) rfl (fun v => (AWB v).trans (AQ9 v)) (AA AZf ⟨AWA, trivial⟩)
def ABA : Env := WJ.GF 209 3 204 (AF 4 AAY AAX AAW ARA)
theorem VA : Ab Tryz.prog ABA := Env.Bg Nz AMa (AH rfl rfl)
abbrev AUK : Hints := { fp := fun n => match n with | 1 => [[], [], [], [0], [0], [], [], [0], [0], [], []] | _ => [] }
theorem AKt : ∀ v, ADG v = AP Tryz.prog ABA AUK Tryz.f218 RP RO RN v := by
 rintro ⟨a0, a1, a2, a3, ⟨⟩⟩
 kernel_rfl
theorem AUJ : AD (AU Tryz.f218) 0 = [] := by kernel_rfl
theorem AF6 : AQ Tryz.prog 218 (AF 5 RP RO RN AF7) := AI VA Tryz.func218 (by kernel_rfl) (by kernel_rfl) rfl (fun v => (AOx v).trans (AKt v)) (AA AUJ trivial)
def S0 : Env := ABA.GF 218 4 204 (AF 5 RP RO RN AF7)
theorem Py : Ab Tryz.prog S0 := Env.Bg VA AF6 (AH rfl rfl)
abbrev AUe : Hints := {  }
theorem AK1 : ∀ v, ADJ v = AP Tryz.prog S0 AUe Tryz.f217 Rd Rc Rb v := by
 rintro ⟨a0, a1, a2, a3, a4, ⟨⟩⟩
 kernel_rfl
theorem AUd : AD (AU Tryz.f217) 0 = [] := by kernel_rfl
theorem AGI : AQ Tryz.prog 217 (AF 6 Rd Rc Rb AGJ) := AI Py Tryz.func217 (by kernel_rfl) (by kernel_rfl) rfl (fun v => (APP v).trans (AK1 v)) (AA AUd trivial)
def S3 : Env := S0.GF 217 5 204 (AF 6 Rd Rc Rb AGJ)
theorem P2 : Ab Tryz.prog S3 := Env.Bg Py AGI (AH rfl rfl)
abbrev AUi : Hints := {  }
theorem AK3 : ∀ v, ADK v = AP Tryz.prog S3 AUi Tryz.f216 Rj Ri Rh v := by
 rintro ⟨a0, a1, a2, ⟨⟩⟩
 kernel_rfl
theorem AUh : AD (AU Tryz.f216) 0 = [] := by kernel_rfl
theorem AGL : AQ Tryz.prog 216 (AF 4 Rj Ri Rh AGM) := AI P2 Tryz.func216 (by kernel_rfl) (by kernel_rfl) rfl (fun v => (APR v).trans (AK3 v)) (AA AUh trivial)
def S5 : Env := S3.GF 216 3 204 (AF 4 Rj Ri Rh AGM)
theorem P6 : Ab Tryz.prog S5 := Env.Bg P2 AGL (AH rfl rfl)
abbrev AXY : Hints := {  }
theorem AOQ : ∀ v, AJj v = AP Tryz.prog S5 AXY Tryz.f210 X0 Xz Xy v := by
 rintro ⟨a0, a1, a2, ⟨⟩⟩
 kernel_rfl
theorem AXX : AD (AU Tryz.f210) 0 = [] := by kernel_rfl
theorem AJi : AQ Tryz.prog 210 (AF 4 X0 Xz Xy AOR) := AI P6 Tryz.func210 (by kernel_rfl) (by kernel_rfl) rfl (fun v => (AT4 v).trans (AOQ v)) (AA AXX trivial)
def Pw : Env := S5.GF 210 3 204 (AF 4 X0 Xz Xy AOR)
theorem LC : Ab Tryz.prog Pw := Env.Bg P6 AJi (AH rfl rfl)
abbrev ANz : Hints := { loop := fun n => match n with | 0 => Ac 1 34 ARm ARl ARk | _ => fun _ _ _ => none, fp := fun n => match n with | 3 => [[], [], [], [], [], [], [0], [0], [], [], [0], [0], [0], [1], [0], [1]] | _ => [] }
theorem ANv : ∀ v, ARk v = roundOf Tryz.prog Pw ANz 1 1 34 (AB Tryz.f211 0) ARm ARl v := by
 rintro ⟨a0, a1, a2, ⟨⟩⟩
 kernel_rfl
theorem AaL : AD (AB Tryz.f211 0) 1 = [] := by kernel_rfl
theorem AaM : Aa Tryz.prog 1 (.loop (AB Tryz.f211 0)) (ANz.loop 0) := AW LC (ANv) (AA AaL trivial)
theorem AXI : ∀ v, AXJ v = AP Tryz.prog Pw ANz Tryz.f211 ANy ANx ANw v := by
 rintro ⟨a0, a1, a2, ⟨⟩⟩
 kernel_rfl
theorem Abz : AD (AU Tryz.f211) 0 = [(0, AB Tryz.f211 0)] := by kernel_rfl
theorem ATp : AQ Tryz.prog 211 (AF 4 ANy ANx ANw Ab0) := AI LC Tryz.func211 (by kernel_rfl) (by kernel_rfl) rfl (fun v => (AaN v).trans (AXI v)) (AA Abz ⟨AaM, trivial⟩)
def Nv : Env := Pw.GF 211 3 204 (AF 4 ANy ANx ANw Ab0)
theorem Gl : Ab Tryz.prog Nv := Env.Bg LC ATp (AH rfl rfl)
abbrev CV : Hints := { loop := fun n => match n with | 0 => Ac 1 141 Th Td TZ | 1 => Ac 1 141 Tg Tc TY | 2 => Ac 1 141 Tf Tb TX | 3 => Ac 1 141 Te Ta TW | _ => fun _ _ _ => none, fp := fun n => match n with | 11 => [[], [], [], [], [], [], [], [], [0], [0], [], [], [0], [0], [0], [1], [0], [1]] | 5 => [[], [], [], [], [], [], [], [0], [0], [], [], [], [0], [0], [], [], [], []] | 17 => [[], [], [], [], [], [], [], [], [0], [0], [], [], [0], [0], [0], [1], [0], [1]] | 16 => [[], [], [], [0], [0], [], [], [], [0], [0], [], [], []] | 23 => [[], [], [], [], [], [], [], [], [0], [0], [], [], [0], [0], [0], [1], [0], [1]] | 22 => [[], [], [], [0], [0], [], [], [], [0], [0], [], [], []] | _ => [] }
theorem YB : ∀ v, TW v = roundOf Tryz.prog Nv CV 4 1 141 (AB Tryz.f212 3) Te Ta v := by
 rintro ⟨a0, a1, a2, a3, a4, a5, ⟨⟩⟩
 kernel_rfl
theorem AJ8 : AD (AB Tryz.f212 3) 4 = [] := by kernel_rfl
theorem AKC : Aa Tryz.prog 1 (.loop (AB Tryz.f212 3)) (CV.loop 3) := AW Gl (YB) (AA AJ8 trivial)
theorem YC : ∀ v, TX v = roundOf Tryz.prog Nv CV 3 1 141 (AB Tryz.f212 2) Tf Tb v := by
 rintro ⟨a0, a1, a2, a3, a4, a5, ⟨⟩⟩
 kernel_rfl
theorem AJ9 : AD (AB Tryz.f212 2) 3 = [] := by kernel_rfl
theorem AKD : Aa Tryz.prog 1 (.loop (AB Tryz.f212 2)) (CV.loop 2) := AW Gl (YC) (AA AJ9 trivial)
theorem YD : ∀ v, TY v = roundOf Tryz.prog Nv CV 2 1 141 (AB Tryz.f212 1) Tg Tc v := by
 rintro ⟨a0, a1, a2, a3, a4, ⟨⟩⟩
 kernel_rfl
theorem AKA : AD (AB Tryz.f212 1) 2 = [] := by kernel_rfl
theorem AKE : Aa Tryz.prog 1 (.loop (AB Tryz.f212 1)) (CV.loop 1) := AW Gl (YD) (AA AKA trivial)
theorem YE : ∀ v, TZ v = roundOf Tryz.prog Nv CV 1 1 141 (AB Tryz.f212 0) Th Td v := by
 rintro ⟨a0, a1, a2, a3, a4, ⟨⟩⟩
 kernel_rfl
theorem AKB : AD (AB Tryz.f212 0) 1 = [(1, AB Tryz.f212 1), (2, AB Tryz.f212 2), (3, AB Tryz.f212 3)] := by kernel_rfl
theorem AKF : Aa Tryz.prog 1 (.loop (AB Tryz.f212 0)) (CV.loop 0) := AW Gl (YE) (AA AKB ⟨AKE, AKD, AKC, trivial⟩)
theorem AFu : ∀ v, YF v = AP Tryz.prog Nv CV Tryz.f212 M4 M3 M0 v := by
 rintro ⟨a0, a1, a2, ⟨⟩⟩
 kernel_rfl
theorem AOd : AD (AU Tryz.f212) 0 = [(0, AB Tryz.f212 0)] := by kernel_rfl
theorem ABY : AQ Tryz.prog 212 (AF 4 M4 M3 M0 YG) := AI Gl Tryz.func212 (by kernel_rfl) (by kernel_rfl) rfl (fun v => (AKG v).trans (AFu v)) (AA AOd ⟨AKF, trivial⟩)
def FV : Env := Nv.GF 212 3 204 (AF 4 M4 M3 M0 YG)
theorem Dk : Ab Tryz.prog FV := Env.Bg Gl ABY (AH rfl rfl)
abbrev E0 : Hints := { loop := fun n => match n with | 0 => Ac 1 90 YT YQ YN | 1 => Ac 1 90 YS YP YM | 2 => Ac 1 90 YR YO YL | _ => fun _ _ _ => none, fp := fun n => match n with | 8 => [[], [], [], [], [], [], [0], [0], [], [], [0], [0], [0], [1], [0], [1]] | 3 => [[], [], [], [], [], [], [], [0], [0], [], [], [0], [0], [], [], [], []] | 5 => [[], [], [], [], [], [], [], [0], [0], [], [], [0], [0], [], [], []] | 1 => [[], [], [], [], [], [], [0], [0], [], [], [0], [0], [0], [1], [0], [1]] | _ => [] }
theorem ABg : ∀ v, YL v = roundOf Tryz.prog FV E0 3 1 90 (AB Tryz.f213 2) YR YO v := by
 rintro ⟨a0, a1, a2, a3, ⟨⟩⟩
 kernel_rfl
theorem AOi : AD (AB Tryz.f213 2) 3 = [] := by kernel_rfl
theorem AOl : Aa Tryz.prog 1 (.loop (AB Tryz.f213 2)) (E0.loop 2) := AW Dk (ABg) (AA AOi trivial)
theorem ABh : ∀ v, YM v = roundOf Tryz.prog FV E0 2 1 90 (AB Tryz.f213 1) YS YP v := by
 rintro ⟨a0, a1, a2, a3, ⟨⟩⟩
 kernel_rfl
theorem AOj : AD (AB Tryz.f213 1) 2 = [] := by kernel_rfl
theorem AOm : Aa Tryz.prog 1 (.loop (AB Tryz.f213 1)) (E0.loop 1) := AW Dk (ABh) (AA AOj trivial)
theorem ABi : ∀ v, YN v = roundOf Tryz.prog FV E0 1 1 90 (AB Tryz.f213 0) YT YQ v := by
 rintro ⟨a0, a1, a2, a3, ⟨⟩⟩
 kernel_rfl
theorem AOk : AD (AB Tryz.f213 0) 1 = [(1, AB Tryz.f213 1), (2, AB Tryz.f213 2)] := by kernel_rfl
theorem AOn : Aa Tryz.prog 1 (.loop (AB Tryz.f213 0)) (E0.loop 0) := AW Dk (ABi) (AA AOk ⟨AOm, AOl, trivial⟩)
theorem AKo : ∀ v, ADD v = AP Tryz.prog FV E0 Tryz.f213 RJ RI RH v := by
 rintro ⟨a0, a1, a2, a3, ⟨⟩⟩
 kernel_rfl
theorem AUF : AD (AU Tryz.f213) 0 = [(0, AB Tryz.f213 0)] := by kernel_rfl
theorem AF1 : AQ Tryz.prog 213 (AF 5 RJ RI RH AF2) := AI Dk Tryz.func213 (by kernel_rfl) (by kernel_rfl) rfl (fun v => (AOo v).trans (AKo v)) (AA AUF ⟨AOn, trivial⟩)
def EP : Env := FV.GF 213 4 204 (AF 5 RJ RI RH AF2)
theorem Cf : Ab Tryz.prog EP := Env.Bg Dk AF1 (AH rfl rfl)
abbrev EX : Hints := { loop := fun n => match n with | 0 => Ac 1 178 AJ7 AJ2 AJx | 1 => Ac 1 178 AJ6 AJ1 AJv | 2 => Ac 1 178 AJ5 AJ0 AJt | 3 => Ac 1 178 AJ4 AJz AJr | 4 => Ac 1 178 AJ3 AJy AJp | _ => fun _ _ _ => none, fp := fun n => match n with | 3 => [[], [], [], [], [], [], [], [0], [0], [], [], [0], [0], [], [], []] | 5 => [[], [], [], [], [], [], [], [0], [0], [], [], [0], [0], [], [], [], []] | 18 => [[], [], [], [], [], [], [0], [0], [], [], [0], [0], [0], [1], [0], [1]] | 13 => [[], [], [], [], [], [], [], [0], [0], [], [], [0], [0], [], [], []] | 15 => [[], [], [], [], [], [], [], [0], [0], [], [], [0], [0], [], [], [], []] | 21 => [[], [], [], [], [], [], [0], [0], [], [], [0], [0], [0], [1], [0], [1]] | 10 => [[], [], [], [], [], [], [0], [0], [], [], [0], [0], [0], [1], [0], [1]] | 8 => [[], [], [], [], [], [], [0], [0], [], [], [0], [0], [0], [1], [0], [1]] | 1 => [[], [], [], [], [], [], [0], [0], [], [], [0], [0], [0], [1], [0], [1]] | _ => [] }
theorem AJo : ∀ v, AJp v = roundOf Tryz.prog EP EX 5 1 178 (AB Tryz.f214 4) AJ3 AJy v := by
 rintro ⟨a0, a1, a2, a3, ⟨⟩⟩
 kernel_rfl
theorem AXg : AD (AB Tryz.f214 4) 5 = [] := by kernel_rfl
theorem AXl : Aa Tryz.prog 1 (.loop (AB Tryz.f214 4)) (EX.loop 4) := AW Cf (AJo) (AA AXg trivial)
theorem AJq : ∀ v, AJr v = roundOf Tryz.prog EP EX 4 1 178 (AB Tryz.f214 3) AJ4 AJz v := by
 rintro ⟨a0, a1, a2, a3, ⟨⟩⟩
 kernel_rfl
theorem AXh : AD (AB Tryz.f214 3) 4 = [] := by kernel_rfl
theorem AXm : Aa Tryz.prog 1 (.loop (AB Tryz.f214 3)) (EX.loop 3) := AW Cf (AJq) (AA AXh trivial)
theorem AJs : ∀ v, AJt v = roundOf Tryz.prog EP EX 3 1 178 (AB Tryz.f214 2) AJ5 AJ0 v := by
 rintro ⟨a0, a1, a2, a3, ⟨⟩⟩
 kernel_rfl
theorem AXi : AD (AB Tryz.f214 2) 3 = [(3, AB Tryz.f214 3), (4, AB Tryz.f214 4)] := by kernel_rfl
theorem AXn : Aa Tryz.prog 1 (.loop (AB Tryz.f214 2)) (EX.loop 2) := AW Cf (AJs) (AA AXi ⟨AXm, AXl, trivial⟩)
theorem AJu : ∀ v, AJv v = roundOf Tryz.prog EP EX 2 1 178 (AB Tryz.f214 1) AJ6 AJ1 v := by
 rintro ⟨a0, a1, a2, a3, ⟨⟩⟩
 kernel_rfl
theorem AXj : AD (AB Tryz.f214 1) 2 = [] := by kernel_rfl
theorem AXo : Aa Tryz.prog 1 (.loop (AB Tryz.f214 1)) (EX.loop 1) := AW Cf (AJu) (AA AXj trivial)
theorem AJw : ∀ v, AJx v = roundOf Tryz.prog EP EX 1 1 178 (AB Tryz.f214 0) AJ7 AJ2 v := by
 rintro ⟨a0, a1, a2, a3, ⟨⟩⟩
 kernel_rfl
theorem AXk : AD (AB Tryz.f214 0) 1 = [] := by kernel_rfl
theorem AXp : Aa Tryz.prog 1 (.loop (AB Tryz.f214 0)) (EX.loop 0) := AW Cf (AJw) (AA AXk trivial)
theorem AUB : ∀ v, ARx v = AP Tryz.prog EP EX Tryz.f214 AFt AFs AFr v := by
 rintro ⟨a0, a1, a2, a3, ⟨⟩⟩
 kernel_rfl
theorem Aad : AD (AU Tryz.f214) 0 = [(0, AB Tryz.f214 0), (1, AB Tryz.f214 1), (2, AB Tryz.f214 2)] := by kernel_rfl
theorem AOc : AQ Tryz.prog 214 (AF 5 AFt AFs AFr AXr) := AI Cf Tryz.func214 (by kernel_rfl) (by kernel_rfl) rfl (fun v => (AXq v).trans (AUB v)) (AA Aad ⟨AXp, AXo, AXn, trivial⟩)
def AID : Env := EP.GF 214 4 204 (AF 5 AFt AFs AFr AXr)
theorem AAz : Ab Tryz.prog AID := Env.Bg Cf AOc (AH rfl rfl)
abbrev AOX (self : (List (List Int) × Int × Int × Int × Unit) → Option ((List (List Int) × Unit))) : Hints := { loop := fun n => match n with | 0 => Ac 1 148 ARt ARs (ARr self) | _ => fun _ _ _ => none, fp := fun n => match n with | 17 => [[], [], [], [], [], [], [], [0], [0], [], [], [0], [0], [], [], [], []] | _ => [] }
abbrev AFj (self : (List (List Int) × Int × Int × Int × Unit) → Option ((List (List Int) × Unit))) : Env := AID.ext 206 false true (AF 5 X6 X5 X4 self)
theorem AOW (self : (List (List Int) × Int × Int × Int × Unit) → Option ((List (List Int) × Unit))) : ∀ v, ARr self v = roundOf Tryz.prog (AFj self) (AOX self) 1 1 148 (AB Tryz.f206 0) ARt ARs v := by
 rintro ⟨a0, a1, a2, a3, a4, a5, ⟨⟩⟩
 kernel_rfl
theorem AaV : AD (AB Tryz.f206 0) 1 = [] := by kernel_rfl
theorem AaW (self : (List (List Int) × Int × Int × Int × Unit) → Option ((List (List Int) × Unit))) (hE : Ab Tryz.prog (AFj self)) : Aa Tryz.prog 1 (.loop (AB Tryz.f206 0)) ((AOX self).loop 0) := AW hE (AOW self) (AA AaV trivial)
theorem AXc (self : (List (List Int) × Int × Int × Int × Unit) → Option ((List (List Int) × Unit))) : ∀ v, Ab5 self v = AP Tryz.prog (AFj self) (AOX self) Tryz.f206 X6 X5 X4 v := by
 rintro ⟨a0, a1, a2, a3, ⟨⟩⟩
 kernel_rfl
theorem Ab4 : AD (AU Tryz.f206) 0 = [(0, AB Tryz.f206 0)] := by kernel_rfl
theorem AOY : ∀ n, AQ Tryz.prog 206 (AF 5 X6 X5 X4 (X7 n)) := by
 intro n
 induction n with
 | zero => exact Tv fun _ => rfl
 | succ n ih =>
  have hE : Ab Tryz.prog (AFj (X7 n)) := Env.AZ AAz ih ((by simp)) (fun _ => AH rfl rfl)
  let self := X7 n
  exact AI hE Tryz.func206 (by kernel_rfl) (by kernel_rfl) rfl (AXc self) (AA Ab4 ⟨(AaW self hE), trivial⟩)
theorem AT8 : AQ Tryz.prog 206 (AF 5 X6 X5 X4 AaY) := by
 have e : AaY = X7 100 := funext AaX
 rw [e]
 exact AOY _
def ARS : Env := AID.GF 206 4 204 (AF 5 X6 X5 X4 AaY)
theorem AD7 : Ab Tryz.prog ARS := Env.Bg AAz AT8 (AH rfl rfl)
abbrev AaB : Hints := {  }
theorem ATW : ∀ v, ARh v = AP Tryz.prog ARS AaB Tryz.f203 AEy AEx AEw v := by
 rintro ⟨a0, ⟨⟩⟩
 kernel_rfl
theorem AaA : AD (AU Tryz.f203) 0 = [] := by kernel_rfl
theorem ANR : AQ Tryz.prog 203 (AF 2 AEy AEx AEw AI0) := AI AD7 Tryz.func203 (by kernel_rfl) (by kernel_rfl) rfl (fun v => (AWy v).trans (ATW v)) (AA AaA trivial)
def Pq : Env := ARS.GF 203 1 204 (AF 2 AEy AEx AEw AI0)
theorem Jf : Ab Tryz.prog Pq := Env.Bg AD7 ANR (AH rfl rfl)
end
end Go.Pev
end
section
namespace Go.Pev
open Go.Proofs
set_option maxRecDepth 100000
noncomputable section
abbrev N8 : Hints := { loop := fun n => match n with | 0 => Ac 0 47 AIa AIY Gp | 1 => Ac 0 47 AIZ AIX Gn | _ => fun _ _ _ => none }
theorem AIV : ∀ v, Gn v = roundOf Tryz.prog Pq N8 2 0 47 (AB Tryz.f188 1) AIZ AIX v := by
 rintro ⟨a0, a1, a2, a3, a4, a5, a6, ⟨⟩⟩
 kernel_rfl
theorem AWR : AD (AB Tryz.f188 1) 2 = [] := by kernel_rfl
theorem AWT : Aa Tryz.prog 0 (.loop (AB Tryz.f188 1)) (N8.loop 1) := AW Jf (AIV) (AA AWR trivial)
theorem AIW : ∀ v, Gp v = roundOf Tryz.prog Pq N8 1 0 47 (AB Tryz.f188 0) AIa AIY v := by
 rintro ⟨a0, a1, a2, a3, a4, a5, a6, a7, a8, ⟨⟩⟩
 kernel_rfl
theorem AWS : AD (AB Tryz.f188 0) 1 = [] := by kernel_rfl
theorem AWU : Aa Tryz.prog 0 (.loop (AB Tryz.f188 0)) (N8.loop 0) := AW Jf (AIW) (AA AWS trivial)
theorem AS3 : ∀ v, Va v = AP Tryz.prog Pq N8 Tryz.f188 AEQ AEP AEO v := by
 rintro ⟨a0, a1, a2, ⟨⟩⟩
 kernel_rfl
theorem AZx : AD (AU Tryz.f188) 0 = [(0, AB Tryz.f188 0), (1, AB Tryz.f188 1)] := by kernel_rfl
theorem AMx : AQ Tryz.prog 188 (AF 3 AEQ AEP AEO AIc) := AI Jf Tryz.func188 (by kernel_rfl) (by kernel_rfl) rfl (fun v => (AIb v).trans (AS3 v)) (AA AZx ⟨AWU, AWT, trivial⟩)
def AH8 : Env := Pq.ext 188 true true (AF 3 AEQ AEP AEO AIc)
theorem AAn : Ab Tryz.prog AH8 := Env.AZ Jf AMx (fun _ => AJ rfl rfl) (fun _ => AH rfl rfl)
abbrev AZ8 : Hints := { fp := fun n => match n with | 9 => [[], [28], [0], [0], [], [], [], [], [], [0], [0], [], [], [], [], [], [28], [28, 52, 36, 62], [64], []] | 4 => [[0], [], [], [0], [], [], [], []] | _ => [] }
theorem ATP : ∀ v, GP v = AP Tryz.prog AH8 AZ8 Tryz.f161 AEp AEo AEn v := by
 rintro ⟨a0, a1, a2, ⟨⟩⟩
 kernel_rfl
theorem AZ7 : AD (AU Tryz.f161) 0 = [] := by kernel_rfl
theorem AND : AQ Tryz.prog 161 (AF 3 AEp AEo AEn J8) := AI AAn Tryz.func161 (by kernel_rfl) (by kernel_rfl) rfl (fun v => (Gw v).trans (ATP v)) (AA AZ7 trivial)
def AH9 : Env := AH8.ext 161 true true (AF 3 AEp AEo AEn J8)
theorem AAr : Ab Tryz.prog AH9 := Env.AZ AAn AND (fun _ => AJ rfl rfl) (fun _ => AH rfl rfl)
theorem AWv : Tryz.f155.body.isSome = true := by kernel_rfl
theorem AWu : (Tryz.f155.name == "runtime.NumGoroutine") = false := by kernel_rfl
theorem AWt : loops (AU Tryz.f155) = 0 := by kernel_rfl
def Jd : Env := AH9.ext 155 false false (Fu Tryz.prog AH9 {} Tryz.f155)
theorem IJ : Ab Tryz.prog Jd := Env.AZ AAr (Hm AAr Tryz.func155 AWv AWu AWt) (by simp) (by simp)
abbrev FH : Hints := { loop := fun n => match n with | 0 => Ac 1 19 Hr Hq BY | _ => fun _ _ _ => none }
theorem Kf : ∀ v, BY v = roundOf Tryz.prog Jd FH 1 1 19 (AB Tryz.f174 0) Hr Hq v := by
 rintro ⟨a0, a1, a2, a3, a4, ⟨⟩⟩
 kernel_rfl
theorem O9 : AD (AB Tryz.f174 0) 1 = [] := by kernel_rfl
theorem PA : Aa Tryz.prog 1 (.loop (AB Tryz.f174 0)) (FH.loop 0) := AW IJ (Kf) (AA O9 trivial)
theorem NR : ∀ v, DP v = AP Tryz.prog Jd FH Tryz.f174 FG FF FE v := by
 rintro ⟨a0, a1, a2, ⟨⟩⟩
 kernel_rfl
theorem SH : AD (AU Tryz.f174) 0 = [(0, AB Tryz.f174 0)] := by kernel_rfl
theorem MR : AQ Tryz.prog 174 (AF 2 FG FF FE Ee) := AI IJ Tryz.func174 (by kernel_rfl) (by kernel_rfl) rfl (fun v => (Hs v).trans (NR v)) (AA SH ⟨PA, trivial⟩)
def FY : Env := Jd.GF 174 1 155 (AF 2 FG FF FE Ee)
theorem GO : Ab Tryz.prog FY := Env.Bg IJ MR (AH rfl rfl)
abbrev PS : Hints := {  }
theorem MS : ∀ v, Cs v = AP Tryz.prog FY PS Tryz.f154 Ek Ej Ei v := by
 rintro ⟨a0, a1, a2, ⟨⟩⟩
 kernel_rfl
theorem PR : AD (AU Tryz.f154) 0 = [] := by kernel_rfl
theorem Ks : AQ Tryz.prog 154 (AF 2 Ek Ej Ei Cj) := AI GO Tryz.func154 (by kernel_rfl) (by kernel_rfl) rfl (fun v => (HP v).trans (MS v)) (AA PR trivial)
def En : Env := FY.GF 154 1 155 (AF 2 Ek Ej Ei Cj)
theorem F8 : Ab Tryz.prog En := Env.Bg GO Ks (AH rfl rfl)
abbrev AZD : Hints := {  }
theorem AQR : ∀ v, PF v = AP Tryz.prog En AZD Tryz.f125 Zp Zo Zn v := by
 rintro ⟨a0, a1, ⟨⟩⟩
 kernel_rfl
theorem AZC : AD (AU Tryz.f125) 0 = [] := by kernel_rfl
theorem ALu : AQ Tryz.prog 125 (AF 2 Zp Zo Zn NT) := AI F8 Tryz.func125 (by kernel_rfl) (by kernel_rfl) rfl (fun v => (ADi v).trans (AQR v)) (AA AZC trivial)
def QG : Env := En.ext 125 true true (AF 2 Zp Zo Zn NT)
theorem LJ : Ab Tryz.prog QG := Env.AZ F8 ALu (fun _ => AJ rfl rfl) (fun _ => AH rfl rfl)
abbrev AQh : Hints := { loop := fun n => match n with | 0 => Ac 0 21 ASf ASe JT | _ => fun _ _ _ => none }
theorem AQd : ∀ v, JT v = roundOf Tryz.prog QG AQh 1 0 21 (AB Tryz.f183 0) ASf ASe v := by
 rintro ⟨a0, a1, a2, a3, ⟨⟩⟩
 kernel_rfl
theorem AbP : AD (AB Tryz.f183 0) 1 = [] := by kernel_rfl
theorem AbQ : Aa Tryz.prog 0 (.loop (AB Tryz.f183 0)) (AQh.loop 0) := AW LJ (AQd) (AA AbP trivial)
theorem AZS : ∀ v, AHO v = AP Tryz.prog QG AQh Tryz.f183 AQg AQf AQe v := by
 rintro ⟨a0, ⟨⟩⟩
 kernel_rfl
theorem AcR : AD (AU Tryz.f183) 0 = [(0, AB Tryz.f183 0)] := by kernel_rfl
theorem AVt : AQ Tryz.prog 183 (AF 1 AQg AQf AQe ends) := AI LJ Tryz.func183 (by kernel_rfl) (by kernel_rfl) rfl (fun v => (ASg v).trans (AZS v)) (AA AcR ⟨AbQ, trivial⟩)
def AIL : Env := QG.ext 183 true true (AF 1 AQg AQf AQe ends)
theorem TC : Ab Tryz.prog AIL := Env.AZ LJ AVt (fun _ => AJ rfl rfl) (fun _ => AH rfl rfl)
abbrev Nh : Hints := { loop := fun n => match n with | 0 => Ac 0 48 UC UB Bk | _ => fun _ _ _ => none, fp := fun n => match n with | 1 => [[0], [], [], [4], []] | _ => [] }
theorem AAB : ∀ v, Bk v = roundOf Tryz.prog AIL Nh 1 0 48 (AB Tryz.f160 0) UC UB v := by
 rintro ⟨a0, a1, a2, a3, a4, a5, a6, ⟨⟩⟩
 kernel_rfl
theorem AMC : AD (AB Tryz.f160 0) 1 = [] := by kernel_rfl
theorem AMD : Aa Tryz.prog 0 (.loop (AB Tryz.f160 0)) (Nh.loop 0) := AW TC (AAB) (AA AMC trivial)
theorem AHQ : ∀ v, HN v = AP Tryz.prog AIL Nh Tryz.f160 Ng Nf Nd v := by
 rintro ⟨a0, a1, ⟨⟩⟩
 kernel_rfl
theorem AQk : AD (AU Tryz.f160) 0 = [(0, AB Tryz.f160 0)] := by kernel_rfl
theorem AB5 : AQ Tryz.prog 160 (AF 3 Ng Nf Nd PM) := AI TC Tryz.func160 (by kernel_rfl) (by kernel_rfl) rfl (fun v => (Km v).trans (AHQ v)) (AA AQk ⟨AMD, trivial⟩)
def N1 : Env := AIL.GF 160 2 161 (AF 3 Ng Nf Nd PM)
theorem Mg : Ab Tryz.prog N1 := Env.Bg TC AB5 (AH rfl rfl)
abbrev AZM : Hints := {  }
theorem AQX : ∀ v, Kj v = AP Tryz.prog N1 AZM Tryz.f130 Zv Zu Zt v := by
 rintro ⟨a0, a1, ⟨⟩⟩
 kernel_rfl
theorem AZL : AD (AU Tryz.f130) 0 = [] := by kernel_rfl
theorem ALy : AQ Tryz.prog 130 (AF 2 Zv Zu Zt AHH) := AI Mg Tryz.func130 (by kernel_rfl) (by kernel_rfl) rfl (fun v => (SQ v).trans (AQX v)) (AA AZL trivial)
def AA8 : Env := N1.ext 130 true true (AF 2 Zv Zu Zt AHH)
theorem UY : Ab Tryz.prog AA8 := Env.AZ Mg ALy (fun _ => AJ rfl rfl) (fun _ => AH rfl rfl)
abbrev Acl : Hints := {  }
theorem AbM : ∀ v, ALx v = AP Tryz.prog AA8 Acl Tryz.f92 AZK AZJ AZI v := by
 rintro ⟨a0, a1, ⟨⟩⟩
 kernel_rfl
theorem Ack : AD (AU Tryz.f92) 0 = [] := by kernel_rfl
theorem AZH : AQ Tryz.prog 92 (AF 2 AZK AZJ AZI fof) := AI UY Tryz.func92 (by kernel_rfl) (by kernel_rfl) rfl (fun v => (AQW v).trans (AbM v)) (AA Ack trivial)
def ASy : Env := AA8.ext 92 true true (AF 2 AZK AZJ AZI fof)
theorem AA7 : Ab Tryz.prog ASy := Env.AZ UY AZH (fun _ => AJ rfl rfl) (fun _ => AH rfl rfl)
abbrev AYC : Hints := { loop := fun n => match n with | 0 => Ac 0 18 AYA AX8 M8 | _ => fun _ _ _ => none }
theorem AUN : ∀ v, M8 v = roundOf Tryz.prog ASy AYC 1 0 18 (AB Tryz.f114 0) AYA AX8 v := by
 rintro ⟨a0, a1, a2, a3, ⟨⟩⟩
 kernel_rfl
theorem Ab7 : AD (AB Tryz.f114 0) 1 = [] := by kernel_rfl
theorem Ab8 : Aa Tryz.prog 0 (.loop (AB Tryz.f114 0)) (AYC.loop 0) := AW AA7 (AUN) (AA Ab7 trivial)
theorem Aag : ∀ v, ARz v = AP Tryz.prog ASy AYC Tryz.f114 AYB AX9 AX7 v := by
 rintro ⟨a0, ⟨⟩⟩
 kernel_rfl
theorem Ach : AD (AU Tryz.f114) 0 = [(0, AB Tryz.f114 0)] := by kernel_rfl
theorem AX6 : AQ Tryz.prog 114 (AF 1 AYB AX9 AX7 orI) := AI AA7 Tryz.func114 (by kernel_rfl) (by kernel_rfl) rfl (fun v => (AYD v).trans (Aag v)) (AA Ach ⟨Ab8, trivial⟩)
def AZu : Env := ASy.ext 114 true true (AF 1 AYB AX9 AX7 orI)
theorem AMt : Ab Tryz.prog AZu := Env.AZ AA7 AX6 (fun _ => AJ rfl rfl) (fun _ => AH rfl rfl)
abbrev AYS : Hints := {  }
theorem APa : ∀ v, IV v = AP Tryz.prog AZu AYS Tryz.f97 Yz Yy Yx v := by
 rintro ⟨a0, ⟨⟩⟩
 kernel_rfl
theorem AYR : AD (AU Tryz.f97) 0 = [] := by kernel_rfl
theorem AK9 : AQ Tryz.prog 97 (AF 1 Yz Yy Yx NC) := AI AMt Tryz.func97 (by kernel_rfl) (by kernel_rfl) rfl (fun v => (Lt v).trans (APa v)) (AA AYR trivial)
def AA2 : Env := AZu.ext 97 true true (AF 1 Yz Yy Yx NC)
theorem UT : Ab Tryz.prog AA2 := Env.AZ AMt AK9 (fun _ => AJ rfl rfl) (fun _ => AH rfl rfl)
end
end Go.Pev
end
section
namespace Go.Pev
open Go.Proofs
set_option maxRecDepth 100000
noncomputable section
abbrev AcH : Hints := {  }
theorem AYQ : ∀ v, AGR v = AP Tryz.prog AA2 AcH Tryz.f53 APZ APY APX v := by
 rintro ⟨a0, ⟨⟩⟩
 kernel_rfl
theorem AcG : AD (AU Tryz.f53) 0 = [] := by kernel_rfl
theorem AUq : AQ Tryz.prog 53 (AF 1 APZ APY APX Rp) := AI UT Tryz.func53 (by kernel_rfl) (by kernel_rfl) rfl (fun v => (ASD v).trans (AYQ v)) (AA AcG trivial)
def ARX : Env := AA2.ext 53 true true (AF 1 APZ APY APX Rp)
theorem AEC : Ab Tryz.prog ARX := Env.AZ UT AUq (fun _ => AJ rfl rfl) (fun _ => AH rfl rfl)
abbrev APz : Hints := { fp := fun n => match n with | 1 => [[0], [0], [2], [2], [], [0], [0], [2], [2], [], [], [20], []] | _ => [] }
theorem AGr : ∀ v, HC v = AP Tryz.prog ARX APz Tryz.f98 NI NH NG v := by
 rintro ⟨a0, a1, ⟨⟩⟩
 kernel_rfl
theorem APy : AD (AU Tryz.f98) 0 = [] := by kernel_rfl
theorem AB0 : AQ Tryz.prog 98 (AF 2 NI NH NG C9) := AI AEC Tryz.func98 (by kernel_rfl) (by kernel_rfl) rfl (fun v => (Kb v).trans (AGr v)) (AA APy trivial)
def Jq : Env := ARX.ext 98 true true (AF 2 NI NH NG C9)
theorem IK : Ab Tryz.prog Jq := Env.AZ AEC AB0 (fun _ => AJ rfl rfl) (fun _ => AH rfl rfl)
abbrev Yw : Hints := { loop := fun n => match n with | 0 => Ac 0 33 ADP ADO CK | _ => fun _ _ _ => none }
theorem AGQ : ∀ v, CK v = roundOf Tryz.prog Jq Yw 1 0 33 (AB Tryz.f93 0) ADP ADO v := by
 rintro ⟨a0, a1, a2, a3, a4, ⟨⟩⟩
 kernel_rfl
theorem AUo : AD (AB Tryz.f93 0) 1 = [] := by kernel_rfl
theorem AUp : Aa Tryz.prog 0 (.loop (AB Tryz.f93 0)) (Yw.loop 0) := AW IK (AGQ) (AA AUo trivial)
theorem APW : ∀ v, KX v = AP Tryz.prog Jq Yw Tryz.f93 Yv Yu Yt v := by
 rintro ⟨a0, a1, ⟨⟩⟩
 kernel_rfl
theorem AYP : AD (AU Tryz.f93) 0 = [(0, AB Tryz.f93 0)] := by kernel_rfl
theorem AK7 : AQ Tryz.prog 93 (AF 2 Yv Yu Yt NB) := AI IK Tryz.func93 (by kernel_rfl) (by kernel_rfl) rfl (fun v => (Ro v).trans (APW v)) (AA AYP ⟨AUp, trivial⟩)
def P8 : Env := Jq.ext 93 true true (AF 2 Yv Yu Yt NB)
theorem LG : Ab Tryz.prog P8 := Env.AZ IK AK7 (fun _ => AJ rfl rfl) (fun _ => AH rfl rfl)
abbrev Y4 : Hints := { loop := fun n => match n with | 0 => Ac 0 96 ADS ADR DL | _ => fun _ _ _ => none, fp := fun n => match n with | 7 => [[2], [2], [], [], [2], [2], [2], [2], [], [], [], [2], [2], [0], [0], [], [], [], [2], [2], [], [], [], [2], [2], [], [], [], [], [], [], [], [0], [0], [], [], [], [], [2], [], [], [], []] | _ => [] }
theorem AGV : ∀ v, DL v = roundOf Tryz.prog P8 Y4 1 0 96 (AB Tryz.f49 0) ADS ADR v := by
 rintro ⟨a0, a1, a2, a3, a4, a5, ⟨⟩⟩
 kernel_rfl
theorem AUs : AD (AB Tryz.f49 0) 1 = [] := by kernel_rfl
theorem AUt : Aa Tryz.prog 0 (.loop (AB Tryz.f49 0)) (Y4.loop 0) := AW LG (AGV) (AA AUs trivial)
theorem APc : ∀ v, G6 v = AP Tryz.prog P8 Y4 Tryz.f49 Y3 Y2 Y1 v := by
 rintro ⟨a0, ⟨⟩⟩
 kernel_rfl
theorem AYT : AD (AU Tryz.f49) 0 = [(0, AB Tryz.f49 0)] := by kernel_rfl
theorem ALB : AQ Tryz.prog 49 (AF 1 Y3 Y2 Y1 CZ) := AI LG Tryz.func49 (by kernel_rfl) (by kernel_rfl) rfl (fun v => (IW v).trans (APc v)) (AA AYT ⟨AUt, trivial⟩)
def P9 : Env := P8.ext 49 true true (AF 1 Y3 Y2 Y1 CZ)
theorem LH : Ab Tryz.prog P9 := Env.AZ LG ALB (fun _ => AJ rfl rfl) (fun _ => AH rfl rfl)
abbrev ZR : Hints := { loop := fun n => match n with | 0 => Ac 0 26 ADW ADV E4 | _ => fun _ _ _ => none }
theorem AGo : ∀ v, E4 v = roundOf Tryz.prog P9 ZR 1 0 26 (AB Tryz.f52 0) ADW ADV v := by
 rintro ⟨a0, a1, a2, a3, ⟨⟩⟩
 kernel_rfl
theorem AVB : AD (AB Tryz.f52 0) 1 = [] := by kernel_rfl
theorem AVC : Aa Tryz.prog 0 (.loop (AB Tryz.f52 0)) (ZR.loop 0) := AW LH (AGo) (AA AVB trivial)
theorem APr : ∀ v, Ka v = AP Tryz.prog P9 ZR Tryz.f52 ZQ ZP ZO v := by
 rintro ⟨a0, ⟨⟩⟩
 kernel_rfl
theorem AYd : AD (AU Tryz.f52) 0 = [(0, AB Tryz.f52 0)] := by kernel_rfl
theorem ALQ : AQ Tryz.prog 52 (AF 1 ZQ ZP ZO ND) := AI LH Tryz.func52 (by kernel_rfl) (by kernel_rfl) rfl (fun v => (R9 v).trans (APr v)) (AA AYd ⟨AVC, trivial⟩)
def Ix : Env := P9.ext 52 true true (AF 1 ZQ ZP ZO ND)
theorem F7 : Ab Tryz.prog Ix := Env.AZ LH ALQ (fun _ => AJ rfl rfl) (fun _ => AH rfl rfl)
abbrev DD : Hints := { loop := fun n => match n with | 0 => Ac 0 83 Pb PY Ce | 1 => Ac 0 83 Pa PX DS | 2 => Ac 0 83 PZ PW Cd | _ => fun _ _ _ => none, fp := fun n => match n with | 14 => [[], [], [0], [0], [], [], [0], [0], [], []] | 13 => [[], [], [], [], [], [], [], [], [], [], [], [], [], [], [], [], [], [], [], [0], [0], [], [], [0], [0], [], []] | 12 => [[], [], [], [], [], [], [], [], [], [], [], []] | _ => [] }
theorem VO : ∀ v, Cd v = roundOf Tryz.prog Ix DD 3 0 83 (AB Tryz.f68 2) PZ PW v := by
 rintro ⟨a0, a1, a2, a3, a4, ⟨⟩⟩
 kernel_rfl
theorem AHb : AD (AB Tryz.f68 2) 3 = [] := by kernel_rfl
theorem AHe : Aa Tryz.prog 0 (.loop (AB Tryz.f68 2)) (DD.loop 2) := AW F7 (VO) (AA AHb trivial)
theorem VP : ∀ v, DS v = roundOf Tryz.prog Ix DD 2 0 83 (AB Tryz.f68 1) Pa PX v := by
 rintro ⟨a0, a1, a2, a3, ⟨⟩⟩
 kernel_rfl
theorem AHc : AD (AB Tryz.f68 1) 2 = [(2, AB Tryz.f68 2)] := by kernel_rfl
theorem AHf : Aa Tryz.prog 0 (.loop (AB Tryz.f68 1)) (DD.loop 1) := AW F7 (VP) (AA AHc ⟨AHe, trivial⟩)
theorem VQ : ∀ v, Ce v = roundOf Tryz.prog Ix DD 1 0 83 (AB Tryz.f68 0) Pb PY v := by
 rintro ⟨a0, a1, a2, a3, ⟨⟩⟩
 kernel_rfl
theorem AHd : AD (AB Tryz.f68 0) 1 = [] := by kernel_rfl
theorem AHg : Aa Tryz.prog 0 (.loop (AB Tryz.f68 0)) (DD.loop 0) := AW F7 (VQ) (AA AHd trivial)
theorem ACD : ∀ v, H3 v = AP Tryz.prog Ix DD Tryz.f68 Kx Kw Kv v := by
 rintro ⟨a0, a1, ⟨⟩⟩
 kernel_rfl
theorem AMQ : AD (AU Tryz.f68) 0 = [(0, AB Tryz.f68 0), (1, AB Tryz.f68 1)] := by kernel_rfl
theorem AAQ : AQ Tryz.prog 68 (AF 2 Kx Kw Kv Gh) := AI F7 Tryz.func68 (by kernel_rfl) (by kernel_rfl) rfl (fun v => (Pc v).trans (ACD v)) (AA AMQ ⟨AHg, AHf, trivial⟩)
def IB : Env := Ix.ext 68 true true (AF 2 Kx Kw Kv Gh)
theorem Hb : Ab Tryz.prog IB := Env.AZ F7 AAQ (fun _ => AJ rfl rfl) (fun _ => AH rfl rfl)
abbrev AEg : Hints := { loop := fun n => match n with | 0 => Ac 0 20 AIp AIo Ws | _ => fun _ _ _ => none }
theorem AIn : ∀ v, Ws v = roundOf Tryz.prog IB AEg 1 0 20 (AB Tryz.f38 0) AIp AIo v := by
 rintro ⟨a0, a1, ⟨⟩⟩
 kernel_rfl
theorem AWj : AD (AB Tryz.f38 0) 1 = [] := by kernel_rfl
theorem AWk : Aa Tryz.prog 0 (.loop (AB Tryz.f38 0)) (AEg.loop 0) := AW Hb (AIn) (AA AWj trivial)
theorem ATL : ∀ v, Vd v = AP Tryz.prog IB AEg Tryz.f38 AEf AEe AEd v := by
 rintro ⟨a0, ⟨⟩⟩
 kernel_rfl
theorem AZ5 : AD (AU Tryz.f38) 0 = [(0, AB Tryz.f38 0)] := by kernel_rfl
theorem ANA : AQ Tryz.prog 38 (AF 1 AEf AEe AEd He) := AI Hb Tryz.func38 (by kernel_rfl) (by kernel_rfl) rfl (fun v => (AIq v).trans (ATL v)) (AA AZ5 ⟨AWk, trivial⟩)
def Po : Env := IB.ext 38 true true (AF 1 AEf AEe AEd He)
theorem Jc : Ab Tryz.prog Po := Env.AZ Hb ANA (fun _ => AJ rfl rfl) (fun _ => AH rfl rfl)
abbrev IP : Hints := { loop := fun n => match n with | 0 => Ac 0 138 XT XR CS | 1 => Ac 0 138 XS XQ C1 | _ => fun _ _ _ => none, fp := fun n => match n with | 10 => [[], [], [], [0], [0], [], [], [], [], [], [4], [4], [], [], [0], [0], [], [], [], [], [], [4], [4], [], [], [0], [0], [], [], [], [], [], [4], [4], [], [], [], []] | 8 => [[4], [4], [], [], [4], [4], [4], [4], [], [], [], [4], [4], [0], [0], [], [], [], [4], [4], [], [], [], [4], [4], [0], [0], [], [], []] | _ => [] }
theorem ABL : ∀ v, C1 v = roundOf Tryz.prog Po IP 2 0 138 (AB Tryz.f50 1) XS XQ v := by
 rintro ⟨a0, a1, a2, a3, a4, a5, ⟨⟩⟩
 kernel_rfl
theorem ANk : AD (AB Tryz.f50 1) 2 = [] := by kernel_rfl
theorem ANm : Aa Tryz.prog 0 (.loop (AB Tryz.f50 1)) (IP.loop 1) := AW Jc (ABL) (AA ANk trivial)
theorem ABM : ∀ v, CS v = roundOf Tryz.prog Po IP 1 0 138 (AB Tryz.f50 0) XT XR v := by
 rintro ⟨a0, a1, a2, a3, ⟨⟩⟩
 kernel_rfl
theorem ANl : AD (AB Tryz.f50 0) 1 = [] := by kernel_rfl
theorem ANn : Aa Tryz.prog 0 (.loop (AB Tryz.f50 0)) (IP.loop 0) := AW Jc (ABM) (AA ANl trivial)
theorem AJT : ∀ v, EE v = AP Tryz.prog Po IP Tryz.f50 Qp Qo Qn v := by
 rintro ⟨a0, ⟨⟩⟩
 kernel_rfl
theorem ATk : AD (AU Tryz.f50) 0 = [(0, AB Tryz.f50 0), (1, AB Tryz.f50 1)] := by kernel_rfl
theorem AFI : AQ Tryz.prog 50 (AF 1 Qp Qo Qn Bl) := AI Jc Tryz.func50 (by kernel_rfl) (by kernel_rfl) rfl (fun v => (Ev v).trans (AJT v)) (AA ATk ⟨ANn, ANm, trivial⟩)
def MG : Env := Po.ext 50 true true (AF 1 Qp Qo Qn Bl)
theorem Ji : Ab Tryz.prog MG := Env.AZ Jc AFI (fun _ => AJ rfl rfl) (fun _ => AH rfl rfl)
abbrev SY : Hints := { loop := fun n => match n with | 0 => Ac 0 32 AAA Z9 D2 | _ => fun _ _ _ => none, fp := fun n => match n with | 7 => [[], [0], [0], [], [], [], [], [0], [0], [], [], [], [], [], [], [3, 4], []] | _ => [] }
theorem AB4 : ∀ v, D2 v = roundOf Tryz.prog MG SY 1 0 32 (AB Tryz.f36 0) AAA Z9 v := by
 rintro ⟨a0, a1, a2, a3, ⟨⟩⟩
 kernel_rfl
theorem AQi : AD (AB Tryz.f36 0) 1 = [] := by kernel_rfl
theorem AQj : Aa Tryz.prog 0 (.loop (AB Tryz.f36 0)) (SY.loop 0) := AW Ji (AB4) (AA AQi trivial)
theorem AMA : ∀ v, Il v = AP Tryz.prog MG SY Tryz.f36 SX SW SV v := by
 rintro ⟨a0, ⟨⟩⟩
 kernel_rfl
theorem AVu : AD (AU Tryz.f36) 0 = [(0, AB Tryz.f36 0)] := by kernel_rfl
theorem AHP : AQ Tryz.prog 36 (AF 1 SX SW SV L4) := AI Ji Tryz.func36 (by kernel_rfl) (by kernel_rfl) rfl (fun v => (Nc v).trans (AMA v)) (AA AVu ⟨AQj, trivial⟩)
def TD : Env := MG.ext 36 true true (AF 1 SX SW SV L4)
theorem QJ : Ab Tryz.prog TD := Env.AZ Ji AHP (fun _ => AJ rfl rfl) (fun _ => AH rfl rfl)
abbrev AcO : Hints := {  }
theorem AYq : ∀ v, AGy v = AP Tryz.prog TD AcO Tryz.f138 AQG AQF AQE v := by
 rintro ⟨a0, a1, ⟨⟩⟩
 kernel_rfl
theorem AcN : AD (AU Tryz.f138) 0 = [] := by kernel_rfl
theorem AVL : AQ Tryz.prog 138 (AF 2 AQG AQF AQE AB1) := AI QJ Tryz.func138 (by kernel_rfl) (by kernel_rfl) rfl (fun v => (ASQ v).trans (AYq v)) (AA AcN trivial)
def ARY : Env := TD.ext 138 true true (AF 2 AQG AQF AQE AB1)
theorem AED : Ab Tryz.prog ARY := Env.AZ QJ AVL (fun _ => AJ rfl rfl) (fun _ => AH rfl rfl)
abbrev ATN : Hints := { fp := fun n => match n with | 5 => [[], [], [], [], [], [], [], [], [], [], [], []] | _ => [] }
theorem AIr : ∀ v, LO v = AP Tryz.prog ARY ATN Tryz.f171 Qe Qd Qc v := by
 rintro ⟨a0, a1, ⟨⟩⟩
 kernel_rfl
theorem ATM : AD (AU Tryz.f171) 0 = [] := by kernel_rfl
theorem AEh : AQ Tryz.prog 171 (AF 2 Qe Qd Qc LP) := AI AED Tryz.func171 (by kernel_rfl) (by kernel_rfl) rfl (fun v => (Wt v).trans (AIr v)) (AA ATM trivial)
def Sx : Env := ARY.ext 171 true true (AF 2 Qe Qd Qc LP)
theorem Pp : Ab Tryz.prog Sx := Env.AZ AED AEh (fun _ => AJ rfl rfl) (fun _ => AH rfl rfl)
abbrev Abd : Hints := {  }
theorem AWM : ∀ v, WD v = AP Tryz.prog Sx Abd Tryz.f105 AHz AHy AHx v := by
 rintro ⟨a0, a1, a2, ⟨⟩⟩
 kernel_rfl
theorem Abc : AD (AU Tryz.f105) 0 = [] := by kernel_rfl
theorem ARM : AQ Tryz.prog 105 (AF 3 AHz AHy AHx AAg) := AI Pp Tryz.func105 (by kernel_rfl) (by kernel_rfl) rfl (fun v => (AMi v).trans (AWM v)) (AA Abc trivial)
def WL : Env := Sx.ext 105 true true (AF 3 AHz AHy AHx AAg)
theorem N4 : Ab Tryz.prog WL := Env.AZ Pp ARM (fun _ => AJ rfl rfl) (fun _ => AH rfl rfl)
end
end Go.Pev
end
section
namespace Go.Pev
open Go.Proofs
set_option maxRecDepth 100000
noncomputable section
abbrev Ys : Hints := { loop := fun n => match n with | 0 => Ac 0 28 ADM ADL E3 | _ => fun _ _ _ => none }
theorem AGP : ∀ v, E3 v = roundOf Tryz.prog WL Ys 1 0 28 (AB Tryz.f122 0) ADM ADL v := by
 rintro ⟨a0, a1, a2, a3, a4, ⟨⟩⟩
 kernel_rfl
theorem AUm : AD (AB Tryz.f122 0) 1 = [] := by kernel_rfl
theorem AUn : Aa Tryz.prog 0 (.loop (AB Tryz.f122 0)) (Ys.loop 0) := AW N4 (AGP) (AA AUm trivial)
theorem APU : ∀ v, Om v = AP Tryz.prog WL Ys Tryz.f122 Yr Yq Yp v := by
 rintro ⟨a0, ⟨⟩⟩
 kernel_rfl
theorem AYO : AD (AU Tryz.f122) 0 = [(0, AB Tryz.f122 0)] := by kernel_rfl
theorem AK5 : AQ Tryz.prog 122 (AF 1 Yr Yq Yp Rn) := AI N4 Tryz.func122 (by kernel_rfl) (by kernel_rfl) rfl (fun v => (ADN v).trans (APU v)) (AA AYO ⟨AUn, trivial⟩)
def AA1 : Env := WL.ext 122 true true (AF 1 Yr Yq Yp Rn)
theorem US : Ab Tryz.prog AA1 := Env.AZ N4 AK5 (fun _ => AJ rfl rfl) (fun _ => AH rfl rfl)
abbrev ANQ : Hints := {  }
theorem AEv : ∀ v, I5 v = AP Tryz.prog AA1 ANQ Tryz.f172 Mr Mq Mo v := by
 rintro ⟨a0, a1, a2, ⟨⟩⟩
 kernel_rfl
theorem ANP : AD (AU Tryz.f172) 0 = [] := by kernel_rfl
theorem ABH : AQ Tryz.prog 172 (AF 3 Mr Mq Mo J9) := AI US Tryz.func172 (by kernel_rfl) (by kernel_rfl) rfl (fun v => (TN v).trans (AEv v)) (AA ANP trivial)
def FU : Env := AA1.ext 172 true true (AF 3 Mr Mq Mo J9)
theorem Dj : Ab Tryz.prog FU := Env.AZ US ABH (fun _ => AJ rfl rfl) (fun _ => AH rfl rfl)
abbrev Gs : Hints := { loop := fun n => match n with | 0 => Ac 0 129 ACe ACb Gc | 1 => Ac 0 129 ACd ACa CJ | 2 => Ac 0 129 ACc ACZ Er | _ => fun _ _ _ => none, fp := fun n => match n with | 7 => [[], [], [0], [0], [], [], [], [], [0], [], [0], [0], [], [], [], [], [0], [], [0], [0], [], [], []] | _ => [] }
theorem AEY : ∀ v, Er v = roundOf Tryz.prog FU Gs 3 0 129 (AB Tryz.f136 2) ACc ACZ v := by
 rintro ⟨a0, a1, a2, a3, a4, a5, a6, a7, a8, a9, a10, a11, a12, a13, a14, a15, a16, a17, a18, a19, a20, a21, a22, a23, a24, a25, a26, a27, ⟨⟩⟩
 kernel_rfl
theorem ATC : AD (AB Tryz.f136 2) 3 = [] := by kernel_rfl
theorem ATF : Aa Tryz.prog 0 (.loop (AB Tryz.f136 2)) (Gs.loop 2) := AW Dj (AEY) (AA ATC trivial)
theorem AEZ : ∀ v, CJ v = roundOf Tryz.prog FU Gs 2 0 129 (AB Tryz.f136 1) ACd ACa v := by
 rintro ⟨a0, a1, a2, a3, ⟨⟩⟩
 kernel_rfl
theorem ATD : AD (AB Tryz.f136 1) 2 = [(2, AB Tryz.f136 2)] := by kernel_rfl
theorem ATG : Aa Tryz.prog 0 (.loop (AB Tryz.f136 1)) (Gs.loop 1) := AW Dj (AEZ) (AA ATD ⟨ATF, trivial⟩)
theorem AEa : ∀ v, Gc v = roundOf Tryz.prog FU Gs 1 0 129 (AB Tryz.f136 0) ACe ACb v := by
 rintro ⟨a0, a1, ⟨⟩⟩
 kernel_rfl
theorem ATE : AD (AB Tryz.f136 0) 1 = [(1, AB Tryz.f136 1)] := by kernel_rfl
theorem ATH : Aa Tryz.prog 0 (.loop (AB Tryz.f136 0)) (Gs.loop 0) := AW Dj (AEa) (AA ATE ⟨ATG, trivial⟩)
theorem AM8 : ∀ v, OE v = AP Tryz.prog FU Gs Tryz.f136 Wn Wm Wl v := by
 rintro ⟨a0, a1, ⟨⟩⟩
 kernel_rfl
theorem AWf : AD (AU Tryz.f136) 0 = [(0, AB Tryz.f136 0)] := by kernel_rfl
theorem AIk : AQ Tryz.prog 136 (AF 2 Wn Wm Wl Wo) := AI Dj Tryz.func136 (by kernel_rfl) (by kernel_rfl) rfl (fun v => (ACf v).trans (AM8 v)) (AA AWf ⟨ATH, trivial⟩)
def Pn : Env := FU.ext 136 true true (AF 2 Wn Wm Wl Wo)
theorem K9 : Ab Tryz.prog Pn := Env.AZ Dj AIk (fun _ => AJ rfl rfl) (fun _ => AH rfl rfl)
abbrev RA : Hints := { loop := fun n => match n with | 0 => Ac 0 19 Xw Xv Dw | _ => fun _ _ _ => none }
theorem ABU : ∀ v, Dw v = roundOf Tryz.prog Pn RA 1 0 19 (AB Tryz.f104 0) Xw Xv v := by
 rintro ⟨a0, a1, a2, ⟨⟩⟩
 kernel_rfl
theorem AOO : AD (AB Tryz.f104 0) 1 = [] := by kernel_rfl
theorem AOP : Aa Tryz.prog 0 (.loop (AB Tryz.f104 0)) (RA.loop 0) := AW K9 (ABU) (AA AOO trivial)
theorem AJh : ∀ v, Lb v = AP Tryz.prog Pn RA Tryz.f104 Q9 Q8 Q7 v := by
 rintro ⟨a0, a1, ⟨⟩⟩
 kernel_rfl
theorem AT3 : AD (AU Tryz.f104) 0 = [(0, AB Tryz.f104 0)] := by kernel_rfl
theorem AFf : AQ Tryz.prog 104 (AF 2 Q9 Q8 Q7 Hh) := AI K9 Tryz.func104 (by kernel_rfl) (by kernel_rfl) rfl (fun v => (Xx v).trans (AJh v)) (AA AT3 ⟨AOP, trivial⟩)
def ML : Env := Pn.ext 104 true true (AF 2 Q9 Q8 Q7 Hh)
theorem Jm : Ab Tryz.prog ML := Env.AZ K9 AFf (fun _ => AJ rfl rfl) (fun _ => AH rfl rfl)
abbrev Qw : Hints := { loop := fun n => match n with | 0 => Ac 0 36 Xa XZ C2 | _ => fun _ _ _ => none, fp := fun n => match n with | 6 => [[], [], [], [], [], [], [], [], [], [], [], [], [], [], [], [], [], [], [], [], [], [], []] | _ => [] }
theorem ABQ : ∀ v, C2 v = roundOf Tryz.prog ML Qw 1 0 36 (AB Tryz.f135 0) Xa XZ v := by
 rintro ⟨a0, a1, ⟨⟩⟩
 kernel_rfl
theorem ANs : AD (AB Tryz.f135 0) 1 = [] := by kernel_rfl
theorem ANt : Aa Tryz.prog 0 (.loop (AB Tryz.f135 0)) (Qw.loop 0) := AW Jm (ABQ) (AA ANs trivial)
theorem AJV : ∀ v, LW v = AP Tryz.prog ML Qw Tryz.f135 Qv Qu Qt v := by
 rintro ⟨a0, ⟨⟩⟩
 kernel_rfl
theorem ATm : AD (AU Tryz.f135) 0 = [(0, AB Tryz.f135 0)] := by kernel_rfl
theorem AFK : AQ Tryz.prog 135 (AF 1 Qv Qu Qt I6) := AI Jm Tryz.func135 (by kernel_rfl) (by kernel_rfl) rfl (fun v => (Xb v).trans (AJV v)) (AA ATm ⟨ANt, trivial⟩)
def Sy : Env := ML.ext 135 true true (AF 1 Qv Qu Qt I6)
theorem Pv : Ab Tryz.prog Sy := Env.AZ Jm AFK (fun _ => AJ rfl rfl) (fun _ => AH rfl rfl)
abbrev AZG : Hints := { fp := fun n => match n with | 4 => [[], [], [], [], [17], [], [], [], [19], [], []] | _ => [] }
theorem AQS : ∀ v, PG v = AP Tryz.prog Sy AZG Tryz.f173 Zs Zr Zq v := by
 rintro ⟨a0, a1, ⟨⟩⟩
 kernel_rfl
theorem AZF : AD (AU Tryz.f173) 0 = [] := by kernel_rfl
theorem ALv : AQ Tryz.prog 173 (AF 2 Zs Zr Zq NV) := AI Pv Tryz.func173 (by kernel_rfl) (by kernel_rfl) rfl (fun v => (ADj v).trans (AQS v)) (AA AZF trivial)
def QH : Env := Sy.ext 173 true true (AF 2 Zs Zr Zq NV)
theorem LK : Ab Tryz.prog QH := Env.AZ Pv ALv (fun _ => AJ rfl rfl) (fun _ => AH rfl rfl)
abbrev Q2 : Hints := { loop := fun n => match n with | 0 => Ac 0 37 Xm Xl Du | _ => fun _ _ _ => none }
theorem ABS : ∀ v, Du v = roundOf Tryz.prog QH Q2 1 0 37 (AB Tryz.f137 0) Xm Xl v := by
 rintro ⟨a0, a1, a2, ⟨⟩⟩
 kernel_rfl
theorem AOH : AD (AB Tryz.f137 0) 1 = [] := by kernel_rfl
theorem AOI : Aa Tryz.prog 0 (.loop (AB Tryz.f137 0)) (Q2.loop 0) := AW LK (ABS) (AA AOH trivial)
theorem AJe : ∀ v, LY v = AP Tryz.prog QH Q2 Tryz.f137 Q1 Q0 Qz v := by
 rintro ⟨a0, ⟨⟩⟩
 kernel_rfl
theorem ATz : AD (AU Tryz.f137) 0 = [(0, AB Tryz.f137 0)] := by kernel_rfl
theorem AFb : AQ Tryz.prog 137 (AF 1 Q1 Q0 Qz LZ) := AI LK Tryz.func137 (by kernel_rfl) (by kernel_rfl) rfl (fun v => (Xn v).trans (AJe v)) (AA ATz ⟨AOI, trivial⟩)
def MJ : Env := QH.ext 137 true true (AF 1 Q1 Q0 Qz LZ)
theorem Jk : Ab Tryz.prog MJ := Env.AZ LK AFb (fun _ => AJ rfl rfl) (fun _ => AH rfl rfl)
abbrev Rv : Hints := { loop := fun n => match n with | 0 => Ac 0 27 ZB ZA C6 | _ => fun _ _ _ => none, fp := fun n => match n with | 6 => [[], [], [], [], [], [], [], [], [], []] | _ => [] }
theorem ABt : ∀ v, C6 v = roundOf Tryz.prog MJ Rv 1 0 27 (AB Tryz.f96 0) ZB ZA v := by
 rintro ⟨a0, a1, a2, ⟨⟩⟩
 kernel_rfl
theorem APh : AD (AB Tryz.f96 0) 1 = [] := by kernel_rfl
theorem APi : Aa Tryz.prog 0 (.loop (AB Tryz.f96 0)) (Rv.loop 0) := AW Jk (ABt) (AA APh trivial)
theorem ALH : ∀ v, Lu v = AP Tryz.prog MJ Rv Tryz.f96 Ru Rs Rr v := by
 rintro ⟨a0, a1, ⟨⟩⟩
 kernel_rfl
theorem AUz : AD (AU Tryz.f96) 0 = [(0, AB Tryz.f96 0)] := by kernel_rfl
theorem AGc : AQ Tryz.prog 96 (AF 2 Ru Rs Rr Lv) := AI Jk Tryz.func96 (by kernel_rfl) (by kernel_rfl) rfl (fun v => (ZC v).trans (ALH v)) (AA AUz ⟨APi, trivial⟩)
def Iw : Env := MJ.ext 96 true true (AF 2 Ru Rs Rr Lv)
theorem Gb : Ab Tryz.prog Iw := Env.AZ Jk AGc (fun _ => AJ rfl rfl) (fun _ => AH rfl rfl)
abbrev IQ : Hints := { loop := fun n => match n with | 0 => Ac 0 106 XX XV CU | 1 => Ac 0 106 XW XU CT | _ => fun _ _ _ => none, fp := fun n => match n with | 16 => [[], [], [], [], [0], [0], []] | _ => [] }
theorem ABN : ∀ v, CT v = roundOf Tryz.prog Iw IQ 2 0 106 (AB Tryz.f102 1) XW XU v := by
 rintro ⟨a0, a1, a2, a3, a4, a5, a6, a7, a8, a9, a10, a11, a12, a13, a14, a15, a16, a17, a18, a19, a20, a21, a22, a23, a24, a25, ⟨⟩⟩
 kernel_rfl
theorem ANo : AD (AB Tryz.f102 1) 2 = [] := by kernel_rfl
theorem ANq : Aa Tryz.prog 0 (.loop (AB Tryz.f102 1)) (IQ.loop 1) := AW Gb (ABN) (AA ANo trivial)
theorem ABO : ∀ v, CU v = roundOf Tryz.prog Iw IQ 1 0 106 (AB Tryz.f102 0) XX XV v := by
 rintro ⟨a0, a1, a2, a3, a4, a5, ⟨⟩⟩
 kernel_rfl
theorem ANp : AD (AB Tryz.f102 0) 1 = [(1, AB Tryz.f102 1)] := by kernel_rfl
theorem ANr : Aa Tryz.prog 0 (.loop (AB Tryz.f102 0)) (IQ.loop 0) := AW Gb (ABO) (AA ANp ⟨ANq, trivial⟩)
theorem AJU : ∀ v, LU v = AP Tryz.prog Iw IQ Tryz.f102 Qs Qr Qq v := by
 rintro ⟨a0, ⟨⟩⟩
 kernel_rfl
theorem ATl : AD (AU Tryz.f102) 0 = [(0, AB Tryz.f102 0)] := by kernel_rfl
theorem AFJ : AQ Tryz.prog 102 (AF 1 Qs Qr Qq LV) := AI Gb Tryz.func102 (by kernel_rfl) (by kernel_rfl) rfl (fun v => (XY v).trans (AJU v)) (AA ATl ⟨ANr, trivial⟩)
def MH : Env := Iw.ext 102 true true (AF 1 Qs Qr Qq LV)
theorem Jj : Ab Tryz.prog MH := Env.AZ Gb AFJ (fun _ => AJ rfl rfl) (fun _ => AH rfl rfl)
abbrev Q6 : Hints := { loop := fun n => match n with | 0 => Ac 0 22 Xt Xs Dv | _ => fun _ _ _ => none }
theorem ABT : ∀ v, Dv v = roundOf Tryz.prog MH Q6 1 0 22 (AB Tryz.f139 0) Xt Xs v := by
 rintro ⟨a0, a1, a2, a3, ⟨⟩⟩
 kernel_rfl
theorem AOM : AD (AB Tryz.f139 0) 1 = [] := by kernel_rfl
theorem AON : Aa Tryz.prog 0 (.loop (AB Tryz.f139 0)) (Q6.loop 0) := AW Jj (ABT) (AA AOM trivial)
theorem AJg : ∀ v, La v = AP Tryz.prog MH Q6 Tryz.f139 Q5 Q4 Q3 v := by
 rintro ⟨a0, a1, ⟨⟩⟩
 kernel_rfl
theorem AT2 : AD (AU Tryz.f139) 0 = [(0, AB Tryz.f139 0)] := by kernel_rfl
theorem AFe : AQ Tryz.prog 139 (AF 2 Q5 Q4 Q3 Hg) := AI Jj Tryz.func139 (by kernel_rfl) (by kernel_rfl) rfl (fun v => (Xu v).trans (AJg v)) (AA AT2 ⟨AON, trivial⟩)
def MK : Env := MH.ext 139 true true (AF 2 Q5 Q4 Q3 Hg)
theorem Jl : Ab Tryz.prog MK := Env.AZ Jj AFe (fun _ => AJ rfl rfl) (fun _ => AH rfl rfl)
abbrev AFY : Hints := { loop := fun n => match n with | 0 => Ac 0 38 AJa AJZ G0 | _ => fun _ _ _ => none, fp := fun n => match n with | 3 => [[], [], [], [], [], [], [], [], [], [], [], [], [0], [0], [], []] | 5 => [[], [], [], [], [3], [], [0], [5, 6], [], [], [], [9], []] | _ => [] }
theorem AJY : ∀ v, G0 v = roundOf Tryz.prog MK AFY 1 0 38 (AB Tryz.f182 0) AJa AJZ v := by
 rintro ⟨a0, a1, a2, ⟨⟩⟩
 kernel_rfl
theorem AXS : AD (AB Tryz.f182 0) 1 = [] := by kernel_rfl
theorem AXT : Aa Tryz.prog 0 (.loop (AB Tryz.f182 0)) (AFY.loop 0) := AW Jl (AJY) (AA AXS trivial)
theorem ATy : ∀ v, Vo v = AP Tryz.prog MK AFY Tryz.f182 AFX AFW AFV v := by
 rintro ⟨a0, a1, ⟨⟩⟩
 kernel_rfl
theorem AaT : AD (AU Tryz.f182) 0 = [(0, AB Tryz.f182 0)] := by kernel_rfl
theorem AOE : AQ Tryz.prog 182 (AF 2 AFX AFW AFV AC5) := AI Jl Tryz.func182 (by kernel_rfl) (by kernel_rfl) rfl (fun v => (AJb v).trans (ATy v)) (AA AaT ⟨AXT, trivial⟩)
def AIC : Env := MK.ext 182 true true (AF 2 AFX AFW AFV AC5)
theorem AAx : Ab Tryz.prog AIC := Env.AZ Jl AOE (fun _ => AJ rfl rfl) (fun _ => AH rfl rfl)
abbrev AIQ : Hints := { fp := fun n => match n with | 1 => [[], [], [], [], [1], [], [], [], [], [3], []] | _ => [] }
theorem ABD : ∀ v, Hd v = AP Tryz.prog AIC AIQ Tryz.f181 J3 J2 J1 v := by
 rintro ⟨a0, a1, ⟨⟩⟩
 kernel_rfl
theorem AIP : AD (AU Tryz.f181) 0 = [] := by kernel_rfl
theorem WN : AQ Tryz.prog 181 (AF 2 J3 J2 J1 EA) := AI AAx Tryz.func181 (by kernel_rfl) (by kernel_rfl) rfl (fun v => (N6 v).trans (ABD v)) (AA AIP trivial)
def K6 : Env := AIC.ext 181 true true (AF 2 J3 J2 J1 EA)
theorem K5 : Ab Tryz.prog K6 := Env.AZ AAx WN (fun _ => AJ rfl rfl) (fun _ => AH rfl rfl)
end
end Go.Pev
end
section
namespace Go.Pev
open Go.Proofs
set_option maxRecDepth 100000
noncomputable section
abbrev AYc : Hints := { fp := fun n => match n with | 13 => [[0], [0], [], [], [], [], [102], [], [110, 100], [], [3], []] | 11 => [[], [0], [0], [], [], [], [], [87, 96], [], [60], [99, 60], []] | 7 => [[0], [], [], [0], [], [], [], []] | 5 => [[0], [], [], [0], [], [], [], []] | _ => [] }
theorem APn : ∀ v, G8 v = AP Tryz.prog K6 AYc Tryz.f158 ZI ZH ZG v := by
 rintro ⟨a0, a1, a2, ⟨⟩⟩
 kernel_rfl
theorem AYb : AD (AU Tryz.f158) 0 = [] := by kernel_rfl
theorem ALK : AQ Tryz.prog 158 (AF 3 ZI ZH ZG KZ) := AI K5 Tryz.func158 (by kernel_rfl) (by kernel_rfl) rfl (fun v => (IX v).trans (APn v)) (AA AYb trivial)
def QC : Env := K6.ext 158 true true (AF 3 ZI ZH ZG KZ)
theorem LI : Ab Tryz.prog QC := Env.AZ K5 ALK (fun _ => AJ rfl rfl) (fun _ => AH rfl rfl)
abbrev XD : Hints := { loop := fun n => match n with | 0 => Ac 0 26 ACv ACu Et | _ => fun _ _ _ => none, fp := fun n => match n with | 6 => [[], [], [], [], [], [], [], [], []] | _ => [] }
theorem AFH : ∀ v, Et v = roundOf Tryz.prog QC XD 1 0 26 (AB Tryz.f19 0) ACv ACu v := by
 rintro ⟨a0, a1, a2, ⟨⟩⟩
 kernel_rfl
theorem ATf : AD (AB Tryz.f19 0) 1 = [] := by kernel_rfl
theorem ATg : Aa Tryz.prog 0 (.loop (AB Tryz.f19 0)) (XD.loop 0) := AW LI (AFH) (AA ATf trivial)
theorem ANd : ∀ v, OL v = AP Tryz.prog QC XD Tryz.f19 XC XB XA v := by
 rintro ⟨a0, a1, ⟨⟩⟩
 kernel_rfl
theorem AXC : AD (AU Tryz.f19) 0 = [(0, AB Tryz.f19 0)] := by kernel_rfl
theorem AJK : AQ Tryz.prog 19 (AF 2 XC XB XA XE) := AI LI Tryz.func19 (by kernel_rfl) (by kernel_rfl) rfl (fun v => (ACw v).trans (ANd v)) (AA AXC ⟨ATg, trivial⟩)
def Pu : Env := QC.ext 19 true true (AF 2 XC XB XA XE)
theorem LB : Ab Tryz.prog Pu := Env.AZ LI AJK (fun _ => AJ rfl rfl) (fun _ => AH rfl rfl)
abbrev Qi : Hints := { loop := fun n => match n with | 0 => Ac 0 49 Wv Wu Ds | _ => fun _ _ _ => none, fp := fun n => match n with | 6 => [[], [], [], [], [], [], [], [], [], [], [], [], [0], [0], [], [], [], [], [], [], [], [], [], [], [], [], [], [], [], [], [0], [0], [], []] | _ => [] }
theorem ABG : ∀ v, Ds v = roundOf Tryz.prog Pu Qi 1 0 49 (AB Tryz.f106 0) Wv Wu v := by
 rintro ⟨a0, a1, a2, a3, ⟨⟩⟩
 kernel_rfl
theorem ANE : AD (AB Tryz.f106 0) 1 = [] := by kernel_rfl
theorem ANF : Aa Tryz.prog 0 (.loop (AB Tryz.f106 0)) (Qi.loop 0) := AW LB (ABG) (AA ANE trivial)
theorem AIy : ∀ v, LQ v = AP Tryz.prog Pu Qi Tryz.f106 Qh Qg Qf v := by
 rintro ⟨a0, a1, ⟨⟩⟩
 kernel_rfl
theorem ATQ : AD (AU Tryz.f106) 0 = [(0, AB Tryz.f106 0)] := by kernel_rfl
theorem AEr : AQ Tryz.prog 106 (AF 2 Qh Qg Qf OG) := AI LB Tryz.func106 (by kernel_rfl) (by kernel_rfl) rfl (fun v => (Ww v).trans (AIy v)) (AA ATQ ⟨ANF, trivial⟩)
def MF : Env := Pu.ext 106 true true (AF 2 Qh Qg Qf OG)
theorem Je : Ab Tryz.prog MF := Env.AZ LB AEr (fun _ => AJ rfl rfl) (fun _ => AH rfl rfl)
abbrev Rz : Hints := { loop := fun n => match n with | 0 => Ac 0 48 ZE ZD Dz | _ => fun _ _ _ => none, fp := fun n => match n with | 8 => [[0], [], [], [], [], [], [], [], [], [], [], [], [], [], [], [], [15], []] | _ => [] }
theorem ABu : ∀ v, Dz v = roundOf Tryz.prog MF Rz 1 0 48 (AB Tryz.f128 0) ZE ZD v := by
 rintro ⟨a0, a1, a2, a3, a4, a5, ⟨⟩⟩
 kernel_rfl
theorem APk : AD (AB Tryz.f128 0) 1 = [] := by kernel_rfl
theorem APl : Aa Tryz.prog 0 (.loop (AB Tryz.f128 0)) (Rz.loop 0) := AW Je (ABu) (AA APk trivial)
theorem ALI : ∀ v, Lw v = AP Tryz.prog MF Rz Tryz.f128 Ry Rx Rw v := by
 rintro ⟨a0, a1, ⟨⟩⟩
 kernel_rfl
theorem AU0 : AD (AU Tryz.f128) 0 = [(0, AB Tryz.f128 0)] := by kernel_rfl
theorem AGd : AQ Tryz.prog 128 (AF 2 Ry Rx Rw Ot) := AI Je Tryz.func128 (by kernel_rfl) (by kernel_rfl) rfl (fun v => (ZF v).trans (ALI v)) (AA AU0 ⟨APl, trivial⟩)
def S7 : Env := MF.ext 128 true true (AF 2 Ry Rx Rw Ot)
theorem QB : Ab Tryz.prog S7 := Env.AZ Je AGd (fun _ => AJ rfl rfl) (fun _ => AH rfl rfl)
abbrev AcC : Hints := {  }
theorem AYG : ∀ v, AGC v = AP Tryz.prog S7 AcC Tryz.f94 AO8 AO7 AO6 v := by
 rintro ⟨a0, a1, ⟨⟩⟩
 kernel_rfl
theorem AcB : AD (AU Tryz.f94) 0 = [] := by kernel_rfl
theorem AUS : AQ Tryz.prog 94 (AF 2 AO8 AO7 AO6 AYH) := AI QB Tryz.func94 (by kernel_rfl) (by kernel_rfl) rfl (fun v => (AR7 v).trans (AYG v)) (AA AcB trivial)
def AIF : Env := S7.ext 94 true true (AF 2 AO8 AO7 AO6 AYH)
theorem S2 : Ab Tryz.prog AIF := Env.AZ QB AUS (fun _ => AJ rfl rfl) (fun _ => AH rfl rfl)
abbrev Zz : Hints := { loop := fun n => match n with | 0 => Ac 0 41 ADm ADl FI | _ => fun _ _ _ => none }
theorem AHI : ∀ v, FI v = roundOf Tryz.prog AIF Zz 1 0 41 (AB Tryz.f35 0) ADm ADl v := by
 rintro ⟨a0, a1, a2, a3, a4, ⟨⟩⟩
 kernel_rfl
theorem AVn : AD (AB Tryz.f35 0) 1 = [] := by kernel_rfl
theorem AVo : Aa Tryz.prog 0 (.loop (AB Tryz.f35 0)) (Zz.loop 0) := AW S2 (AHI) (AA AVn trivial)
theorem AQZ : ∀ v, Kk v = AP Tryz.prog AIF Zz Tryz.f35 Zy Zx Zw v := by
 rintro ⟨a0, a1, a2, ⟨⟩⟩
 kernel_rfl
theorem AZP : AD (AU Tryz.f35) 0 = [(0, AB Tryz.f35 0)] := by kernel_rfl
theorem AL1 : AQ Tryz.prog 35 (AF 3 Zy Zx Zw Nb) := AI S2 Tryz.func35 (by kernel_rfl) (by kernel_rfl) rfl (fun v => (SR v).trans (AQZ v)) (AA AZP ⟨AVo, trivial⟩)
def QI : Env := AIF.ext 35 true true (AF 3 Zy Zx Zw Nb)
theorem LL : Ab Tryz.prog QI := Env.AZ S2 AL1 (fun _ => AJ rfl rfl) (fun _ => AH rfl rfl)
abbrev QZ : Hints := { loop := fun n => match n with | 0 => Ac 0 47 Wj Wi Dr | _ => fun _ _ _ => none, fp := fun n => match n with | 6 => [[], [0], [0], [], [], [], [], [0], [0], [], [], [], [], [], [], [3, 4], []] | _ => [] }
theorem ABF : ∀ v, Dr v = roundOf Tryz.prog QI QZ 1 0 47 (AB Tryz.f78 0) Wj Wi v := by
 rintro ⟨a0, a1, a2, a3, a4, ⟨⟩⟩
 kernel_rfl
theorem AM4 : AD (AB Tryz.f78 0) 1 = [] := by kernel_rfl
theorem AM5 : Aa Tryz.prog 0 (.loop (AB Tryz.f78 0)) (QZ.loop 0) := AW LL (ABF) (AA AM4 trivial)
theorem AIj : ∀ v, LN v = AP Tryz.prog QI QZ Tryz.f78 QY QX QW v := by
 rintro ⟨a0, a1, ⟨⟩⟩
 kernel_rfl
theorem ATA : AD (AU Tryz.f78) 0 = [(0, AB Tryz.f78 0)] := by kernel_rfl
theorem AEX : AQ Tryz.prog 78 (AF 2 QY QX QW OD) := AI LL Tryz.func78 (by kernel_rfl) (by kernel_rfl) rfl (fun v => (Wk v).trans (AIj v)) (AA ATA ⟨AM5, trivial⟩)
def Sw : Env := QI.ext 78 true true (AF 2 QY QX QW OD)
theorem Pm : Ab Tryz.prog Sw := Env.AZ LL AEX (fun _ => AJ rfl rfl) (fun _ => AH rfl rfl)
abbrev AQU : Hints := { fp := fun n => match n with | 3 => [[0], [0], [0], [], [], [12], [], [], [3], []] | _ => [] }
theorem AHF : ∀ v, HJ v = AP Tryz.prog Sw AQU Tryz.f42 NY NX NW v := by
 rintro ⟨a0, a1, ⟨⟩⟩
 kernel_rfl
theorem AQT : AD (AU Tryz.f42) 0 = [] := by kernel_rfl
theorem AB3 : AQ Tryz.prog 42 (AF 2 NY NX NW Ih) := AI Pm Tryz.func42 (by kernel_rfl) (by kernel_rfl) rfl (fun v => (Ki v).trans (AHF v)) (AA AQT trivial)
def Js : Env := Sw.ext 42 true true (AF 2 NY NX NW Ih)
theorem IL : Ab Tryz.prog Js := Env.AZ Pm AB3 (fun _ => AJ rfl rfl) (fun _ => AH rfl rfl)
abbrev W5 : Hints := { loop := fun n => match n with | 0 => Ac 0 38 ACr ACq EC | _ => fun _ _ _ => none, fp := fun n => match n with | 6 => [[0], [0], [], [], [], [2], [2], [], [], [], []] | _ => [] }
theorem AFG : ∀ v, EC v = roundOf Tryz.prog Js W5 1 0 38 (AB Tryz.f55 0) ACr ACq v := by
 rintro ⟨a0, a1, a2, a3, a4, ⟨⟩⟩
 kernel_rfl
theorem ATd : AD (AB Tryz.f55 0) 1 = [] := by kernel_rfl
theorem ATe : Aa Tryz.prog 0 (.loop (AB Tryz.f55 0)) (W5.loop 0) := AW IL (AFG) (AA ATd trivial)
theorem ANa : ∀ v, OJ v = AP Tryz.prog Js W5 Tryz.f55 W4 W3 W2 v := by
 rintro ⟨a0, a1, ⟨⟩⟩
 kernel_rfl
theorem AW9 : AD (AU Tryz.f55) 0 = [(0, AB Tryz.f55 0)] := by kernel_rfl
theorem AJI : AQ Tryz.prog 55 (AF 2 W4 W3 W2 W6) := AI IL Tryz.func55 (by kernel_rfl) (by kernel_rfl) rfl (fun v => (ACs v).trans (ANa v)) (AA AW9 ⟨ATe, trivial⟩)
def AAt : Env := Js.ext 55 true true (AF 2 W4 W3 W2 W6)
theorem UO : Ab Tryz.prog AAt := Env.AZ IL AJI (fun _ => AJ rfl rfl) (fun _ => AH rfl rfl)
abbrev AU3 : Hints := { fp := fun n => match n with | 3 => [[0], [0], [0], [], [], [12], [], [], [3], []] | _ => [] }
theorem ALL : ∀ v, Gf v = AP Tryz.prog AAt AU3 Tryz.f41 R2 R1 R0 v := by
 rintro ⟨a0, a1, ⟨⟩⟩
 kernel_rfl
theorem AU2 : AD (AU Tryz.f41) 0 = [] := by kernel_rfl
theorem AGe : AQ Tryz.prog 41 (AF 2 R2 R1 R0 GS) := AI UO Tryz.func41 (by kernel_rfl) (by kernel_rfl) rfl (fun v => (JM v).trans (ALL v)) (AA AU2 trivial)
def S8 : Env := AAt.ext 41 true true (AF 2 R2 R1 R0 GS)
theorem QD : Ab Tryz.prog S8 := Env.AZ UO AGe (fun _ => AJ rfl rfl) (fun _ => AH rfl rfl)
abbrev Aav : Hints := {  }
theorem AU6 : ∀ v, Vw v = AP Tryz.prog S8 Aav Tryz.f168 AGk AGj AGi v := by
 rintro ⟨a0, a1, ⟨⟩⟩
 kernel_rfl
theorem Aau : AD (AU Tryz.f168) 0 = [] := by kernel_rfl
theorem APp : AQ Tryz.prog 168 (AF 2 AGk AGj AGi Dh) := AI QD Tryz.func168 (by kernel_rfl) (by kernel_rfl) rfl (fun v => (ALN v).trans (AU6 v)) (AA Aau trivial)
def QE : Env := S8.ext 168 true true (AF 2 AGk AGj AGi Dh)
theorem Jo : Ab Tryz.prog QE := Env.AZ QD APp (fun _ => AJ rfl rfl) (fun _ => AH rfl rfl)
abbrev Zd : Hints := { loop := fun n => match n with | 0 => Ac 1 49 ASO ASM Lz | 1 => Ac 1 49 ASN ASL Ly | _ => fun _ _ _ => none, fp := fun n => match n with | 4 => [[], [], [], [], [], [], [0], [0], [], [], [], [0], [0], [], []] | 6 => [[], [], [], [], [], [], [], [], [0], [0], [], [], [0], [0], [0], [1], [0], [1]] | _ => [] }
theorem AP8 : ∀ v, Ly v = roundOf Tryz.prog QE Zd 2 1 49 (AB Tryz.f162 1) ASN ASL v := by
 rintro ⟨a0, a1, a2, a3, a4, ⟨⟩⟩
 kernel_rfl
theorem Aa4 : AD (AB Tryz.f162 1) 2 = [] := by kernel_rfl
theorem Aa6 : Aa Tryz.prog 1 (.loop (AB Tryz.f162 1)) (Zd.loop 1) := AW Jo (AP8) (AA Aa4 trivial)
theorem AP9 : ∀ v, Lz v = roundOf Tryz.prog QE Zd 1 1 49 (AB Tryz.f162 0) ASO ASM v := by
 rintro ⟨a0, a1, a2, a3, ⟨⟩⟩
 kernel_rfl
theorem Aa5 : AD (AB Tryz.f162 0) 1 = [(1, AB Tryz.f162 1)] := by kernel_rfl
theorem Aa7 : Aa Tryz.prog 1 (.loop (AB Tryz.f162 0)) (Zd.loop 0) := AW Jo (AP9) (AA Aa5 ⟨Aa6, trivial⟩)
theorem AYm : ∀ v, AGv v = AP Tryz.prog QE Zd Tryz.f162 AQC AQB AQA v := by
 rintro ⟨a0, a1, a2, ⟨⟩⟩
 kernel_rfl
theorem AcL : AD (AU Tryz.f162) 0 = [(0, AB Tryz.f162 0)] := by kernel_rfl
theorem AVH : AQ Tryz.prog 162 (AF 3 AQC AQB AQA AVI) := AI Jo Tryz.func162 (by kernel_rfl) (by kernel_rfl) rfl (fun v => (ASP v).trans (AYm v)) (AA AcL ⟨Aa7, trivial⟩)
def AIJ : Env := QE.ext 162 false true (AF 3 AQC AQB AQA AVI)
theorem TA : Ab Tryz.prog AIJ := Env.AZ Jo AVH ((by simp)) (fun _ => AH rfl rfl)
end
end Go.Pev
end
section
namespace Go.Pev
open Go.Proofs
set_option maxRecDepth 100000
noncomputable section
abbrev AE9 : Hints := { loop := fun n => match n with | 0 => Ac 1 76 AJA AI9 IM | _ => fun _ _ _ => none, fp := fun n => match n with | 6 => [[], [], [], [], [], [], [], [], [], [], [], [], [0], [0], [], [], [], [], [0], [0], [0], [1], [0], [1]] | 5 => [[], [], [], [], [0], [0], [], [], [], [], [0], [0], [], []] | 3 => [[], [], [], [], [], [], [], [], [], [0], [0], [], [], [], [], [], [0], [0], [], []] | _ => [] }
theorem AI8 : ∀ v, IM v = roundOf Tryz.prog AIJ AE9 1 1 76 (AB Tryz.f189 0) AJA AI9 v := by
 rintro ⟨a0, a1, a2, a3, ⟨⟩⟩
 kernel_rfl
theorem AW5 : AD (AB Tryz.f189 0) 1 = [] := by kernel_rfl
theorem AW6 : Aa Tryz.prog 1 (.loop (AB Tryz.f189 0)) (AE9.loop 0) := AW TA (AI8) (AA AW5 trivial)
theorem ATb : ∀ v, Vi v = AP Tryz.prog AIJ AE9 Tryz.f189 AE8 AE7 AE6 v := by
 rintro ⟨a0, a1, a2, a3, ⟨⟩⟩
 kernel_rfl
theorem AaF : AD (AU Tryz.f189) 0 = [(0, AB Tryz.f189 0)] := by kernel_rfl
theorem ANU : AQ Tryz.prog 189 (AF 4 AE8 AE7 AE6 ACn) := AI TA Tryz.func189 (by kernel_rfl) (by kernel_rfl) rfl (fun v => (AJB v).trans (ATb v)) (AA AaF ⟨AW6, trivial⟩)
def Ps : Env := AIJ.ext 189 false true (AF 4 AE8 AE7 AE6 ACn)
theorem Jh : Ab Tryz.prog Ps := Env.AZ TA ANU ((by simp)) (fun _ => AH rfl rfl)
abbrev PD : Hints := { loop := fun n => match n with | 0 => Ac 1 56 ALk ALi Ie | 1 => Ac 1 56 ALj ALh Ic | _ => fun _ _ _ => none, fp := fun n => match n with | 10 => [[], [], [], [], [], [], [], [], [], [], [0], [0], [], [], [0], [0], [0], [1], [0], [1]] | _ => [] }
theorem ALf : ∀ v, Ic v = roundOf Tryz.prog Ps PD 2 1 56 (AB Tryz.f163 1) ALj ALh v := by
 rintro ⟨a0, a1, a2, a3, ⟨⟩⟩
 kernel_rfl
theorem AY2 : AD (AB Tryz.f163 1) 2 = [] := by kernel_rfl
theorem AY4 : Aa Tryz.prog 1 (.loop (AB Tryz.f163 1)) (PD.loop 1) := AW Jh (ALf) (AA AY2 trivial)
theorem ALg : ∀ v, Ie v = roundOf Tryz.prog Ps PD 1 1 56 (AB Tryz.f163 0) ALk ALi v := by
 rintro ⟨a0, a1, a2, a3, a4, ⟨⟩⟩
 kernel_rfl
theorem AY3 : AD (AB Tryz.f163 0) 1 = [] := by kernel_rfl
theorem AY5 : Aa Tryz.prog 1 (.loop (AB Tryz.f163 0)) (PD.loop 0) := AW Jh (ALg) (AA AY3 trivial)
theorem AVT : ∀ v, Vy v = AP Tryz.prog Ps PD Tryz.f163 AG7 AG6 AG5 v := by
 rintro ⟨a0, a1, a2, ⟨⟩⟩
 kernel_rfl
theorem AbE : AD (AU Tryz.f163) 0 = [(0, AB Tryz.f163 0), (1, AB Tryz.f163 1)] := by kernel_rfl
theorem AQJ : AQ Tryz.prog 163 (AF 3 AG7 AG6 AG5 ADg) := AI Jh Tryz.func163 (by kernel_rfl) (by kernel_rfl) rfl (fun v => (ALl v).trans (AVT v)) (AA AbE ⟨AY5, AY4, trivial⟩)
def WK : Env := Ps.ext 163 false true (AF 3 AG7 AG6 AG5 ADg)
theorem N0 : Ab Tryz.prog WK := Env.AZ Jh AQJ ((by simp)) (fun _ => AH rfl rfl)
abbrev AAd : Hints := { loop := fun n => match n with | 0 => Ac 1 65 ADy ADx FO | _ => fun _ _ _ => none, fp := fun n => match n with | 10 => [[], [], [], [], [], [], [], [], [], [], [0], [0], [], [], [0], [0], [0], [1], [0], [1]] | _ => [] }
theorem AHp : ∀ v, FO v = roundOf Tryz.prog WK AAd 1 1 65 (AB Tryz.f164 0) ADy ADx v := by
 rintro ⟨a0, a1, a2, a3, a4, a5, ⟨⟩⟩
 kernel_rfl
theorem AWC : AD (AB Tryz.f164 0) 1 = [] := by kernel_rfl
theorem AWD : Aa Tryz.prog 1 (.loop (AB Tryz.f164 0)) (AAd.loop 0) := AW N0 (AHp) (AA AWC trivial)
theorem ARC : ∀ v, Pd v = AP Tryz.prog WK AAd Tryz.f164 AAc AAb AAa v := by
 rintro ⟨a0, a1, a2, ⟨⟩⟩
 kernel_rfl
theorem AZg : AD (AU Tryz.f164) 0 = [(0, AB Tryz.f164 0)] := by kernel_rfl
theorem AMc : AQ Tryz.prog 164 (AF 3 AAc AAb AAa Sj) := AI N0 Tryz.func164 (by kernel_rfl) (by kernel_rfl) rfl (fun v => (ADz v).trans (ARC v)) (AA AZg ⟨AWD, trivial⟩)
def ABB : Env := WK.ext 164 false true (AF 3 AAc AAb AAa Sj)
theorem VB : Ab Tryz.prog ABB := Env.AZ N0 AMc ((by simp)) (fun _ => AH rfl rfl)
abbrev AUM : Hints := { fp := fun n => match n with | 1 => [[], [], [0], [0], [], [], [0], [0], []] | _ => [] }
theorem AKu : ∀ v, Lh v = AP Tryz.prog ABB AUM Tryz.f205 RT RR RQ v := by
 rintro ⟨a0, a1, a2, a3, ⟨⟩⟩
 kernel_rfl
theorem AUL : AD (AU Tryz.f205) 0 = [] := by kernel_rfl
theorem AF8 : AQ Tryz.prog 205 (AF 4 RT RR RQ JD) := AI VB Tryz.func205 (by kernel_rfl) (by kernel_rfl) rfl (fun v => (Yd v).trans (AKu v)) (AA AUL trivial)
def S1 : Env := ABB.ext 205 false true (AF 4 RT RR RQ JD)
theorem Pz : Ab Tryz.prog S1 := Env.AZ VB AF8 ((by simp)) (fun _ => AH rfl rfl)
abbrev AUg : Hints := {  }
theorem AK2 : ∀ v, Ln v = AP Tryz.prog S1 AUg Tryz.f193 Rg Rf Re v := by
 rintro ⟨a0, a1, a2, a3, a4, ⟨⟩⟩
 kernel_rfl
theorem AUf : AD (AU Tryz.f193) 0 = [] := by kernel_rfl
theorem AGK : AQ Tryz.prog 193 (AF 5 Rg Rf Re JJ) := AI Pz Tryz.func193 (by kernel_rfl) (by kernel_rfl) rfl (fun v => (Yn v).trans (AK2 v)) (AA AUf trivial)
def S4 : Env := S1.ext 193 false true (AF 5 Rg Rf Re JJ)
theorem P5 : Ab Tryz.prog S4 := Env.AZ Pz AGK ((by simp)) (fun _ => AH rfl rfl)
abbrev AUk : Hints := {  }
theorem AK4 : ∀ v, Lq v = AP Tryz.prog S4 AUk Tryz.f192 Rm Rl Rk v := by
 rintro ⟨a0, a1, a2, ⟨⟩⟩
 kernel_rfl
theorem AUj : AD (AU Tryz.f192) 0 = [] := by kernel_rfl
theorem AGN : AQ Tryz.prog 192 (AF 3 Rm Rl Rk JK) := AI P5 Tryz.func192 (by kernel_rfl) (by kernel_rfl) rfl (fun v => (Yo v).trans (AK4 v)) (AA AUj trivial)
def S6 : Env := S4.ext 192 false true (AF 3 Rm Rl Rk JK)
theorem P7 : Ab Tryz.prog S6 := Env.AZ P5 AGN ((by simp)) (fun _ => AH rfl rfl)
abbrev AXa : Hints := {  }
theorem AOT : ∀ v, OT v = AP Tryz.prog S6 AXa Tryz.f165 X3 X2 X1 v := by
 rintro ⟨a0, a1, a2, ⟨⟩⟩
 kernel_rfl
theorem AXZ : AD (AU Tryz.f165) 0 = [] := by kernel_rfl
theorem AJk : AQ Tryz.prog 165 (AF 3 X3 X2 X1 RB) := AI P7 Tryz.func165 (by kernel_rfl) (by kernel_rfl) rfl (fun v => (ADB v).trans (AOT v)) (AA AXZ trivial)
def Px : Env := S6.ext 165 false true (AF 3 X3 X2 X1 RB)
theorem LD : Ab Tryz.prog Px := Env.AZ P7 AJk ((by simp)) (fun _ => AH rfl rfl)
abbrev AN4 : Hints := { loop := fun n => match n with | 0 => Ac 1 32 ARo ARn OP | _ => fun _ _ _ => none, fp := fun n => match n with | 3 => [[], [], [], [], [], [], [0], [0], [], [], [0], [0], [0], [1], [0], [1]] | _ => [] }
theorem AN0 : ∀ v, OP v = roundOf Tryz.prog Px AN4 1 1 32 (AB Tryz.f166 0) ARo ARn v := by
 rintro ⟨a0, a1, a2, ⟨⟩⟩
 kernel_rfl
theorem AaO : AD (AB Tryz.f166 0) 1 = [] := by kernel_rfl
theorem AaP : Aa Tryz.prog 1 (.loop (AB Tryz.f166 0)) (AN4.loop 0) := AW LD (AN0) (AA AaO trivial)
theorem AXL : ∀ v, AFO v = AP Tryz.prog Px AN4 Tryz.f166 AN3 AN2 AN1 v := by
 rintro ⟨a0, a1, a2, ⟨⟩⟩
 kernel_rfl
theorem Ab1 : AD (AU Tryz.f166) 0 = [(0, AB Tryz.f166 0)] := by kernel_rfl
theorem ATq : AQ Tryz.prog 166 (AF 3 AN3 AN2 AN1 ATs) := AI LD Tryz.func166 (by kernel_rfl) (by kernel_rfl) rfl (fun v => (ARp v).trans (AXL v)) (AA Ab1 ⟨AaP, trivial⟩)
def Nw : Env := Px.ext 166 false true (AF 3 AN3 AN2 AN1 ATs)
theorem Gm : Ab Tryz.prog Nw := Env.AZ LD ATq ((by simp)) (fun _ => AH rfl rfl)
abbrev CW : Hints := { loop := fun n => match n with | 0 => Ac 1 133 Tq Tm B5 | 1 => Ac 1 133 Tp Tl Fp | 2 => Ac 1 133 To Tk EH | 3 => Ac 1 133 Tn Tj EG | _ => fun _ _ _ => none, fp := fun n => match n with | 11 => [[], [], [], [], [], [], [], [], [0], [0], [], [], [0], [0], [0], [1], [0], [1]] | 5 => [[], [], [], [], [], [], [0], [0], [], [], [], [0], [0], [], [], []] | 17 => [[], [], [], [], [], [], [], [], [0], [0], [], [], [0], [0], [0], [1], [0], [1]] | 16 => [[], [], [0], [0], [], [], [], [0], [0], [], []] | 23 => [[], [], [], [], [], [], [], [], [0], [0], [], [], [0], [0], [0], [1], [0], [1]] | 22 => [[], [], [0], [0], [], [], [], [0], [0], [], []] | _ => [] }
theorem YH : ∀ v, EG v = roundOf Tryz.prog Nw CW 4 1 133 (AB Tryz.f167 3) Tn Tj v := by
 rintro ⟨a0, a1, a2, a3, a4, a5, ⟨⟩⟩
 kernel_rfl
theorem AKH : AD (AB Tryz.f167 3) 4 = [] := by kernel_rfl
theorem AKL : Aa Tryz.prog 1 (.loop (AB Tryz.f167 3)) (CW.loop 3) := AW Gm (YH) (AA AKH trivial)
theorem YI : ∀ v, EH v = roundOf Tryz.prog Nw CW 3 1 133 (AB Tryz.f167 2) To Tk v := by
 rintro ⟨a0, a1, a2, a3, a4, a5, ⟨⟩⟩
 kernel_rfl
theorem AKI : AD (AB Tryz.f167 2) 3 = [] := by kernel_rfl
theorem AKM : Aa Tryz.prog 1 (.loop (AB Tryz.f167 2)) (CW.loop 2) := AW Gm (YI) (AA AKI trivial)
theorem YJ : ∀ v, Fp v = roundOf Tryz.prog Nw CW 2 1 133 (AB Tryz.f167 1) Tp Tl v := by
 rintro ⟨a0, a1, a2, a3, a4, ⟨⟩⟩
 kernel_rfl
theorem AKJ : AD (AB Tryz.f167 1) 2 = [] := by kernel_rfl
theorem AKN : Aa Tryz.prog 1 (.loop (AB Tryz.f167 1)) (CW.loop 1) := AW Gm (YJ) (AA AKJ trivial)
theorem YK : ∀ v, B5 v = roundOf Tryz.prog Nw CW 1 1 133 (AB Tryz.f167 0) Tq Tm v := by
 rintro ⟨a0, a1, a2, a3, a4, ⟨⟩⟩
 kernel_rfl
theorem AKK : AD (AB Tryz.f167 0) 1 = [(1, AB Tryz.f167 1), (2, AB Tryz.f167 2), (3, AB Tryz.f167 3)] := by kernel_rfl
theorem AKO : Aa Tryz.prog 1 (.loop (AB Tryz.f167 0)) (CW.loop 0) := AW Gm (YK) (AA AKK ⟨AKN, AKM, AKL, trivial⟩)
theorem AFw : ∀ v, I8 v = AP Tryz.prog Nw CW Tryz.f167 M7 M6 M5 v := by
 rintro ⟨a0, a1, a2, ⟨⟩⟩
 kernel_rfl
theorem AOe : AD (AU Tryz.f167) 0 = [(0, AB Tryz.f167 0)] := by kernel_rfl
theorem ABZ : AQ Tryz.prog 167 (AF 3 M7 M6 M5 IT) := AI Gm Tryz.func167 (by kernel_rfl) (by kernel_rfl) rfl (fun v => (Tr v).trans (AFw v)) (AA AOe ⟨AKO, trivial⟩)
def FW : Env := Nw.ext 167 false true (AF 3 M7 M6 M5 IT)
theorem Dl : Ab Tryz.prog FW := Env.AZ Gm ABZ ((by simp)) (fun _ => AH rfl rfl)
abbrev E1 : Hints := { loop := fun n => match n with | 0 => Ac 1 84 YZ YW G5 | 1 => Ac 1 84 YY YV G4 | 2 => Ac 1 84 YX YU G3 | _ => fun _ _ _ => none, fp := fun n => match n with | 8 => [[], [], [], [], [], [], [0], [0], [], [], [0], [0], [0], [1], [0], [1]] | 3 => [[], [], [], [], [], [], [0], [0], [], [], [0], [0], [], [], []] | 5 => [[], [], [], [], [], [], [0], [0], [], [], [0], [0], [], []] | 1 => [[], [], [], [], [], [], [0], [0], [], [], [0], [0], [0], [1], [0], [1]] | _ => [] }
theorem ABj : ∀ v, G3 v = roundOf Tryz.prog FW E1 3 1 84 (AB Tryz.f169 2) YX YU v := by
 rintro ⟨a0, a1, a2, a3, ⟨⟩⟩
 kernel_rfl
theorem AOp : AD (AB Tryz.f169 2) 3 = [] := by kernel_rfl
theorem AOs : Aa Tryz.prog 1 (.loop (AB Tryz.f169 2)) (E1.loop 2) := AW Dl (ABj) (AA AOp trivial)
theorem ABl : ∀ v, G4 v = roundOf Tryz.prog FW E1 2 1 84 (AB Tryz.f169 1) YY YV v := by
 rintro ⟨a0, a1, a2, a3, ⟨⟩⟩
 kernel_rfl
theorem AOq : AD (AB Tryz.f169 1) 2 = [] := by kernel_rfl
theorem AOt : Aa Tryz.prog 1 (.loop (AB Tryz.f169 1)) (E1.loop 1) := AW Dl (ABl) (AA AOq trivial)
theorem ABn : ∀ v, G5 v = roundOf Tryz.prog FW E1 1 1 84 (AB Tryz.f169 0) YZ YW v := by
 rintro ⟨a0, a1, a2, a3, ⟨⟩⟩
 kernel_rfl
theorem AOr : AD (AB Tryz.f169 0) 1 = [(1, AB Tryz.f169 1), (2, AB Tryz.f169 2)] := by kernel_rfl
theorem AOu : Aa Tryz.prog 1 (.loop (AB Tryz.f169 0)) (E1.loop 0) := AW Dl (ABn) (AA AOr ⟨AOt, AOs, trivial⟩)
theorem AKq : ∀ v, Le v = AP Tryz.prog FW E1 Tryz.f169 RM RL RK v := by
 rintro ⟨a0, a1, a2, a3, ⟨⟩⟩
 kernel_rfl
theorem AUG : AD (AU Tryz.f169) 0 = [(0, AB Tryz.f169 0)] := by kernel_rfl
theorem AF3 : AQ Tryz.prog 169 (AF 4 RM RL RK Lf) := AI Dl Tryz.func169 (by kernel_rfl) (by kernel_rfl) rfl (fun v => (Ya v).trans (AKq v)) (AA AUG ⟨AOu, trivial⟩)
def ER : Env := FW.ext 169 false true (AF 4 RM RL RK Lf)
theorem Cg : Ab Tryz.prog ER := Env.AZ Dl AF3 ((by simp)) (fun _ => AH rfl rfl)
abbrev EY : Hints := { loop := fun n => match n with | 0 => Ac 1 168 AKi AKd KP | 1 => Ac 1 168 AKh AKc KO | 2 => Ac 1 168 AKg AKb KN | 3 => Ac 1 168 AKf AKa KM | 4 => Ac 1 168 AKe AKZ KL | _ => fun _ _ _ => none, fp := fun n => match n with | 3 => [[], [], [], [], [], [], [0], [0], [], [], [0], [0], [], []] | 5 => [[], [], [], [], [], [], [0], [0], [], [], [0], [0], [], [], []] | 18 => [[], [], [], [], [], [], [0], [0], [], [], [0], [0], [0], [1], [0], [1]] | 13 => [[], [], [], [], [], [], [0], [0], [], [], [0], [0], [], []] | 15 => [[], [], [], [], [], [], [0], [0], [], [], [0], [0], [], [], []] | 21 => [[], [], [], [], [], [], [0], [0], [], [], [0], [0], [0], [1], [0], [1]] | 10 => [[], [], [], [], [], [], [0], [0], [], [], [0], [0], [0], [1], [0], [1]] | 8 => [[], [], [], [], [], [], [0], [0], [], [], [0], [0], [0], [1], [0], [1]] | 1 => [[], [], [], [], [], [], [0], [0], [], [], [0], [0], [0], [1], [0], [1]] | _ => [] }
theorem AKQ : ∀ v, KL v = roundOf Tryz.prog ER EY 5 1 168 (AB Tryz.f170 4) AKe AKZ v := by
 rintro ⟨a0, a1, a2, a3, ⟨⟩⟩
 kernel_rfl
theorem AXs : AD (AB Tryz.f170 4) 5 = [] := by kernel_rfl
theorem AXx : Aa Tryz.prog 1 (.loop (AB Tryz.f170 4)) (EY.loop 4) := AW Cg (AKQ) (AA AXs trivial)
theorem AKS : ∀ v, KM v = roundOf Tryz.prog ER EY 4 1 168 (AB Tryz.f170 3) AKf AKa v := by
 rintro ⟨a0, a1, a2, a3, ⟨⟩⟩
 kernel_rfl
theorem AXt : AD (AB Tryz.f170 3) 4 = [] := by kernel_rfl
theorem AXy : Aa Tryz.prog 1 (.loop (AB Tryz.f170 3)) (EY.loop 3) := AW Cg (AKS) (AA AXt trivial)
theorem AKU : ∀ v, KN v = roundOf Tryz.prog ER EY 3 1 168 (AB Tryz.f170 2) AKg AKb v := by
 rintro ⟨a0, a1, a2, a3, ⟨⟩⟩
 kernel_rfl
theorem AXu : AD (AB Tryz.f170 2) 3 = [(3, AB Tryz.f170 3), (4, AB Tryz.f170 4)] := by kernel_rfl
theorem AXz : Aa Tryz.prog 1 (.loop (AB Tryz.f170 2)) (EY.loop 2) := AW Cg (AKU) (AA AXu ⟨AXy, AXx, trivial⟩)
theorem AKV : ∀ v, KO v = roundOf Tryz.prog ER EY 2 1 168 (AB Tryz.f170 1) AKh AKc v := by
 rintro ⟨a0, a1, a2, a3, ⟨⟩⟩
 kernel_rfl
theorem AXv : AD (AB Tryz.f170 1) 2 = [] := by kernel_rfl
theorem AX0 : Aa Tryz.prog 1 (.loop (AB Tryz.f170 1)) (EY.loop 1) := AW Cg (AKV) (AA AXv trivial)
theorem AKX : ∀ v, KP v = roundOf Tryz.prog ER EY 1 1 168 (AB Tryz.f170 0) AKi AKd v := by
 rintro ⟨a0, a1, a2, a3, ⟨⟩⟩
 kernel_rfl
theorem AXw : AD (AB Tryz.f170 0) 1 = [] := by kernel_rfl
theorem AX1 : Aa Tryz.prog 1 (.loop (AB Tryz.f170 0)) (EY.loop 0) := AW Cg (AKX) (AA AXw trivial)
theorem AUD : ∀ v, Vp v = AP Tryz.prog ER EY Tryz.f170 AF0 AFz AFy v := by
 rintro ⟨a0, a1, a2, a3, ⟨⟩⟩
 kernel_rfl
theorem Aae : AD (AU Tryz.f170) 0 = [(0, AB Tryz.f170 0), (1, AB Tryz.f170 1), (2, AB Tryz.f170 2)] := by kernel_rfl
theorem AOf : AQ Tryz.prog 170 (AF 4 AF0 AFz AFy OZ) := AI Cg Tryz.func170 (by kernel_rfl) (by kernel_rfl) rfl (fun v => (AKj v).trans (AUD v)) (AA Aae ⟨AX1, AX0, AXz, trivial⟩)
def AIE : Env := ER.ext 170 false true (AF 4 AF0 AFz AFy OZ)
theorem AA0 : Ab Tryz.prog AIE := Env.AZ Cg AOf ((by simp)) (fun _ => AH rfl rfl)
abbrev AOa (self : (List Int × Int × Int × Int × Unit) → Option ((List Int × Unit))) : Hints := { loop := fun n => match n with | 0 => Ac 1 134 ARv ARu (Ld self) | _ => fun _ _ _ => none, fp := fun n => match n with | 17 => [[], [], [], [], [], [], [0], [0], [], [], [0], [0], [], [], []] | _ => [] }
abbrev AFm (self : (List Int × Int × Int × Int × Unit) → Option ((List Int × Unit))) : Env := AIE.ext 131 false true (AF 4 YA X9 X8 self)
theorem AOZ (self : (List Int × Int × Int × Int × Unit) → Option ((List Int × Unit))) : ∀ v, Ld self v = roundOf Tryz.prog (AFm self) (AOa self) 1 1 134 (AB Tryz.f131 0) ARv ARu v := by
 rintro ⟨a0, a1, a2, a3, a4, a5, ⟨⟩⟩
 kernel_rfl
theorem AaZ : AD (AB Tryz.f131 0) 1 = [] := by kernel_rfl
theorem Aaa (self : (List Int × Int × Int × Int × Unit) → Option ((List Int × Unit))) (hE : Ab Tryz.prog (AFm self)) : Aa Tryz.prog 1 (.loop (AB Tryz.f131 0)) ((AOa self).loop 0) := AW hE (AOZ self) (AA AaZ trivial)
theorem AXd (self : (List Int × Int × Int × Int × Unit) → Option ((List Int × Unit))) : ∀ v, AFl self v = AP Tryz.prog (AFm self) (AOa self) Tryz.f131 YA X9 X8 v := by
 rintro ⟨a0, a1, a2, a3, ⟨⟩⟩
 kernel_rfl
theorem Ab6 : AD (AU Tryz.f131) 0 = [(0, AB Tryz.f131 0)] := by kernel_rfl
theorem AOb : ∀ n, AQ Tryz.prog 131 (AF 4 YA X9 X8 (G2 n)) := by
 intro n
 induction n with
 | zero => exact Tv fun _ => rfl
 | succ n ih =>
  have hE : Ab Tryz.prog (AFm (G2 n)) := Env.AZ AA0 ih ((by simp)) (fun _ => AH rfl rfl)
  let self := G2 n
  exact AI hE Tryz.func131 (by kernel_rfl) (by kernel_rfl) rfl (AXd self) (AA Ab6 ⟨(Aaa self hE), trivial⟩)
theorem AT9 : AQ Tryz.prog 131 (AF 4 YA X9 X8 AUA) := by
 have e : AUA = G2 100 := funext ARw
 rw [e]
 exact AOb _
def ART : Env := AIE.ext 131 false true (AF 4 YA X9 X8 AUA)
theorem AD8 : Ab Tryz.prog ART := Env.AZ AA0 AT9 ((by simp)) (fun _ => AH rfl rfl)
end
end Go.Pev
end
section
namespace Go.Pev
open Go.Proofs
set_option maxRecDepth 100000
noncomputable section
abbrev AaD : Hints := {  }
theorem ATY : ∀ v, Vg v = AP Tryz.prog ART AaD Tryz.f95 AE1 AE0 AEz v := by
 rintro ⟨a0, ⟨⟩⟩
 kernel_rfl
theorem AaC : AD (AU Tryz.f95) 0 = [] := by kernel_rfl
theorem ANS : AQ Tryz.prog 95 (AF 1 AE1 AE0 AEz AI2) := AI AD8 Tryz.func95 (by kernel_rfl) (by kernel_rfl) rfl (fun v => (AI1 v).trans (ATY v)) (AA AaC trivial)
def AIA : Env := ART.ext 95 false true (AF 1 AE1 AE0 AEz AI2)
theorem AAs : Ab Tryz.prog AIA := Env.AZ AD8 ANS ((by simp)) (fun _ => AH rfl rfl)
abbrev AXB : Hints := {  }
theorem ANc : ∀ v, OK v = AP Tryz.prog AIA AXB Tryz.f47 W9 W8 W7 v := by
 rintro ⟨a0, a1, ⟨⟩⟩
 kernel_rfl
theorem AXA : AD (AU Tryz.f47) 0 = [] := by kernel_rfl
theorem AJJ : AQ Tryz.prog 47 (AF 2 W9 W8 W7 Qm) := AI AAs Tryz.func47 (by kernel_rfl) (by kernel_rfl) rfl (fun v => (ACt v).trans (ANc v)) (AA AXA trivial)
def Pt : Env := AIA.ext 47 true true (AF 2 W9 W8 W7 Qm)
theorem LA : Ab Tryz.prog Pt := Env.AZ AAs AJJ (fun _ => AJ rfl rfl) (fun _ => AH rfl rfl)
abbrev Z4 : Hints := { loop := fun n => match n with | 0 => Ac 0 26 ADo ADn EN | _ => fun _ _ _ => none, fp := fun n => match n with | 6 => [[], [], [], [], [], [], [], [], []] | _ => [] }
theorem AHN : ∀ v, EN v = roundOf Tryz.prog Pt Z4 1 0 26 (AB Tryz.f101 0) ADo ADn v := by
 rintro ⟨a0, a1, a2, a3, ⟨⟩⟩
 kernel_rfl
theorem AVq : AD (AB Tryz.f101 0) 1 = [] := by kernel_rfl
theorem AVr : Aa Tryz.prog 0 (.loop (AB Tryz.f101 0)) (Z4.loop 0) := AW LA (AHN) (AA AVq trivial)
theorem AQc : ∀ v, PI v = AP Tryz.prog Pt Z4 Tryz.f101 Z3 Z2 Z1 v := by
 rintro ⟨a0, a1, ⟨⟩⟩
 kernel_rfl
theorem AZQ : AD (AU Tryz.f101) 0 = [(0, AB Tryz.f101 0)] := by kernel_rfl
theorem AL5 : AQ Tryz.prog 101 (AF 2 Z3 Z2 Z1 Z5) := AI LA Tryz.func101 (by kernel_rfl) (by kernel_rfl) rfl (fun v => (ADp v).trans (AQc v)) (AA AZQ ⟨AVr, trivial⟩)
def AA9 : Env := Pt.ext 101 true true (AF 2 Z3 Z2 Z1 Z5)
theorem UZ : Ab Tryz.prog AA9 := Env.AZ LA AL5 (fun _ => AJ rfl rfl) (fun _ => AH rfl rfl)
abbrev Aao : Hints := {  }
theorem AUr : ∀ v, Vv v = AP Tryz.prog AA9 Aao Tryz.f54 AGU AGT AGS v := by
 rintro ⟨a0, a1, ⟨⟩⟩
 kernel_rfl
theorem Aan : AD (AU Tryz.f54) 0 = [] := by kernel_rfl
theorem APb : AQ Tryz.prog 54 (AF 2 AGU AGT AGS Y0) := AI UZ Tryz.func54 (by kernel_rfl) (by kernel_rfl) rfl (fun v => (ALA v).trans (AUr v)) (AA Aan trivial)
def WH : Env := AA9.ext 54 true true (AF 2 AGU AGT AGS Y0)
theorem Nx : Ab Tryz.prog WH := Env.AZ UZ APb (fun _ => AJ rfl rfl) (fun _ => AH rfl rfl)
abbrev ARJ : Hints := { loop := fun n => match n with | 0 => Ac 0 49 ASn ASm JX | _ => fun _ _ _ => none, fp := fun n => match n with | 5 => [[], [], [], [], [], [0], [], []] | 8 => [[], [], [], [], [], [], [], [], [], [], [0], [], [], [], [], []] | _ => [] }
theorem ARF : ∀ v, JX v = roundOf Tryz.prog WH ARJ 1 0 49 (AB Tryz.f132 0) ASn ASm v := by
 rintro ⟨a0, a1, a2, a3, a4, a5, a6, a7, ⟨⟩⟩
 kernel_rfl
theorem AbX : AD (AB Tryz.f132 0) 1 = [] := by kernel_rfl
theorem AbY : Aa Tryz.prog 0 (.loop (AB Tryz.f132 0)) (ARJ.loop 0) := AW Nx (ARF) (AA AbX trivial)
theorem AZj : ∀ v, AHs v = AP Tryz.prog WH ARJ Tryz.f132 ARI ARH ARG v := by
 rintro ⟨a0, a1, ⟨⟩⟩
 kernel_rfl
theorem AcY : AD (AU Tryz.f132) 0 = [(0, AB Tryz.f132 0)] := by kernel_rfl
theorem AWH : AQ Tryz.prog 132 (AF 3 ARI ARH ARG AWI) := AI Nx Tryz.func132 (by kernel_rfl) (by kernel_rfl) rfl (fun v => (ASo v).trans (AZj v)) (AA AcY ⟨AbY, trivial⟩)
def ARZ : Env := WH.GF 132 2 98 (AF 3 ARI ARH ARG AWI)
theorem AEF : Ab Tryz.prog ARZ := Env.Bg Nx AWH (AH rfl rfl)
abbrev AYV : Hints := {  }
theorem APd : ∀ v, Oo v = AP Tryz.prog ARZ AYV Tryz.f99 Y7 Y6 Y5 v := by
 rintro ⟨a0, a1, a2, ⟨⟩⟩
 kernel_rfl
theorem AYU : AD (AU Tryz.f99) 0 = [] := by kernel_rfl
theorem ALD : AQ Tryz.prog 99 (AF 3 Y7 Y6 Y5 AGW) := AI AEF Tryz.func99 (by kernel_rfl) (by kernel_rfl) rfl (fun v => (ADT v).trans (APd v)) (AA AYU trivial)
def AA3 : Env := ARZ.ext 99 true true (AF 3 Y7 Y6 Y5 AGW)
theorem UU : Ab Tryz.prog AA3 := Env.AZ AEF ALD (fun _ => AJ rfl rfl) (fun _ => AH rfl rfl)
abbrev Aat : Hints := {  }
theorem AU4 : ∀ v, Ou v = AP Tryz.prog AA3 Aat Tryz.f51 AGh AGg AGf v := by
 rintro ⟨a0, a1, a2, ⟨⟩⟩
 kernel_rfl
theorem Aas : AD (AU Tryz.f51) 0 = [] := by kernel_rfl
theorem APo : AQ Tryz.prog 51 (AF 3 AGh AGg AGf T1) := AI UU Tryz.func51 (by kernel_rfl) (by kernel_rfl) rfl (fun v => (ZK v).trans (AU4 v)) (AA Aas trivial)
def WI : Env := AA3.ext 51 true true (AF 3 AGh AGg AGf T1)
theorem Ny : Ab Tryz.prog WI := Env.AZ UU APo (fun _ => AJ rfl rfl) (fun _ => AH rfl rfl)
abbrev AGb : Hints := { loop := fun n => match n with | 0 => Ac 0 66 ALG ALF Fw | _ => fun _ _ _ => none }
theorem ALE : ∀ v, Fw v = roundOf Tryz.prog WI AGb 1 0 66 (AB Tryz.f43 0) ALG ALF v := by
 rintro ⟨a0, a1, a2, a3, a4, a5, a6, ⟨⟩⟩
 kernel_rfl
theorem AYY : AD (AB Tryz.f43 0) 1 = [] := by kernel_rfl
theorem AYZ : Aa Tryz.prog 0 (.loop (AB Tryz.f43 0)) (AGb.loop 0) := AW Ny (ALE) (AA AYY trivial)
theorem AUx : ∀ v, Oq v = AP Tryz.prog WI AGb Tryz.f43 AGa AGZ AGY v := by
 rintro ⟨a0, a1, a2, a3, ⟨⟩⟩
 kernel_rfl
theorem Aaq : AD (AU Tryz.f43) 0 = [(0, AB Tryz.f43 0)] := by kernel_rfl
theorem APf : AQ Tryz.prog 43 (AF 4 AGa AGZ AGY Tx) := AI Ny Tryz.func43 (by kernel_rfl) (by kernel_rfl) rfl (fun v => (Y9 v).trans (AUx v)) (AA Aaq ⟨AYZ, trivial⟩)
def QA : Env := WI.ext 43 true true (AF 4 AGa AGZ AGY Tx)
theorem Jn : Ab Tryz.prog QA := Env.AZ Ny APf (fun _ => AJ rfl rfl) (fun _ => AH rfl rfl)
abbrev IY : Hints := { loop := fun n => match n with | 0 => Ac 0 56 ZV ZT C8 | 1 => Ac 0 56 ZU ZS Ca | _ => fun _ _ _ => none, fp := fun n => match n with | 10 => [[], [4], [4], [], [], [2], [], [3], [], [3]] | 15 => [[], [], [], [], [4], [], [1, 6], [], [], [], [], [4], [], [3, 10], [], []] | _ => [] }
theorem ABw : ∀ v, Ca v = roundOf Tryz.prog QA IY 2 0 56 (AB Tryz.f45 1) ZU ZS v := by
 rintro ⟨a0, a1, a2, a3, a4, ⟨⟩⟩
 kernel_rfl
theorem APu : AD (AB Tryz.f45 1) 2 = [] := by kernel_rfl
theorem APw : Aa Tryz.prog 0 (.loop (AB Tryz.f45 1)) (IY.loop 1) := AW Jn (ABw) (AA APu trivial)
theorem ABx : ∀ v, C8 v = roundOf Tryz.prog QA IY 1 0 56 (AB Tryz.f45 0) ZV ZT v := by
 rintro ⟨a0, a1, a2, a3, a4, a5, ⟨⟩⟩
 kernel_rfl
theorem APv : AD (AB Tryz.f45 0) 1 = [] := by kernel_rfl
theorem APx : Aa Tryz.prog 0 (.loop (AB Tryz.f45 0)) (IY.loop 0) := AW Jn (ABx) (AA APv trivial)
theorem ALR : ∀ v, IZ v = AP Tryz.prog QA IY Tryz.f45 SC SB SA v := by
 rintro ⟨a0, ⟨⟩⟩
 kernel_rfl
theorem AVD : AD (AU Tryz.f45) 0 = [(0, AB Tryz.f45 0), (1, AB Tryz.f45 1)] := by kernel_rfl
theorem AGp : AQ Tryz.prog 45 (AF 1 SC SB SA JO) := AI Jn Tryz.func45 (by kernel_rfl) (by kernel_rfl) rfl (fun v => (NF v).trans (ALR v)) (AA AVD ⟨APx, APw, trivial⟩)
def MM : Env := QA.ext 45 true true (AF 1 SC SB SA JO)
theorem Jp : Ab Tryz.prog MM := Env.AZ Jn AGp (fun _ => AJ rfl rfl) (fun _ => AH rfl rfl)
abbrev Yl : Hints := { loop := fun n => match n with | 0 => Ac 0 61 ADI ADH EJ | _ => fun _ _ _ => none }
theorem AGF : ∀ v, EJ v = roundOf Tryz.prog MM Yl 1 0 61 (AB Tryz.f44 0) ADI ADH v := by
 rintro ⟨a0, a1, a2, a3, a4, a5, a6, ⟨⟩⟩
 kernel_rfl
theorem AUW : AD (AB Tryz.f44 0) 1 = [] := by kernel_rfl
theorem AUX : Aa Tryz.prog 0 (.loop (AB Tryz.f44 0)) (Yl.loop 0) := AW Jp (AGF) (AA AUW trivial)
theorem APC : ∀ v, KS v = AP Tryz.prog MM Yl Tryz.f44 Yk Yj Yi v := by
 rintro ⟨a0, a1, a2, a3, ⟨⟩⟩
 kernel_rfl
theorem AYL : AD (AU Tryz.f44) 0 = [(0, AB Tryz.f44 0)] := by kernel_rfl
theorem AKx : AQ Tryz.prog 44 (AF 4 Yk Yj Yi RY) := AI Jp Tryz.func44 (by kernel_rfl) (by kernel_rfl) rfl (fun v => (RX v).trans (APC v)) (AA AYL ⟨AUX, trivial⟩)
def P1 : Env := MM.ext 44 true true (AF 4 Yk Yj Yi RY)
theorem LF : Ab Tryz.prog P1 := Env.AZ Jp AKx (fun _ => AJ rfl rfl) (fun _ => AH rfl rfl)
abbrev Nl : Hints := { loop := fun n => match n with | 0 => Ac 0 57 UE UD DC | _ => fun _ _ _ => none, fp := fun n => match n with | 3 => [[0], [0], [], [], [], [0], [0], [], [], [], [], []] | _ => [] }
theorem AAE : ∀ v, DC v = roundOf Tryz.prog P1 Nl 1 0 57 (AB Tryz.f46 0) UE UD v := by
 rintro ⟨a0, a1, a2, a3, a4, ⟨⟩⟩
 kernel_rfl
theorem AMH : AD (AB Tryz.f46 0) 1 = [] := by kernel_rfl
theorem AMI : Aa Tryz.prog 0 (.loop (AB Tryz.f46 0)) (Nl.loop 0) := AW LF (AAE) (AA AMH trivial)
theorem AHU : ∀ v, HO v = AP Tryz.prog P1 Nl Tryz.f46 Nk Nj Ni v := by
 rintro ⟨a0, ⟨⟩⟩
 kernel_rfl
theorem AQs : AD (AU Tryz.f46) 0 = [(0, AB Tryz.f46 0)] := by kernel_rfl
theorem AB6 : AQ Tryz.prog 46 (AF 1 Nk Nj Ni Ip) := AI LF Tryz.func46 (by kernel_rfl) (by kernel_rfl) rfl (fun v => (Ko v).trans (AHU v)) (AA AQs ⟨AMI, trivial⟩)
def N2 : Env := P1.ext 46 true true (AF 1 Nk Nj Ni Ip)
theorem Mh : Ab Tryz.prog N2 := Env.AZ LF AB6 (fun _ => AJ rfl rfl) (fun _ => AH rfl rfl)
abbrev AWO : Hints := {  }
theorem AMm : ∀ v, Sq v = AP Tryz.prog N2 AWO Tryz.f39 Sp So Sn v := by
 rintro ⟨⟨⟩⟩
 kernel_rfl
theorem AWN : AD (AU Tryz.f39) 0 = [] := by kernel_rfl
theorem AH1 : AQ Tryz.prog 39 (AF 0 Sp So Sn H5) := AI Mh Tryz.func39 (by kernel_rfl) (by kernel_rfl) rfl (fun v => (ARN v).trans (AMm v)) (AA AWN trivial)
def TG : Env := N2.ext 39 true true (AF 0 Sp So Sn H5)
theorem QM : Ab Tryz.prog TG := Env.AZ Mh AH1 (fun _ => AJ rfl rfl) (fun _ => AH rfl rfl)
end
end Go.Pev
end
section
namespace Go.Pev
open Go.Proofs
set_option maxRecDepth 100000
noncomputable section
abbrev AVc : Hints := {  }
theorem ALs : ∀ v, L3 v = AP Tryz.prog TG AVc Tryz.f40 SO SN SM v := by
 rintro ⟨a0, ⟨⟩⟩
 kernel_rfl
theorem AVb : AD (AU Tryz.f40) 0 = [] := by kernel_rfl
theorem AHD : AQ Tryz.prog 40 (AF 1 SO SN SM JQ) := AI QM Tryz.func40 (by kernel_rfl) (by kernel_rfl) rfl (fun v => (Zk v).trans (ALs v)) (AA AVb trivial)
def AEE : Env := TG.ext 40 true true (AF 1 SO SN SM JQ)
theorem AIK : Ab Tryz.prog AEE := Env.AZ QM AHD (fun _ => AJ rfl rfl) (fun _ => AH rfl rfl)
abbrev ZM : Hints := { fp := fun n => match n with | 11 => [[38], [48], [], [], [], [], [], [], [], [], [], [50, 58], [], [], [], [], [], [], [], [], [], [66, 74], [], [], [], [], [68, 76], [], [], [0], [], [0], [], [], [], [], [0], [4], [4], [4], [4], [], [0], [4], [4], [4], [4], [], [], [], [], [0], [], [0], [], [146, 154], [], [], [4], [4], [], [4], [4], [], [], [], [], [0], [2], [], [0], [2], [], [], [], [], [0], [0], [], [], []] | _ => [] }
theorem R8 : ∀ v, Ec v = AP Tryz.prog AEE ZM Tryz.f7 HB HA G9 v := by
 rintro ⟨a0, a1, a2, ⟨⟩⟩
 kernel_rfl
theorem ZL : AD (AU Tryz.f7) 0 = [] := by kernel_rfl
theorem Ow : AQ Tryz.prog 7 (AF 3 HB HA G9 DN) := AI AIK Tryz.func7 (by kernel_rfl) (by kernel_rfl) rfl (fun v => (Ju v).trans (R8 v)) (AA ZL trivial)
end
end Go.Pev
end
section

end
