/- A part of the proofs of this seat: G24bP4 G24bP5 G24bP6 G24bP7 G24bP8 G24bP9 G24bP10 G24bP11 G24bP12 G24bP13 G24bP. -/
import Derived.Test.YtaamkoofmojajaaGreatP5e66bb6fae
set_option linter.unusedVariables false
set_option linter.unusedSimpArgs false
set_option linter.unusedSectionVars false
section
namespace Go.Pev
open Go.Proofs
set_option maxRecDepth 100000
noncomputable section
abbrev Q1 : Hints := { loop := fun n => match n with | 0 => Aa 1 60 APj APh APf | 1 => Aa 1 60 APi APg APd | _ => fun _ _ _ => none, fp := fun n => match n with | 10 => [[], [], [], [], [], [], [], [], [], [], [0], [0], [], [], [0], [0], [0], [1], [0], [1]] | _ => [] }
theorem APc : ∀ v, APd v = roundOf Tryz.prog Rp Q1 2 1 60 (AB Tryz.f208 1) APi APg v := by
 rintro ⟨a0, a1, a2, a3, ⟨⟩⟩
 kernel_rfl
theorem AeX : AD (AB Tryz.f208 1) 2 = [] := by kernel_rfl
theorem AeZ : AZ Tryz.prog 1 (.loop (AB Tryz.f208 1)) (Q1.loop 1) := AU KQ (APc) (AA AeX trivial)
theorem APe : ∀ v, APf v = roundOf Tryz.prog Rp Q1 1 1 60 (AB Tryz.f208 0) APj APh v := by
 rintro ⟨a0, a1, a2, a3, a4, ⟨⟩⟩
 kernel_rfl
theorem AeY : AD (AB Tryz.f208 0) 1 = [] := by kernel_rfl
theorem Aea : AZ Tryz.prog 1 (.loop (AB Tryz.f208 0)) (Q1.loop 0) := AU KQ (APe) (AA AeY trivial)
theorem AaS : ∀ v, AXJ v = AP Tryz.prog Rp Q1 Tryz.f208 AKZ AKY AKX v := by
 rintro ⟨a0, a1, a2, ⟨⟩⟩
 kernel_rfl
theorem Ag7 : AD (AR Tryz.f208) 0 = [(0, AB Tryz.f208 0), (1, AB Tryz.f208 1)] := by kernel_rfl
theorem AUk : AQ Tryz.prog 208 (AF 4 AKZ AKY AKX Aec) := AI KQ Tryz.func208 (by kernel_rfl) (by kernel_rfl) rfl (fun v => (Aeb v).trans (AaS v)) (AA Ag7 ⟨Aea, AeZ, trivial⟩)
def YB : Env := Rp.DD 208 3 204 (AF 4 AKZ AKY AKX Aec)
theorem Pe : AX Tryz.prog YB := Env.BD KQ AUk (AH rfl rfl)
abbrev ADL : Hints := { loop := fun n => match n with | 0 => Aa 1 67 AG7 AG6 AG5 | _ => fun _ _ _ => none, fp := fun n => match n with | 10 => [[], [], [], [], [], [], [], [], [], [], [0], [0], [], [], [0], [0], [0], [1], [0], [1]] | _ => [] }
theorem ALZ : ∀ v, AG5 v = roundOf Tryz.prog YB ADL 1 1 67 (AB Tryz.f209 0) AG7 AG6 v := by
 rintro ⟨a0, a1, a2, a3, a4, a5, ⟨⟩⟩
 kernel_rfl
theorem AbH : AD (AB Tryz.f209 0) 1 = [] := by kernel_rfl
theorem AbI : AZ Tryz.prog 1 (.loop (AB Tryz.f209 0)) (ADL.loop 0) := AU Pe (ALZ) (AA AbH trivial)
theorem AVl : ∀ v, AQj v = AP Tryz.prog YB ADL Tryz.f209 ADK ADJ ADI v := by
 rintro ⟨a0, a1, a2, ⟨⟩⟩
 kernel_rfl
theorem AfR : AD (AR Tryz.f209) 0 = [(0, AB Tryz.f209 0)] := by kernel_rfl
theorem AQi : AQ Tryz.prog 209 (AF 4 ADK ADJ ADI AVm) := AI Pe Tryz.func209 (by kernel_rfl) (by kernel_rfl) rfl (fun v => (AbJ v).trans (AVl v)) (AA AfR ⟨AbI, trivial⟩)
def AD6 : Env := YB.DD 209 3 204 (AF 4 ADK ADJ ADI AVm)
theorem W7 : AX Tryz.prog AD6 := Env.BD Pe AQi (AH rfl rfl)
abbrev AZZ : Hints := { fp := fun n => match n with | 1 => [[], [], [], [0], [0], [], [], [0], [0], [], []] | _ => [] }
theorem AOs : ∀ v, AGI v = AP Tryz.prog AD6 AZZ Tryz.f218 TY TX TW v := by
 rintro ⟨a0, a1, a2, a3, ⟨⟩⟩
 kernel_rfl
theorem AZY : AD (AR Tryz.f218) 0 = [] := by kernel_rfl
theorem AJn : AQ Tryz.prog 218 (AF 5 TY TX TW AJo) := AI W7 Tryz.func218 (by kernel_rfl) (by kernel_rfl) rfl (fun v => (ATZ v).trans (AOs v)) (AA AZY trivial)
def VQ : Env := AD6.DD 218 4 204 (AF 5 TY TX TW AJo)
theorem Rv : AX Tryz.prog VQ := Env.BD W7 AJn (AH rfl rfl)
abbrev AZs : Hints := {  }
theorem APF : ∀ v, AGL v = AP Tryz.prog VQ AZs Tryz.f217 Tf Te Td v := by
 rintro ⟨a0, a1, a2, a3, a4, ⟨⟩⟩
 kernel_rfl
theorem AZr : AD (AR Tryz.f217) 0 = [] := by kernel_rfl
theorem AJ9 : AQ Tryz.prog 217 (AF 6 Tf Te Td AKA) := AI Rv Tryz.func217 (by kernel_rfl) (by kernel_rfl) rfl (fun v => (ATw v).trans (APF v)) (AA AZr trivial)
def VR : Env := VQ.DD 217 5 204 (AF 6 Tf Te Td AKA)
theorem Rw : AX Tryz.prog VR := Env.BD Rv AJ9 (AH rfl rfl)
abbrev AZu : Hints := {  }
theorem APG : ∀ v, AGM v = AP Tryz.prog VR AZu Tryz.f216 Ti Th Tg v := by
 rintro ⟨a0, a1, a2, ⟨⟩⟩
 kernel_rfl
theorem AZt : AD (AR Tryz.f216) 0 = [] := by kernel_rfl
theorem AKB : AQ Tryz.prog 216 (AF 4 Ti Th Tg AKC) := AI Rw Tryz.func216 (by kernel_rfl) (by kernel_rfl) rfl (fun v => (ATy v).trans (APG v)) (AA AZt trivial)
def VS : Env := VR.DD 216 3 204 (AF 4 Ti Th Tg AKC)
theorem Rx : AX Tryz.prog VS := Env.BD Rw AKB (AH rfl rfl)
abbrev AdF : Hints := {  }
theorem ATF : ∀ v, AOD v = AP Tryz.prog VS AdF Tryz.f210 AA4 AA3 AA2 v := by
 rintro ⟨a0, a1, a2, ⟨⟩⟩
 kernel_rfl
theorem AdE : AD (AR Tryz.f210) 0 = [] := by kernel_rfl
theorem AOC : AQ Tryz.prog 210 (AF 4 AA4 AA3 AA2 ATG) := AI Rx Tryz.func210 (by kernel_rfl) (by kernel_rfl) rfl (fun v => (AZN v).trans (ATF v)) (AA AdE trivial)
def Ru : Env := VS.DD 210 3 204 (AF 4 AA4 AA3 AA2 ATG)
theorem MR : AX Tryz.prog Ru := Env.BD Rx AOC (AH rfl rfl)
abbrev ASo : Hints := { loop := fun n => match n with | 0 => Aa 1 34 AWe AWd AWc | _ => fun _ _ _ => none, fp := fun n => match n with | 3 => [[], [], [], [], [], [], [0], [0], [], [], [0], [0], [0], [1], [0], [1]] | _ => [] }
theorem ASk : ∀ v, AWc v = roundOf Tryz.prog Ru ASo 1 1 34 (AB Tryz.f211 0) AWe AWd v := by
 rintro ⟨a0, a1, a2, ⟨⟩⟩
 kernel_rfl
theorem AgP : AD (AB Tryz.f211 0) 1 = [] := by kernel_rfl
theorem AgQ : AZ Tryz.prog 1 (.loop (AB Tryz.f211 0)) (ASo.loop 0) := AU MR (ASk) (AA AgP trivial)
theorem Ac1 : ∀ v, Ac2 v = AP Tryz.prog Ru ASo Tryz.f211 ASn ASm ASl v := by
 rintro ⟨a0, a1, a2, ⟨⟩⟩
 kernel_rfl
theorem Ahw : AD (AR Tryz.f211) 0 = [(0, AB Tryz.f211 0)] := by kernel_rfl
theorem AY8 : AQ Tryz.prog 211 (AF 4 ASn ASm ASl Ahx) := AI MR Tryz.func211 (by kernel_rfl) (by kernel_rfl) rfl (fun v => (AgR v).trans (Ac1 v)) (AA Ahw ⟨AgQ, trivial⟩)
def Pb : Env := Ru.DD 211 3 204 (AF 4 ASn ASm ASl Ahx)
theorem Gy : AX Tryz.prog Pb := Env.BD MR AY8 (AH rfl rfl)
abbrev CU : Hints := { loop := fun n => match n with | 0 => Aa 1 141 WO WK WG | 1 => Aa 1 141 WN WJ WE | 2 => Aa 1 141 WM WI WD | 3 => Aa 1 141 WL WH WC | _ => fun _ _ _ => none, fp := fun n => match n with | 11 => [[], [], [], [], [], [], [], [], [0], [0], [], [], [0], [0], [0], [1], [0], [1]] | 5 => [[], [], [], [], [], [], [], [0], [0], [], [], [], [0], [0], [], [], [], []] | 17 => [[], [], [], [], [], [], [], [], [0], [0], [], [], [0], [0], [0], [1], [0], [1]] | 16 => [[], [], [], [0], [0], [], [], [], [0], [0], [], [], []] | 23 => [[], [], [], [], [], [], [], [], [0], [0], [], [], [0], [0], [0], [1], [0], [1]] | 22 => [[], [], [], [0], [0], [], [], [], [0], [0], [], [], []] | _ => [] }
theorem AA9 : ∀ v, WC v = roundOf Tryz.prog Pb CU 4 1 141 (AB Tryz.f212 3) WL WH v := by
 rintro ⟨a0, a1, a2, a3, a4, a5, ⟨⟩⟩
 kernel_rfl
theorem AOc : AD (AB Tryz.f212 3) 4 = [] := by kernel_rfl
theorem AOg : AZ Tryz.prog 1 (.loop (AB Tryz.f212 3)) (CU.loop 3) := AU Gy (AA9) (AA AOc trivial)
theorem ABA : ∀ v, WD v = roundOf Tryz.prog Pb CU 3 1 141 (AB Tryz.f212 2) WM WI v := by
 rintro ⟨a0, a1, a2, a3, a4, a5, ⟨⟩⟩
 kernel_rfl
theorem AOd : AD (AB Tryz.f212 2) 3 = [] := by kernel_rfl
theorem AOh : AZ Tryz.prog 1 (.loop (AB Tryz.f212 2)) (CU.loop 2) := AU Gy (ABA) (AA AOd trivial)
theorem ABB : ∀ v, WE v = roundOf Tryz.prog Pb CU 2 1 141 (AB Tryz.f212 1) WN WJ v := by
 rintro ⟨a0, a1, a2, a3, a4, ⟨⟩⟩
 kernel_rfl
theorem AOe : AD (AB Tryz.f212 1) 2 = [] := by kernel_rfl
theorem AOi : AZ Tryz.prog 1 (.loop (AB Tryz.f212 1)) (CU.loop 1) := AU Gy (ABB) (AA AOe trivial)
theorem ABC : ∀ v, WG v = roundOf Tryz.prog Pb CU 1 1 141 (AB Tryz.f212 0) WO WK v := by
 rintro ⟨a0, a1, a2, a3, a4, ⟨⟩⟩
 kernel_rfl
theorem AOf : AD (AB Tryz.f212 0) 1 = [(1, AB Tryz.f212 1), (2, AB Tryz.f212 2), (3, AB Tryz.f212 3)] := by kernel_rfl
theorem AOj : AZ Tryz.prog 1 (.loop (AB Tryz.f212 0)) (CU.loop 0) := AU Gy (ABC) (AA AOf ⟨AOi, AOh, AOg, trivial⟩)
theorem AJi : ∀ v, ABD v = AP Tryz.prog Pb CU Tryz.f212 Og Of Oe v := by
 rintro ⟨a0, a1, a2, ⟨⟩⟩
 kernel_rfl
theorem ATP : AD (AR Tryz.f212) 0 = [(0, AB Tryz.f212 0)] := by kernel_rfl
theorem AEf : AQ Tryz.prog 212 (AF 4 Og Of Oe ABE) := AI Gy Tryz.func212 (by kernel_rfl) (by kernel_rfl) rfl (fun v => (AOk v).trans (AJi v)) (AA ATP ⟨AOj, trivial⟩)
def FV : Env := Pb.DD 212 3 204 (AF 4 Og Of Oe ABE)
theorem Dj : AX Tryz.prog FV := Env.BD Gy AEf (AH rfl rfl)
abbrev E0 : Hints := { loop := fun n => match n with | 0 => Aa 1 90 ABN ABK ABH | 1 => Aa 1 90 ABM ABJ ABG | 2 => Aa 1 90 ABL ABI ABF | _ => fun _ _ _ => none, fp := fun n => match n with | 8 => [[], [], [], [], [], [], [0], [0], [], [], [0], [0], [0], [1], [0], [1]] | 3 => [[], [], [], [], [], [], [], [0], [0], [], [], [0], [0], [], [], [], []] | 5 => [[], [], [], [], [], [], [], [0], [0], [], [], [0], [0], [], [], []] | 1 => [[], [], [], [], [], [], [0], [0], [], [], [0], [0], [0], [1], [0], [1]] | _ => [] }
theorem AEj : ∀ v, ABF v = roundOf Tryz.prog FV E0 3 1 90 (AB Tryz.f213 2) ABL ABI v := by
 rintro ⟨a0, a1, a2, a3, ⟨⟩⟩
 kernel_rfl
theorem ATR : AD (AB Tryz.f213 2) 3 = [] := by kernel_rfl
theorem ATU : AZ Tryz.prog 1 (.loop (AB Tryz.f213 2)) (E0.loop 2) := AU Dj (AEj) (AA ATR trivial)
theorem AEk : ∀ v, ABG v = roundOf Tryz.prog FV E0 2 1 90 (AB Tryz.f213 1) ABM ABJ v := by
 rintro ⟨a0, a1, a2, a3, ⟨⟩⟩
 kernel_rfl
theorem ATS : AD (AB Tryz.f213 1) 2 = [] := by kernel_rfl
theorem ATV : AZ Tryz.prog 1 (.loop (AB Tryz.f213 1)) (E0.loop 1) := AU Dj (AEk) (AA ATS trivial)
theorem AEl : ∀ v, ABH v = roundOf Tryz.prog FV E0 1 1 90 (AB Tryz.f213 0) ABN ABK v := by
 rintro ⟨a0, a1, a2, a3, ⟨⟩⟩
 kernel_rfl
theorem ATT : AD (AB Tryz.f213 0) 1 = [(1, AB Tryz.f213 1), (2, AB Tryz.f213 2)] := by kernel_rfl
theorem ATW : AZ Tryz.prog 1 (.loop (AB Tryz.f213 0)) (E0.loop 0) := AU Dj (AEl) (AA ATT ⟨ATV, ATU, trivial⟩)
theorem AOq : ∀ v, AGG v = AP Tryz.prog FV E0 Tryz.f213 TV TU TT v := by
 rintro ⟨a0, a1, a2, a3, ⟨⟩⟩
 kernel_rfl
theorem AZW : AD (AR Tryz.f213) 0 = [(0, AB Tryz.f213 0)] := by kernel_rfl
theorem AJk : AQ Tryz.prog 213 (AF 5 TV TU TT AJl) := AI Dj Tryz.func213 (by kernel_rfl) (by kernel_rfl) rfl (fun v => (ATX v).trans (AOq v)) (AA AZW ⟨ATW, trivial⟩)
def EG : Env := FV.DD 213 4 204 (AF 5 TV TU TT AJl)
theorem Cd : AX Tryz.prog EG := Env.BD Dj AJk (AH rfl rfl)
abbrev EP : Hints := { loop := fun n => match n with | 0 => Aa 1 178 AOb AOW AOR | 1 => Aa 1 178 AOa AOV AOP | 2 => Aa 1 178 AOZ AOU AON | 3 => Aa 1 178 AOY AOT AOL | 4 => Aa 1 178 AOX AOS AOJ | _ => fun _ _ _ => none, fp := fun n => match n with | 3 => [[], [], [], [], [], [], [], [0], [0], [], [], [0], [0], [], [], []] | 5 => [[], [], [], [], [], [], [], [0], [0], [], [], [0], [0], [], [], [], []] | 18 => [[], [], [], [], [], [], [0], [0], [], [], [0], [0], [0], [1], [0], [1]] | 13 => [[], [], [], [], [], [], [], [0], [0], [], [], [0], [0], [], [], []] | 15 => [[], [], [], [], [], [], [], [0], [0], [], [], [0], [0], [], [], [], []] | 21 => [[], [], [], [], [], [], [0], [0], [], [], [0], [0], [0], [1], [0], [1]] | 10 => [[], [], [], [], [], [], [0], [0], [], [], [0], [0], [0], [1], [0], [1]] | 8 => [[], [], [], [], [], [], [0], [0], [], [], [0], [0], [0], [1], [0], [1]] | 1 => [[], [], [], [], [], [], [0], [0], [], [], [0], [0], [0], [1], [0], [1]] | _ => [] }
theorem AOI : ∀ v, AOJ v = roundOf Tryz.prog EG EP 5 1 178 (AB Tryz.f214 4) AOX AOS v := by
 rintro ⟨a0, a1, a2, a3, ⟨⟩⟩
 kernel_rfl
theorem AdJ : AD (AB Tryz.f214 4) 5 = [] := by kernel_rfl
theorem AdO : AZ Tryz.prog 1 (.loop (AB Tryz.f214 4)) (EP.loop 4) := AU Cd (AOI) (AA AdJ trivial)
theorem AOK : ∀ v, AOL v = roundOf Tryz.prog EG EP 4 1 178 (AB Tryz.f214 3) AOY AOT v := by
 rintro ⟨a0, a1, a2, a3, ⟨⟩⟩
 kernel_rfl
theorem AdK : AD (AB Tryz.f214 3) 4 = [] := by kernel_rfl
theorem AdP : AZ Tryz.prog 1 (.loop (AB Tryz.f214 3)) (EP.loop 3) := AU Cd (AOK) (AA AdK trivial)
theorem AOM : ∀ v, AON v = roundOf Tryz.prog EG EP 3 1 178 (AB Tryz.f214 2) AOZ AOU v := by
 rintro ⟨a0, a1, a2, a3, ⟨⟩⟩
 kernel_rfl
theorem AdL : AD (AB Tryz.f214 2) 3 = [(3, AB Tryz.f214 3), (4, AB Tryz.f214 4)] := by kernel_rfl
theorem AdQ : AZ Tryz.prog 1 (.loop (AB Tryz.f214 2)) (EP.loop 2) := AU Cd (AOM) (AA AdL ⟨AdP, AdO, trivial⟩)
theorem AOO : ∀ v, AOP v = roundOf Tryz.prog EG EP 2 1 178 (AB Tryz.f214 1) AOa AOV v := by
 rintro ⟨a0, a1, a2, a3, ⟨⟩⟩
 kernel_rfl
theorem AdM : AD (AB Tryz.f214 1) 2 = [] := by kernel_rfl
theorem AdR : AZ Tryz.prog 1 (.loop (AB Tryz.f214 1)) (EP.loop 1) := AU Cd (AOO) (AA AdM trivial)
theorem AOQ : ∀ v, AOR v = roundOf Tryz.prog EG EP 1 1 178 (AB Tryz.f214 0) AOb AOW v := by
 rintro ⟨a0, a1, a2, a3, ⟨⟩⟩
 kernel_rfl
theorem AdN : AD (AB Tryz.f214 0) 1 = [] := by kernel_rfl
theorem AdS : AZ Tryz.prog 1 (.loop (AB Tryz.f214 0)) (EP.loop 0) := AU Cd (AOQ) (AA AdN trivial)
theorem AZU : ∀ v, AWm v = AP Tryz.prog EG EP Tryz.f214 AJh AJg AJf v := by
 rintro ⟨a0, a1, a2, a3, ⟨⟩⟩
 kernel_rfl
theorem Agc : AD (AR Tryz.f214) 0 = [(0, AB Tryz.f214 0), (1, AB Tryz.f214 1), (2, AB Tryz.f214 2)] := by kernel_rfl
theorem ATO : AQ Tryz.prog 214 (AF 5 AJh AJg AJf AdU) := AI Cd Tryz.func214 (by kernel_rfl) (by kernel_rfl) rfl (fun v => (AdT v).trans (AZU v)) (AA Agc ⟨AdS, AdR, AdQ, trivial⟩)
def AL3 : Env := EG.DD 214 4 204 (AF 5 AJh AJg AJf AdU)
theorem ADs : AX Tryz.prog AL3 := Env.BD Cd ATO (AH rfl rfl)
abbrev ATK (self : (List (List Int) × Int × Int × Int × Unit) → Option ((List (List Int) × Unit))) : Hints := { loop := fun n => match n with | 0 => Aa 1 148 AWl AWk (AWj self) | _ => fun _ _ _ => none, fp := fun n => match n with | 17 => [[], [], [], [], [], [], [], [0], [0], [], [], [0], [0], [], [], [], []] | _ => [] }
abbrev AJb (self : (List (List Int) × Int × Int × Int × Unit) → Option ((List (List Int) × Unit))) : Env := AL3.ext 206 false true (AF 5 AA7 AA6 AA5 self)
theorem ATJ (self : (List (List Int) × Int × Int × Int × Unit) → Option ((List (List Int) × Unit))) : ∀ v, AWj self v = roundOf Tryz.prog (AJb self) (ATK self) 1 1 148 (AB Tryz.f206 0) AWl AWk v := by
 rintro ⟨a0, a1, a2, a3, a4, a5, ⟨⟩⟩
 kernel_rfl
theorem AgW : AD (AB Tryz.f206 0) 1 = [] := by kernel_rfl
theorem AgX (self : (List (List Int) × Int × Int × Int × Unit) → Option ((List (List Int) × Unit))) (hE : AX Tryz.prog (AJb self)) : AZ Tryz.prog 1 (.loop (AB Tryz.f206 0)) ((ATK self).loop 0) := AU hE (ATJ self) (AA AgW trivial)
theorem AdH (self : (List (List Int) × Int × Int × Int × Unit) → Option ((List (List Int) × Unit))) : ∀ v, Ah1 self v = AP Tryz.prog (AJb self) (ATK self) Tryz.f206 AA7 AA6 AA5 v := by
 rintro ⟨a0, a1, a2, a3, ⟨⟩⟩
 kernel_rfl
theorem Ah0 : AD (AR Tryz.f206) 0 = [(0, AB Tryz.f206 0)] := by kernel_rfl
theorem ATL : ∀ n, AQ Tryz.prog 206 (AF 5 AA7 AA6 AA5 (AA8 n)) := by
 intro n
 induction n with
 | zero => exact WS fun _ => rfl
 | succ n ih =>
  have hE : AX Tryz.prog (AJb (AA8 n)) := Env.AY ADs ih ((by simp)) (fun _ => AH rfl rfl)
  let self := AA8 n
  exact AI hE Tryz.func206 (by kernel_rfl) (by kernel_rfl) rfl (AdH self) (AA Ah0 ⟨(AgX self hE), trivial⟩)
theorem AZT : AQ Tryz.prog 206 (AF 5 AA7 AA6 AA5 AgZ) := by
 have e : AgZ = AA8 100 := funext AgY
 rw [e]
 exact ATL _
def AV3 : Env := AL3.DD 206 4 204 (AF 5 AA7 AA6 AA5 AgZ)
theorem AHI : AX Tryz.prog AV3 := Env.BD ADs AZT (AH rfl rfl)
abbrev AgA : Hints := {  }
theorem AYT : ∀ v, AWW v = AP Tryz.prog AV3 AgA Tryz.f203 AIS AIR AIQ v := by
 rintro ⟨a0, ⟨⟩⟩
 kernel_rfl
theorem Af9 : AD (AR Tryz.f203) 0 = [] := by kernel_rfl
theorem ARv : AQ Tryz.prog 203 (AF 2 AIS AIR AIQ AM8) := AI AHI Tryz.func203 (by kernel_rfl) (by kernel_rfl) rfl (fun v => (AcP v).trans (AYT v)) (AA Af9 trivial)
def Rl : Env := AV3.DD 203 1 204 (AF 2 AIS AIR AIQ AM8)
theorem KL : AX Tryz.prog Rl := Env.BD AHI ARv (AH rfl rfl)
end
end Go.Pev
end
section
namespace Go.Pev
open Go.Proofs
set_option maxRecDepth 100000
noncomputable section
abbrev Pp : Hints := { loop := fun n => match n with | 0 => Aa 0 47 AMS AMQ G0 | 1 => Aa 0 47 AMR AMP Gz | _ => fun _ _ _ => none }
theorem AMN : ∀ v, Gz v = roundOf Tryz.prog Rl Pp 2 0 47 (AB Tryz.f188 1) AMR AMP v := by
 rintro ⟨a0, a1, a2, a3, a4, a5, a6, ⟨⟩⟩
 kernel_rfl
theorem AbX : AD (AB Tryz.f188 1) 2 = [] := by kernel_rfl
theorem AbZ : AZ Tryz.prog 0 (.loop (AB Tryz.f188 1)) (Pp.loop 1) := AU KL (AMN) (AA AbX trivial)
theorem AMO : ∀ v, G0 v = roundOf Tryz.prog Rl Pp 1 0 47 (AB Tryz.f188 0) AMS AMQ v := by
 rintro ⟨a0, a1, a2, a3, a4, a5, a6, a7, a8, ⟨⟩⟩
 kernel_rfl
theorem AbY : AD (AB Tryz.f188 0) 1 = [] := by kernel_rfl
theorem Aba : AZ Tryz.prog 0 (.loop (AB Tryz.f188 0)) (Pp.loop 0) := AU KL (AMO) (AA AbY trivial)
theorem AXs : ∀ v, Xa v = AP Tryz.prog Rl Pp Tryz.f188 AHa AHZ AHY v := by
 rintro ⟨a0, a1, a2, ⟨⟩⟩
 kernel_rfl
theorem Afj : AD (AR Tryz.f188) 0 = [(0, AB Tryz.f188 0), (1, AB Tryz.f188 1)] := by kernel_rfl
theorem ARB : AQ Tryz.prog 188 (AF 3 AHa AHZ AHY AMU) := AI KL Tryz.func188 (by kernel_rfl) (by kernel_rfl) rfl (fun v => (AMT v).trans (AXs v)) (AA Afj ⟨Aba, AbZ, trivial⟩)
def ALy : Env := Rl.ext 188 true true (AF 3 AHa AHZ AHY AMU)
theorem ADZ : AX Tryz.prog ALy := Env.AY KL ARB (fun _ => AG rfl rfl) (fun _ => AH rfl rfl)
abbrev Aft : Hints := { fp := fun n => match n with | 9 => [[], [28], [0], [0], [], [], [], [], [], [0], [0], [], [], [], [], [], [28], [28, 52, 36, 62], [64], []] | 4 => [[0], [], [], [0], [], [], [], []] | _ => [] }
theorem AYE : ∀ v, GS v = AP Tryz.prog ALy Aft Tryz.f161 AH0 AHz AHy v := by
 rintro ⟨a0, a1, a2, ⟨⟩⟩
 kernel_rfl
theorem Afs : AD (AR Tryz.f161) 0 = [] := by kernel_rfl
theorem ARQ : AQ Tryz.prog 161 (AF 3 AH0 AHz AHy Kf) := AI ADZ Tryz.func161 (by kernel_rfl) (by kernel_rfl) rfl (fun v => (G7 v).trans (AYE v)) (AA Afs trivial)
def ALz : Env := ALy.ext 161 true true (AF 3 AH0 AHz AHy Kf)
theorem ADe : AX Tryz.prog ALz := Env.AY ADZ ARQ (fun _ => AG rfl rfl) (fun _ => AH rfl rfl)
theorem Ab6 : Tryz.f155.body.isSome = true := by kernel_rfl
theorem Ab5 : (Tryz.f155.name == "runtime.NumGoroutine") = false := by kernel_rfl
theorem Ab4 : loops (AR Tryz.f155) = 0 := by kernel_rfl
def KJ : Env := ALz.ext 155 false false (C8 Tryz.prog ALz {} Tryz.f155)
theorem Im : AX Tryz.prog KJ := Env.AY ADe (DA ADe Tryz.func155 Ab6 Ab5 Ab4) (by simp) (by simp)
abbrev FG : Hints := { loop := fun n => match n with | 0 => Aa 1 19 H7 H6 Ba | _ => fun _ _ _ => none }
theorem Lg : ∀ v, Ba v = roundOf Tryz.prog KJ FG 1 1 19 (AB Tryz.f174 0) H7 H6 v := by
 rintro ⟨a0, a1, a2, a3, a4, ⟨⟩⟩
 kernel_rfl
theorem Qx : AD (AB Tryz.f174 0) 1 = [] := by kernel_rfl
theorem Qy : AZ Tryz.prog 1 (.loop (AB Tryz.f174 0)) (FG.loop 0) := AU Im (Lg) (AA Qx trivial)
theorem O1 : ∀ v, DT v = AP Tryz.prog KJ FG Tryz.f174 FF FE FD v := by
 rintro ⟨a0, a1, a2, ⟨⟩⟩
 kernel_rfl
theorem T5 : AD (AR Tryz.f174) 0 = [(0, AB Tryz.f174 0)] := by kernel_rfl
theorem Nj : AQ Tryz.prog 174 (AF 2 FF FE FD EZ) := AI Im Tryz.func174 (by kernel_rfl) (by kernel_rfl) rfl (fun v => (H8 v).trans (O1 v)) (AA T5 ⟨Qy, trivial⟩)
def FX : Env := KJ.DD 174 1 155 (AF 2 FF FE FD EZ)
theorem GQ : AX Tryz.prog FX := Env.BD Im Nj (AH rfl rfl)
abbrev RM : Hints := {  }
theorem Nk : ∀ v, Cs v = AP Tryz.prog FX RM Tryz.f154 Ef Ee Ed v := by
 rintro ⟨a0, a1, a2, ⟨⟩⟩
 kernel_rfl
theorem RL : AD (AR Tryz.f154) 0 = [] := by kernel_rfl
theorem Lx : AQ Tryz.prog 154 (AF 2 Ef Ee Ed Ce) := AI GQ Tryz.func154 (by kernel_rfl) (by kernel_rfl) rfl (fun v => (HX v).trans (Nk v)) (AA RL trivial)
def Ej : Env := FX.DD 154 1 155 (AF 2 Ef Ee Ed Ce)
theorem F6 : AX Tryz.prog Ej := Env.BD GQ Lx (AH rfl rfl)
abbrev Aer : Hints := {  }
theorem AUy : ∀ v, Q4 v = AP Tryz.prog Ej Aer Tryz.f125 ACa ACZ ACY v := by
 rintro ⟨a0, a1, ⟨⟩⟩
 kernel_rfl
theorem Aeq : AD (AR Tryz.f125) 0 = [] := by kernel_rfl
theorem AP1 : AQ Tryz.prog 125 (AF 2 ACa ACZ ACY Ij) := AI F6 Tryz.func125 (by kernel_rfl) (by kernel_rfl) rfl (fun v => (AGp v).trans (AUy v)) (AA Aeq trivial)
def R5 : Env := Ej.ext 125 true true (AF 2 ACa ACZ ACY Ij)
theorem MX : AX Tryz.prog R5 := Env.AY F6 AP1 (fun _ => AG rfl rfl) (fun _ => AH rfl rfl)
abbrev AVE : Hints := { loop := fun n => match n with | 0 => Aa 0 21 AXU AXT J9 | _ => fun _ _ _ => none }
theorem AVA : ∀ v, J9 v = roundOf Tryz.prog R5 AVE 1 0 21 (AB Tryz.f183 0) AXU AXT v := by
 rintro ⟨a0, a1, a2, a3, ⟨⟩⟩
 kernel_rfl
theorem AhL : AD (AB Tryz.f183 0) 1 = [] := by kernel_rfl
theorem AhM : AZ Tryz.prog 0 (.loop (AB Tryz.f183 0)) (AVE.loop 0) := AU MX (AVA) (AA AhL trivial)
theorem AfA : ∀ v, AK6 v = AP Tryz.prog R5 AVE Tryz.f183 AVD AVC AVB v := by
 rintro ⟨a0, ⟨⟩⟩
 kernel_rfl
theorem AiN : AD (AR Tryz.f183) 0 = [(0, AB Tryz.f183 0)] := by kernel_rfl
theorem Aaz : AQ Tryz.prog 183 (AF 1 AVD AVC AVB ends) := AI MX Tryz.func183 (by kernel_rfl) (by kernel_rfl) rfl (fun v => (AXV v).trans (AfA v)) (AA AiN ⟨AhM, trivial⟩)
def AMC : Env := R5.ext 183 true true (AF 1 AVD AVC AVB ends)
theorem VX : AX Tryz.prog AMC := Env.AY MX Aaz (fun _ => AG rfl rfl) (fun _ => AH rfl rfl)
abbrev PD : Hints := { loop := fun n => match n with | 0 => Aa 0 48 Wd Wc DE | _ => fun _ _ _ => none, fp := fun n => match n with | 1 => [[0], [], [], [4], []] | _ => [] }
theorem ACu : ∀ v, DE v = roundOf Tryz.prog AMC PD 1 0 48 (AB Tryz.f160 0) Wd Wc v := by
 rintro ⟨a0, a1, a2, a3, a4, a5, a6, ⟨⟩⟩
 kernel_rfl
theorem AQJ : AD (AB Tryz.f160 0) 1 = [] := by kernel_rfl
theorem AQK : AZ Tryz.prog 0 (.loop (AB Tryz.f160 0)) (PD.loop 0) := AU VX (ACu) (AA AQJ trivial)
theorem AK8 : ∀ v, KC v = AP Tryz.prog AMC PD Tryz.f160 PC PB PA v := by
 rintro ⟨a0, a1, ⟨⟩⟩
 kernel_rfl
theorem AVH : AD (AR Tryz.f160) 0 = [(0, AB Tryz.f160 0)] := by kernel_rfl
theorem AE2 : AQ Tryz.prog 160 (AF 3 PC PB PA RE) := AI VX Tryz.func160 (by kernel_rfl) (by kernel_rfl) rfl (fun v => (We v).trans (AK8 v)) (AA AVH ⟨AQK, trivial⟩)
def Pg : Env := AMC.DD 160 2 161 (AF 3 PC PB PA RE)
theorem N1 : AX Tryz.prog Pg := Env.BD VX AE2 (AH rfl rfl)
abbrev Ae2 : Hints := {  }
theorem AU4 : ∀ v, Q6 v = AP Tryz.prog Pg Ae2 Tryz.f130 ACg ACf ACe v := by
 rintro ⟨a0, a1, ⟨⟩⟩
 kernel_rfl
theorem Ae1 : AD (AR Tryz.f130) 0 = [] := by kernel_rfl
theorem AP5 : AQ Tryz.prog 130 (AF 2 ACg ACf ACe AKx) := AI N1 Tryz.func130 (by kernel_rfl) (by kernel_rfl) rfl (fun v => (AGs v).trans (AU4 v)) (AA Ae1 trivial)
def AD3 : Env := Pg.ext 130 true true (AF 2 ACg ACf ACe AKx)
theorem W5 : AX Tryz.prog AD3 := Env.AY N1 AP5 (fun _ => AG rfl rfl) (fun _ => AH rfl rfl)
abbrev Aig : Hints := {  }
theorem AhH : ∀ v, AXS v = AP Tryz.prog AD3 Aig Tryz.f92 Aez Aey Aex v := by
 rintro ⟨a0, a1, ⟨⟩⟩
 kernel_rfl
theorem Aif : AD (AR Tryz.f92) 0 = [] := by kernel_rfl
theorem Aew : AQ Tryz.prog 92 (AF 2 Aez Aey Aex fof) := AI W5 Tryz.func92 (by kernel_rfl) (by kernel_rfl) rfl (fun v => (Ae0 v).trans (AhH v)) (AA Aif trivial)
def AXh : Env := AD3.ext 92 true true (AF 2 Aez Aey Aex fof)
theorem AD2 : AX Tryz.prog AXh := Env.AY W5 Aew (fun _ => AG rfl rfl) (fun _ => AH rfl rfl)
abbrev Adg : Hints := { loop := fun n => match n with | 0 => Aa 0 18 Ade Adb Oh | _ => fun _ _ _ => none }
theorem AZa : ∀ v, Oh v = roundOf Tryz.prog AXh Adg 1 0 18 (AB Tryz.f114 0) Ade Adb v := by
 rintro ⟨a0, a1, a2, a3, ⟨⟩⟩
 kernel_rfl
theorem Ah2 : AD (AB Tryz.f114 0) 1 = [] := by kernel_rfl
theorem Ah3 : AZ Tryz.prog 0 (.loop (AB Tryz.f114 0)) (Adg.loop 0) := AU AD2 (AZa) (AA Ah2 trivial)
theorem Agf : ∀ v, AWn v = AP Tryz.prog AXh Adg Tryz.f114 Adf Adc Ada v := by
 rintro ⟨a0, ⟨⟩⟩
 kernel_rfl
theorem Aic : AD (AR Tryz.f114) 0 = [(0, AB Tryz.f114 0)] := by kernel_rfl
theorem AdZ : AQ Tryz.prog 114 (AF 1 Adf Adc Ada orI) := AI AD2 Tryz.func114 (by kernel_rfl) (by kernel_rfl) rfl (fun v => (Adh v).trans (Agf v)) (AA Aic ⟨Ah3, trivial⟩)
def Afg : Env := AXh.ext 114 true true (AF 1 Adf Adc Ada orI)
theorem AQ7 : AX Tryz.prog Afg := Env.AY AD2 AdZ (fun _ => AG rfl rfl) (fun _ => AH rfl rfl)
abbrev Ad5 : Hints := {  }
theorem AT8 : ∀ v, LY v = AP Tryz.prog Afg Ad5 Tryz.f97 ABj ABi ABh v := by
 rintro ⟨a0, ⟨⟩⟩
 kernel_rfl
theorem Ad4 : AD (AR Tryz.f97) 0 = [] := by kernel_rfl
theorem APK : AQ Tryz.prog 97 (AF 1 ABj ABi ABh Tm) := AI AQ7 Tryz.func97 (by kernel_rfl) (by kernel_rfl) rfl (fun v => (Tl v).trans (AT8 v)) (AA Ad4 trivial)
def ADv : Env := Afg.ext 97 true true (AF 1 ABj ABi ABh Tm)
theorem W2 : AX Tryz.prog ADv := Env.AY AQ7 APK (fun _ => AG rfl rfl) (fun _ => AH rfl rfl)
end
end Go.Pev
end
section
namespace Go.Pev
open Go.Proofs
set_option maxRecDepth 100000
noncomputable section
abbrev AiC : Hints := {  }
theorem Ad3 : ∀ v, AT7 v = AP Tryz.prog ADv AiC Tryz.f53 AT6 AT5 AT4 v := by
 rintro ⟨a0, ⟨⟩⟩
 kernel_rfl
theorem AiB : AD (AR Tryz.f53) 0 = [] := by kernel_rfl
theorem AZ0 : AQ Tryz.prog 53 (AF 1 AT6 AT5 AT4 AEq) := AI W2 Tryz.func53 (by kernel_rfl) (by kernel_rfl) rfl (fun v => (Ago v).trans (Ad3 v)) (AA AiB trivial)
def AV8 : Env := ADv.ext 53 true true (AF 1 AT6 AT5 AT4 AEq)
theorem AHN : AX Tryz.prog AV8 := Env.AY W2 AZ0 (fun _ => AG rfl rfl) (fun _ => AH rfl rfl)
abbrev AUM : Hints := { fp := fun n => match n with | 1 => [[0], [0], [2], [2], [], [0], [0], [2], [2], [], [], [20], []] | _ => [] }
theorem AKO : ∀ v, J6 v = AP Tryz.prog AV8 AUM Tryz.f98 Ot Oq Oo v := by
 rintro ⟨a0, a1, ⟨⟩⟩
 kernel_rfl
theorem AUL : AD (AR Tryz.f98) 0 = [] := by kernel_rfl
theorem AEw : AQ Tryz.prog 98 (AF 2 Ot Oq Oo JB) := AI AHN Tryz.func98 (by kernel_rfl) (by kernel_rfl) rfl (fun v => (WU v).trans (AKO v)) (AA AUL trivial)
def KY : Env := AV8.ext 98 true true (AF 2 Ot Oq Oo JB)
theorem Ir : AX Tryz.prog KY := Env.AY AHN AEw (fun _ => AG rfl rfl) (fun _ => AH rfl rfl)
abbrev ABg : Hints := { loop := fun n => match n with | 0 => Aa 0 33 AGR AGQ CD | _ => fun _ _ _ => none }
theorem AKE : ∀ v, CD v = roundOf Tryz.prog KY ABg 1 0 33 (AB Tryz.f93 0) AGR AGQ v := by
 rintro ⟨a0, a1, a2, a3, a4, ⟨⟩⟩
 kernel_rfl
theorem AZy : AD (AB Tryz.f93 0) 1 = [] := by kernel_rfl
theorem AZz : AZ Tryz.prog 0 (.loop (AB Tryz.f93 0)) (ABg.loop 0) := AU Ir (AKE) (AA AZy trivial)
theorem AT3 : ∀ v, LW v = AP Tryz.prog KY ABg Tryz.f93 ABf ABe ABd v := by
 rintro ⟨a0, a1, ⟨⟩⟩
 kernel_rfl
theorem Ad1 : AD (AR Tryz.f93) 0 = [(0, AB Tryz.f93 0)] := by kernel_rfl
theorem APJ : AQ Tryz.prog 93 (AF 2 ABf ABe ABd Ol) := AI Ir Tryz.func93 (by kernel_rfl) (by kernel_rfl) rfl (fun v => (Tk v).trans (AT3 v)) (AA Ad1 ⟨AZz, trivial⟩)
def Ry : Env := KY.ext 93 true true (AF 2 ABf ABe ABd Ol)
theorem MS : AX Tryz.prog Ry := Env.AY Ir APJ (fun _ => AG rfl rfl) (fun _ => AH rfl rfl)
abbrev ABn : Hints := { loop := fun n => match n with | 0 => Aa 0 96 AGT AGS DQ | _ => fun _ _ _ => none, fp := fun n => match n with | 7 => [[2], [2], [], [], [2], [2], [2], [2], [], [], [], [2], [2], [0], [0], [], [], [], [2], [2], [], [], [], [2], [2], [], [], [], [], [], [], [], [0], [0], [], [], [], [], [2], [], [], [], []] | _ => [] }
theorem AKF : ∀ v, DQ v = roundOf Tryz.prog Ry ABn 1 0 96 (AB Tryz.f49 0) AGT AGS v := by
 rintro ⟨a0, a1, a2, a3, a4, a5, ⟨⟩⟩
 kernel_rfl
theorem AZ1 : AD (AB Tryz.f49 0) 1 = [] := by kernel_rfl
theorem AZ2 : AZ Tryz.prog 0 (.loop (AB Tryz.f49 0)) (ABn.loop 0) := AU MS (AKF) (AA AZ1 trivial)
theorem AT9 : ∀ v, HF v = AP Tryz.prog Ry ABn Tryz.f49 ABm ABl ABk v := by
 rintro ⟨a0, ⟨⟩⟩
 kernel_rfl
theorem Ad6 : AD (AR Tryz.f49) 0 = [(0, AB Tryz.f49 0)] := by kernel_rfl
theorem APL : AQ Tryz.prog 49 (AF 1 ABm ABl ABk EV) := AI MS Tryz.func49 (by kernel_rfl) (by kernel_rfl) rfl (fun v => (I7 v).trans (AT9 v)) (AA Ad6 ⟨AZ2, trivial⟩)
def Rz : Env := Ry.ext 49 true true (AF 1 ABm ABl ABk EV)
theorem MT : AX Tryz.prog Rz := Env.AY MS APL (fun _ => AG rfl rfl) (fun _ => AH rfl rfl)
abbrev AB1 : Hints := { loop := fun n => match n with | 0 => Aa 0 26 AGV AGU E4 | _ => fun _ _ _ => none }
theorem AKM : ∀ v, E4 v = roundOf Tryz.prog Rz AB1 1 0 26 (AB Tryz.f52 0) AGV AGU v := by
 rintro ⟨a0, a1, a2, a3, ⟨⟩⟩
 kernel_rfl
theorem AaE : AD (AB Tryz.f52 0) 1 = [] := by kernel_rfl
theorem AaF : AZ Tryz.prog 0 (.loop (AB Tryz.f52 0)) (AB1.loop 0) := AU MT (AKM) (AA AaE trivial)
theorem AUJ : ∀ v, Qn v = AP Tryz.prog Rz AB1 Tryz.f52 AB0 ABz ABy v := by
 rintro ⟨a0, ⟨⟩⟩
 kernel_rfl
theorem AeE : AD (AR Tryz.f52) 0 = [(0, AB Tryz.f52 0)] := by kernel_rfl
theorem APW : AQ Tryz.prog 52 (AF 1 AB0 ABz ABy AB2) := AI MT Tryz.func52 (by kernel_rfl) (by kernel_rfl) rfl (fun v => (AGW v).trans (AUJ v)) (AA AeE ⟨AaF, trivial⟩)
def R2 : Env := Rz.ext 52 true true (AF 1 AB0 ABz ABy AB2)
theorem MV : AX Tryz.prog R2 := Env.AY MT APW (fun _ => AG rfl rfl) (fun _ => AH rfl rfl)
abbrev Z5 : Hints := { loop := fun n => match n with | 0 => Aa 0 35 AFw AFv Es | _ => fun _ _ _ => none }
theorem AI2 : ∀ v, Es v = roundOf Tryz.prog R2 Z5 1 0 35 (AB Tryz.f119 0) AFw AFv v := by
 rintro ⟨a0, a1, a2, a3, ⟨⟩⟩
 kernel_rfl
theorem AYt : AD (AB Tryz.f119 0) 1 = [] := by kernel_rfl
theorem AYu : AZ Tryz.prog 0 (.loop (AB Tryz.f119 0)) (Z5.loop 0) := AU MV (AI2) (AA AYt trivial)
theorem ASJ : ∀ v, QL v = AP Tryz.prog R2 Z5 Tryz.f119 Z4 Z3 Z2 v := by
 rintro ⟨a0, a1, ⟨⟩⟩
 kernel_rfl
theorem Acp : AD (AR Tryz.f119) 0 = [(0, AB Tryz.f119 0)] := by kernel_rfl
theorem ANe : AQ Tryz.prog 119 (AF 2 Z4 Z3 Z2 Sx) := AI MV Tryz.func119 (by kernel_rfl) (by kernel_rfl) rfl (fun v => (AFx v).trans (ASJ v)) (AA Acp ⟨AYu, trivial⟩)
def Rq : Env := R2.ext 119 true true (AF 2 Z4 Z3 Z2 Sx)
theorem MP : AX Tryz.prog Rq := Env.AY MV ANe (fun _ => AG rfl rfl) (fun _ => AH rfl rfl)
abbrev AAF : Hints := { loop := fun n => match n with | 0 => Aa 0 18 AF1 AF0 Et | _ => fun _ _ _ => none }
theorem AI5 : ∀ v, Et v = roundOf Tryz.prog Rq AAF 1 0 18 (AB Tryz.f120 0) AF1 AF0 v := by
 rintro ⟨a0, a1, a2, ⟨⟩⟩
 kernel_rfl
theorem AYy : AD (AB Tryz.f120 0) 1 = [] := by kernel_rfl
theorem AYz : AZ Tryz.prog 0 (.loop (AB Tryz.f120 0)) (AAF.loop 0) := AU MP (AI5) (AA AYy trivial)
theorem ASM : ∀ v, QM v = AP Tryz.prog Rq AAF Tryz.f120 AAE AAD AAC v := by
 rintro ⟨a0, ⟨⟩⟩
 kernel_rfl
theorem Acr : AD (AR Tryz.f120) 0 = [(0, AB Tryz.f120 0)] := by kernel_rfl
theorem ANi : AQ Tryz.prog 120 (AF 1 AAE AAD AAC S0) := AI MP Tryz.func120 (by kernel_rfl) (by kernel_rfl) rfl (fun v => (AF2 v).trans (ASM v)) (AA Acr ⟨AYz, trivial⟩)
def Rr : Env := Rq.ext 120 true true (AF 1 AAE AAD AAC S0)
theorem MQ : AX Tryz.prog Rr := Env.AY MP ANi (fun _ => AG rfl rfl) (fun _ => AH rfl rfl)
abbrev Zk : Hints := { loop := fun n => match n with | 0 => Aa 1 26 AFm AFl Iz | _ => fun _ _ _ => none }
theorem AIj : ∀ v, Iz v = roundOf Tryz.prog Rr Zk 1 1 26 (AB Tryz.f152 0) AFm AFl v := by
 rintro ⟨a0, a1, ⟨⟩⟩
 kernel_rfl
theorem AYk : AD (AB Tryz.f152 0) 1 = [] := by kernel_rfl
theorem AYl : AZ Tryz.prog 1 (.loop (AB Tryz.f152 0)) (Zk.loop 0) := AU MQ (AIj) (AA AYk trivial)
theorem AR7 : ∀ v, QE v = AP Tryz.prog Rr Zk Tryz.f152 Zj Zi Zh v := by
 rintro ⟨a0, a1, ⟨⟩⟩
 kernel_rfl
theorem Ace : AD (AR Tryz.f152) 0 = [(0, AB Tryz.f152 0)] := by kernel_rfl
theorem ANM : AQ Tryz.prog 152 (AF 2 Zj Zi Zh OS) := AI MQ Tryz.func152 (by kernel_rfl) (by kernel_rfl) rfl (fun v => (AFn v).trans (AR7 v)) (AA Ace ⟨AYl, trivial⟩)
def ADk : Env := Rr.ext 152 false true (AF 2 Zj Zi Zh OS)
theorem Wv : AX Tryz.prog ADk := Env.AY MQ ANM ((by simp)) (fun _ => AH rfl rfl)
abbrev AgF : Hints := {  }
theorem AYn : ∀ v, Xg v = AP Tryz.prog ADk AgF Tryz.f151 AIm AIl AIk v := by
 rintro ⟨a0, a1, a2, ⟨⟩⟩
 kernel_rfl
theorem AgE : AD (AR Tryz.f151) 0 = [] := by kernel_rfl
theorem AR9 : AQ Tryz.prog 151 (AF 3 AIm AIl AIk ANQ) := AI Wv Tryz.func151 (by kernel_rfl) (by kernel_rfl) rfl (fun v => (ANP v).trans (AYn v)) (AA AgE trivial)
def X8 : Env := ADk.ext 151 false true (AF 3 AIm AIl AIk ANQ)
theorem Pa : AX Tryz.prog X8 := Env.AY Wv AR9 ((by simp)) (fun _ => AH rfl rfl)
abbrev PH : Hints := { loop := fun n => match n with | 0 => Aa 1 25 Wg Wf DF | _ => fun _ _ _ => none }
theorem ACv : ∀ v, DF v = roundOf Tryz.prog X8 PH 1 1 25 (AB Tryz.f150 0) Wg Wf v := by
 rintro ⟨a0, a1, a2, a3, a4, ⟨⟩⟩
 kernel_rfl
theorem AQL : AD (AB Tryz.f150 0) 1 = [] := by kernel_rfl
theorem AQM : AZ Tryz.prog 1 (.loop (AB Tryz.f150 0)) (PH.loop 0) := AU Pa (ACv) (AA AQL trivial)
theorem ALA : ∀ v, KD v = AP Tryz.prog X8 PH Tryz.f150 PG PF PE v := by
 rintro ⟨a0, a1, ⟨⟩⟩
 kernel_rfl
theorem AVI : AD (AR Tryz.f150) 0 = [(0, AB Tryz.f150 0)] := by kernel_rfl
theorem AE3 : AQ Tryz.prog 150 (AF 2 PG PF PE Lt) := AI Pa Tryz.func150 (by kernel_rfl) (by kernel_rfl) rfl (fun v => (Wh v).trans (ALA v)) (AA AVI ⟨AQM, trivial⟩)
def Ph : Env := X8.DD 150 1 151 (AF 2 PG PF PE Lt)
theorem N2 : AX Tryz.prog Ph := Env.BD Pa AE3 (AH rfl rfl)
abbrev Acg : Hints := {  }
theorem AR8 : ∀ v, QF v = AP Tryz.prog Ph Acg Tryz.f121 Zn Zm Zl v := by
 rintro ⟨a0, a1, ⟨⟩⟩
 kernel_rfl
theorem Acf : AD (AR Tryz.f121) 0 = [] := by kernel_rfl
theorem ANO : AQ Tryz.prog 121 (AF 2 Zn Zm Zl Sv) := AI N2 Tryz.func121 (by kernel_rfl) (by kernel_rfl) rfl (fun v => (AFo v).trans (AR8 v)) (AA Acf trivial)
def Ro : Env := Ph.ext 121 false true (AF 2 Zn Zm Zl Sv)
theorem MO : AX Tryz.prog Ro := Env.AY N2 ANO ((by simp)) (fun _ => AH rfl rfl)
abbrev OX : Hints := { loop := fun n => match n with | 0 => Aa 0 33 Vu Vt Cz | _ => fun _ _ _ => none }
theorem Z1 : ∀ v, Cz v = roundOf Tryz.prog Ro OX 1 0 33 (AB Tryz.f123 0) Vu Vt v := by
 rintro ⟨a0, a1, a2, ⟨⟩⟩
 kernel_rfl
theorem ANc : AD (AB Tryz.f123 0) 1 = [] := by kernel_rfl
theorem ANd : AZ Tryz.prog 0 (.loop (AB Tryz.f123 0)) (OX.loop 0) := AU MO (Z1) (AA ANc trivial)
theorem AI0 : ∀ v, Jm v = AP Tryz.prog Ro OX Tryz.f123 OW OV OU v := by
 rintro ⟨a0, a1, ⟨⟩⟩
 kernel_rfl
theorem ASH : AD (AR Tryz.f123) 0 = [(0, AB Tryz.f123 0)] := by kernel_rfl
theorem AEO : AQ Tryz.prog 123 (AF 2 OW OV OU LD) := AI MO Tryz.func123 (by kernel_rfl) (by kernel_rfl) rfl (fun v => (Vv v).trans (AI0 v)) (AA ASH ⟨ANd, trivial⟩)
def FU : Env := Ro.ext 123 true true (AF 2 OW OV OU LD)
theorem Di : AX Tryz.prog FU := Env.AY MO AEO (fun _ => AG rfl rfl) (fun _ => AH rfl rfl)
end
end Go.Pev
end
section
namespace Go.Pev
open Go.Proofs
set_option maxRecDepth 100000
noncomputable section
abbrev DH : Hints := { loop := fun n => match n with | 0 => Aa 0 83 RV RR Cc | 1 => Aa 0 83 RU RQ DV | 2 => Aa 0 83 RT RP Cb | _ => fun _ _ _ => none, fp := fun n => match n with | 14 => [[], [], [0], [0], [], [], [0], [0], [], []] | 13 => [[], [], [], [], [], [], [], [], [], [], [], [], [], [], [], [], [], [], [], [0], [0], [], [], [0], [0], [], []] | 12 => [[], [], [], [], [], [], [], [], [], [], [], []] | _ => [] }
theorem XQ : ∀ v, Cb v = roundOf Tryz.prog FU DH 3 0 83 (AB Tryz.f68 2) RT RP v := by
 rintro ⟨a0, a1, a2, a3, a4, ⟨⟩⟩
 kernel_rfl
theorem ALJ : AD (AB Tryz.f68 2) 3 = [] := by kernel_rfl
theorem ALM : AZ Tryz.prog 0 (.loop (AB Tryz.f68 2)) (DH.loop 2) := AU Di (XQ) (AA ALJ trivial)
theorem XR : ∀ v, DV v = roundOf Tryz.prog FU DH 2 0 83 (AB Tryz.f68 1) RU RQ v := by
 rintro ⟨a0, a1, a2, a3, ⟨⟩⟩
 kernel_rfl
theorem ALK : AD (AB Tryz.f68 1) 2 = [(2, AB Tryz.f68 2)] := by kernel_rfl
theorem ALN : AZ Tryz.prog 0 (.loop (AB Tryz.f68 1)) (DH.loop 1) := AU Di (XR) (AA ALK ⟨ALM, trivial⟩)
theorem XS : ∀ v, Cc v = roundOf Tryz.prog FU DH 1 0 83 (AB Tryz.f68 0) RV RR v := by
 rintro ⟨a0, a1, a2, a3, ⟨⟩⟩
 kernel_rfl
theorem ALL : AD (AB Tryz.f68 0) 1 = [] := by kernel_rfl
theorem ALO : AZ Tryz.prog 0 (.loop (AB Tryz.f68 0)) (DH.loop 0) := AU Di (XS) (AA ALL trivial)
theorem AFA : ∀ v, IH v = AP Tryz.prog FU DH Tryz.f68 L5 L4 L3 v := by
 rintro ⟨a0, a1, ⟨⟩⟩
 kernel_rfl
theorem AQY : AD (AR Tryz.f68) 0 = [(0, AB Tryz.f68 0), (1, AB Tryz.f68 1)] := by kernel_rfl
theorem ADE : AQ Tryz.prog 68 (AF 2 L5 L4 L3 Cm) := AI Di Tryz.func68 (by kernel_rfl) (by kernel_rfl) rfl (fun v => (RW v).trans (AFA v)) (AA AQY ⟨ALO, ALN, trivial⟩)
def IU : Env := FU.ext 68 true true (AF 2 L5 L4 L3 Cm)
theorem Hm : AX Tryz.prog IU := Env.AY Di ADE (fun _ => AG rfl rfl) (fun _ => AH rfl rfl)
abbrev AHq : Hints := { loop := fun n => match n with | 0 => Aa 0 20 AMi AMh Yi | _ => fun _ _ _ => none }
theorem AMg : ∀ v, Yi v = roundOf Tryz.prog IU AHq 1 0 20 (AB Tryz.f38 0) AMi AMh v := by
 rintro ⟨a0, a1, ⟨⟩⟩
 kernel_rfl
theorem Abo : AD (AB Tryz.f38 0) 1 = [] := by kernel_rfl
theorem Abp : AZ Tryz.prog 0 (.loop (AB Tryz.f38 0)) (AHq.loop 0) := AU Hm (AMg) (AA Abo trivial)
theorem AX9 : ∀ v, AHr v = AP Tryz.prog IU AHq Tryz.f38 AHp AHo AHn v := by
 rintro ⟨a0, ⟨⟩⟩
 kernel_rfl
theorem Afp : AD (AR Tryz.f38) 0 = [(0, AB Tryz.f38 0)] := by kernel_rfl
theorem ARN : AQ Tryz.prog 38 (AF 1 AHp AHo AHn Ke) := AI Hm Tryz.func38 (by kernel_rfl) (by kernel_rfl) rfl (fun v => (Abq v).trans (AX9 v)) (AA Afp ⟨Abp, trivial⟩)
def Rh : Env := IU.ext 38 true true (AF 1 AHp AHo AHn Ke)
theorem KI : AX Tryz.prog Rh := Env.AY Hm ARN (fun _ => AG rfl rfl) (fun _ => AH rfl rfl)
abbrev I1 : Hints := { loop := fun n => match n with | 0 => Aa 0 138 AAU AAS CR | 1 => Aa 0 138 AAT AAR C2 | _ => fun _ _ _ => none, fp := fun n => match n with | 10 => [[], [], [], [0], [0], [], [], [], [], [], [4], [4], [], [], [0], [0], [], [], [], [], [], [4], [4], [], [], [0], [0], [], [], [], [], [], [4], [4], [], [], [], []] | 8 => [[4], [4], [], [], [4], [4], [4], [4], [], [], [], [4], [4], [0], [0], [], [], [], [4], [4], [], [], [], [4], [4], [0], [0], [], [], []] | _ => [] }
theorem AER : ∀ v, C2 v = roundOf Tryz.prog Rh I1 2 0 138 (AB Tryz.f50 1) AAT AAR v := by
 rintro ⟨a0, a1, a2, a3, a4, a5, ⟨⟩⟩
 kernel_rfl
theorem ASZ : AD (AB Tryz.f50 1) 2 = [] := by kernel_rfl
theorem ASb : AZ Tryz.prog 0 (.loop (AB Tryz.f50 1)) (I1.loop 1) := AU KI (AER) (AA ASZ trivial)
theorem AES : ∀ v, CR v = roundOf Tryz.prog Rh I1 1 0 138 (AB Tryz.f50 0) AAU AAS v := by
 rintro ⟨a0, a1, a2, a3, ⟨⟩⟩
 kernel_rfl
theorem ASa : AD (AB Tryz.f50 0) 1 = [] := by kernel_rfl
theorem ASc : AZ Tryz.prog 0 (.loop (AB Tryz.f50 0)) (I1.loop 0) := AU KI (AES) (AA ASa trivial)
theorem ANr : ∀ v, EA v = AP Tryz.prog Rh I1 Tryz.f50 S3 S2 S1 v := by
 rintro ⟨a0, ⟨⟩⟩
 kernel_rfl
theorem AY4 : AD (AR Tryz.f50) 0 = [(0, AB Tryz.f50 0), (1, AB Tryz.f50 1)] := by kernel_rfl
theorem AI7 : AQ Tryz.prog 50 (AF 1 S3 S2 S1 Bg) := AI KI Tryz.func50 (by kernel_rfl) (by kernel_rfl) rfl (fun v => (Ex v).trans (ANr v)) (AA AY4 ⟨ASc, ASb, trivial⟩)
def NU : Env := Rh.ext 50 true true (AF 1 S3 S2 S1 Bg)
theorem KR : AX Tryz.prog NU := Env.AY KI AI7 (fun _ => AG rfl rfl) (fun _ => AH rfl rfl)
abbrev UJ : Hints := { loop := fun n => match n with | 0 => Aa 0 32 ACs ACr Dz | _ => fun _ _ _ => none, fp := fun n => match n with | 7 => [[], [0], [0], [], [], [], [], [0], [0], [], [], [], [], [], [], [3, 4], []] | _ => [] }
theorem AE1 : ∀ v, Dz v = roundOf Tryz.prog NU UJ 1 0 32 (AB Tryz.f36 0) ACs ACr v := by
 rintro ⟨a0, a1, a2, a3, ⟨⟩⟩
 kernel_rfl
theorem AVF : AD (AB Tryz.f36 0) 1 = [] := by kernel_rfl
theorem AVG : AZ Tryz.prog 0 (.loop (AB Tryz.f36 0)) (UJ.loop 0) := AU KR (AE1) (AA AVF trivial)
theorem AQI : ∀ v, NG v = AP Tryz.prog NU UJ Tryz.f36 UI UH UG v := by
 rintro ⟨a0, ⟨⟩⟩
 kernel_rfl
theorem Aa0 : AD (AR Tryz.f36) 0 = [(0, AB Tryz.f36 0)] := by kernel_rfl
theorem AK7 : AQ Tryz.prog 36 (AF 1 UI UH UG KB) := AI KR Tryz.func36 (by kernel_rfl) (by kernel_rfl) rfl (fun v => (ACt v).trans (AQI v)) (AA Aa0 ⟨AVG, trivial⟩)
def VY : Env := NU.ext 36 true true (AF 1 UI UH UG KB)
theorem R9 : AX Tryz.prog VY := Env.AY KR AK7 (fun _ => AG rfl rfl) (fun _ => AH rfl rfl)
abbrev AiK : Hints := {  }
theorem AeR : ∀ v, AKV v = AP Tryz.prog VY AiK Tryz.f138 AUi AUh AUg v := by
 rintro ⟨a0, a1, ⟨⟩⟩
 kernel_rfl
theorem AiJ : AD (AR Tryz.f138) 0 = [] := by kernel_rfl
theorem AaO : AQ Tryz.prog 138 (AF 2 AUi AUh AUg AEy) := AI R9 Tryz.func138 (by kernel_rfl) (by kernel_rfl) rfl (fun v => (AXH v).trans (AeR v)) (AA AiJ trivial)
def AV9 : Env := VY.ext 138 true true (AF 2 AUi AUh AUg AEy)
theorem AHO : AX Tryz.prog AV9 := Env.AY R9 AaO (fun _ => AG rfl rfl) (fun _ => AH rfl rfl)
abbrev AYB : Hints := { fp := fun n => match n with | 5 => [[], [], [], [], [], [], [], [], [], [], [], []] | _ => [] }
theorem AMj : ∀ v, Me v = AP Tryz.prog AV9 AYB Tryz.f171 SX SW SV v := by
 rintro ⟨a0, a1, ⟨⟩⟩
 kernel_rfl
theorem AYA : AD (AR Tryz.f171) 0 = [] := by kernel_rfl
theorem AHs : AQ Tryz.prog 171 (AF 2 SX SW SV Mf) := AI AHO Tryz.func171 (by kernel_rfl) (by kernel_rfl) rfl (fun v => (Yj v).trans (AMj v)) (AA AYA trivial)
def VL : Env := AV9.ext 171 true true (AF 2 SX SW SV Mf)
theorem Ri : AX Tryz.prog VL := Env.AY AHO AHs (fun _ => AG rfl rfl) (fun _ => AH rfl rfl)
abbrev AhY : Hints := {  }
theorem AbQ : ∀ v, X4 v = AP Tryz.prog VL AhY Tryz.f105 ALj ALi ALh v := by
 rintro ⟨a0, a1, a2, ⟨⟩⟩
 kernel_rfl
theorem AhX : AD (AR Tryz.f105) 0 = [] := by kernel_rfl
theorem AVt : AQ Tryz.prog 105 (AF 3 ALj ALi ALh ADT) := AI Ri Tryz.func105 (by kernel_rfl) (by kernel_rfl) rfl (fun v => (AQq v).trans (AbQ v)) (AA AhX trivial)
def YD : Env := VL.ext 105 true true (AF 3 ALj ALi ALh ADT)
theorem Pk : AX Tryz.prog YD := Env.AY Ri AVt (fun _ => AG rfl rfl) (fun _ => AH rfl rfl)
abbrev ABc : Hints := { loop := fun n => match n with | 0 => Aa 0 28 AGO AGN E3 | _ => fun _ _ _ => none }
theorem AKD : ∀ v, E3 v = roundOf Tryz.prog YD ABc 1 0 28 (AB Tryz.f122 0) AGO AGN v := by
 rintro ⟨a0, a1, a2, a3, a4, ⟨⟩⟩
 kernel_rfl
theorem AZw : AD (AB Tryz.f122 0) 1 = [] := by kernel_rfl
theorem AZx : AZ Tryz.prog 0 (.loop (AB Tryz.f122 0)) (ABc.loop 0) := AU Pk (AKD) (AA AZw trivial)
theorem AT1 : ∀ v, Qk v = AP Tryz.prog YD ABc Tryz.f122 ABb ABa ABZ v := by
 rintro ⟨a0, ⟨⟩⟩
 kernel_rfl
theorem Ad0 : AD (AR Tryz.f122) 0 = [(0, AB Tryz.f122 0)] := by kernel_rfl
theorem APH : AQ Tryz.prog 122 (AF 1 ABb ABa ABZ Tj) := AI Pk Tryz.func122 (by kernel_rfl) (by kernel_rfl) rfl (fun v => (AGP v).trans (AT1 v)) (AA Ad0 ⟨AZx, trivial⟩)
def ADu : Env := YD.ext 122 true true (AF 1 ABb ABa ABZ Tj)
theorem W1 : AX Tryz.prog ADu := Env.AY Pk APH (fun _ => AG rfl rfl) (fun _ => AH rfl rfl)
abbrev ARj : Hints := {  }
theorem AIE : ∀ v, Jf v = AP Tryz.prog ADu ARj Tryz.f172 OG OF OE v := by
 rintro ⟨a0, a1, a2, ⟨⟩⟩
 kernel_rfl
theorem ARi : AD (AR Tryz.f172) 0 = [] := by kernel_rfl
theorem AED : AQ Tryz.prog 172 (AF 3 OG OF OE Kw) := AI W1 Tryz.func172 (by kernel_rfl) (by kernel_rfl) rfl (fun v => (Vp v).trans (AIE v)) (AA ARi trivial)
def FT : Env := ADu.ext 172 true true (AF 3 OG OF OE Kw)
theorem Dh : AX Tryz.prog FT := Env.AY W1 AED (fun _ => AG rfl rfl) (fun _ => AH rfl rfl)
abbrev G3 : Hints := { loop := fun n => match n with | 0 => Aa 0 129 AFY AFV Gn | 1 => Aa 0 129 AFX AFU CB | 2 => Aa 0 129 AFW AFT Em | _ => fun _ _ _ => none, fp := fun n => match n with | 7 => [[], [], [0], [0], [], [], [], [], [0], [], [0], [0], [], [], [], [], [0], [], [0], [0], [], [], []] | _ => [] }
theorem AHi : ∀ v, Em v = roundOf Tryz.prog FT G3 3 0 129 (AB Tryz.f136 2) AFW AFT v := by
 rintro ⟨a0, a1, a2, a3, a4, a5, a6, a7, a8, a9, a10, a11, a12, a13, a14, a15, a16, a17, a18, a19, a20, a21, a22, a23, a24, a25, a26, a27, ⟨⟩⟩
 kernel_rfl
theorem AX0 : AD (AB Tryz.f136 2) 3 = [] := by kernel_rfl
theorem AX3 : AZ Tryz.prog 0 (.loop (AB Tryz.f136 2)) (G3.loop 2) := AU Dh (AHi) (AA AX0 trivial)
theorem AHj : ∀ v, CB v = roundOf Tryz.prog FT G3 2 0 129 (AB Tryz.f136 1) AFX AFU v := by
 rintro ⟨a0, a1, a2, a3, ⟨⟩⟩
 kernel_rfl
theorem AX1 : AD (AB Tryz.f136 1) 2 = [(2, AB Tryz.f136 2)] := by kernel_rfl
theorem AX4 : AZ Tryz.prog 0 (.loop (AB Tryz.f136 1)) (G3.loop 1) := AU Dh (AHj) (AA AX1 ⟨AX3, trivial⟩)
theorem AHk : ∀ v, Gn v = roundOf Tryz.prog FT G3 1 0 129 (AB Tryz.f136 0) AFY AFV v := by
 rintro ⟨a0, a1, ⟨⟩⟩
 kernel_rfl
theorem AX2 : AD (AB Tryz.f136 0) 1 = [(1, AB Tryz.f136 1)] := by kernel_rfl
theorem AX5 : AZ Tryz.prog 0 (.loop (AB Tryz.f136 0)) (G3.loop 0) := AU Dh (AHk) (AA AX2 ⟨AX4, trivial⟩)
theorem ARL : ∀ v, Py v = AP Tryz.prog FT G3 Tryz.f136 Yd Yc Yb v := by
 rintro ⟨a0, a1, ⟨⟩⟩
 kernel_rfl
theorem Abl : AD (AR Tryz.f136) 0 = [(0, AB Tryz.f136 0)] := by kernel_rfl
theorem AMd : AQ Tryz.prog 136 (AF 2 Yd Yc Yb Ye) := AI Dh Tryz.func136 (by kernel_rfl) (by kernel_rfl) rfl (fun v => (AFZ v).trans (ARL v)) (AA Abl ⟨AX5, trivial⟩)
def Rg : Env := FT.ext 136 true true (AF 2 Yd Yc Yb Ye)
theorem MG : AX Tryz.prog Rg := Env.AY Dh AMd (fun _ => AG rfl rfl) (fun _ => AH rfl rfl)
abbrev TR : Hints := { loop := fun n => match n with | 0 => Aa 0 19 AA0 AAz Dv | _ => fun _ _ _ => none }
theorem AEc : ∀ v, Dv v = roundOf Tryz.prog Rg TR 1 0 19 (AB Tryz.f104 0) AA0 AAz v := by
 rintro ⟨a0, a1, a2, ⟨⟩⟩
 kernel_rfl
theorem ATD : AD (AB Tryz.f104 0) 1 = [] := by kernel_rfl
theorem ATE : AZ Tryz.prog 0 (.loop (AB Tryz.f104 0)) (TR.loop 0) := AU MG (AEc) (AA ATD trivial)
theorem AOB : ∀ v, Mw v = AP Tryz.prog Rg TR Tryz.f104 TQ TP TO v := by
 rintro ⟨a0, a1, ⟨⟩⟩
 kernel_rfl
theorem AZM : AD (AR Tryz.f104) 0 = [(0, AB Tryz.f104 0)] := by kernel_rfl
theorem AJY : AQ Tryz.prog 104 (AF 2 TQ TP TO Hu) := AI MG Tryz.func104 (by kernel_rfl) (by kernel_rfl) rfl (fun v => (AA1 v).trans (AOB v)) (AA AZM ⟨ATE, trivial⟩)
def NZ : Env := Rg.ext 104 true true (AF 2 TQ TP TO Hu)
theorem KW : AX Tryz.prog NZ := Env.AY MG AJY (fun _ => AG rfl rfl) (fun _ => AH rfl rfl)
abbrev TA : Hints := { loop := fun n => match n with | 0 => Aa 0 36 AAb AAa C3 | _ => fun _ _ _ => none, fp := fun n => match n with | 6 => [[], [], [], [], [], [], [], [], [], [], [], [], [], [], [], [], [], [], [], [], [], [], []] | _ => [] }
theorem AEW : ∀ v, C3 v = roundOf Tryz.prog NZ TA 1 0 36 (AB Tryz.f135 0) AAb AAa v := by
 rintro ⟨a0, a1, ⟨⟩⟩
 kernel_rfl
theorem ASh : AD (AB Tryz.f135 0) 1 = [] := by kernel_rfl
theorem ASi : AZ Tryz.prog 0 (.loop (AB Tryz.f135 0)) (TA.loop 0) := AU KW (AEW) (AA ASh trivial)
theorem ANt : ∀ v, Mo v = AP Tryz.prog NZ TA Tryz.f135 S9 S8 S7 v := by
 rintro ⟨a0, ⟨⟩⟩
 kernel_rfl
theorem AY6 : AD (AR Tryz.f135) 0 = [(0, AB Tryz.f135 0)] := by kernel_rfl
theorem AI9 : AQ Tryz.prog 135 (AF 1 S9 S8 S7 Jn) := AI KW Tryz.func135 (by kernel_rfl) (by kernel_rfl) rfl (fun v => (AAc v).trans (ANt v)) (AA AY6 ⟨ASi, trivial⟩)
def VP : Env := NZ.ext 135 true true (AF 1 S9 S8 S7 Jn)
theorem Rs : AX Tryz.prog VP := Env.AY KW AI9 (fun _ => AG rfl rfl) (fun _ => AH rfl rfl)
end
end Go.Pev
end
section
namespace Go.Pev
open Go.Proofs
set_option maxRecDepth 100000
noncomputable section
abbrev Aeu : Hints := { fp := fun n => match n with | 4 => [[], [], [], [], [17], [], [], [], [19], [], []] | _ => [] }
theorem AU0 : ∀ v, Q5 v = AP Tryz.prog VP Aeu Tryz.f173 ACd ACc ACb v := by
 rintro ⟨a0, a1, ⟨⟩⟩
 kernel_rfl
theorem Aet : AD (AR Tryz.f173) 0 = [] := by kernel_rfl
theorem AP4 : AQ Tryz.prog 173 (AF 2 ACd ACc ACb O5) := AI Rs Tryz.func173 (by kernel_rfl) (by kernel_rfl) rfl (fun v => (AGq v).trans (AU0 v)) (AA Aet trivial)
def R6 : Env := VP.ext 173 true true (AF 2 ACd ACc ACb O5)
theorem MY : AX Tryz.prog R6 := Env.AY Rs AP4 (fun _ => AG rfl rfl) (fun _ => AH rfl rfl)
abbrev TJ : Hints := { loop := fun n => match n with | 0 => Aa 0 37 AAq AAp Dt | _ => fun _ _ _ => none }
theorem AEa : ∀ v, Dt v = roundOf Tryz.prog R6 TJ 1 0 37 (AB Tryz.f137 0) AAq AAp v := by
 rintro ⟨a0, a1, a2, ⟨⟩⟩
 kernel_rfl
theorem AS6 : AD (AB Tryz.f137 0) 1 = [] := by kernel_rfl
theorem AS7 : AZ Tryz.prog 0 (.loop (AB Tryz.f137 0)) (TJ.loop 0) := AU MY (AEa) (AA AS6 trivial)
theorem AN8 : ∀ v, Mt v = AP Tryz.prog R6 TJ Tryz.f137 TH TG TF v := by
 rintro ⟨a0, ⟨⟩⟩
 kernel_rfl
theorem AZI : AD (AR Tryz.f137) 0 = [(0, AB Tryz.f137 0)] := by kernel_rfl
theorem AJU : AQ Tryz.prog 137 (AF 1 TH TG TF Mu) := AI MY Tryz.func137 (by kernel_rfl) (by kernel_rfl) rfl (fun v => (AAr v).trans (AN8 v)) (AA AZI ⟨AS7, trivial⟩)
def NX : Env := R6.ext 137 true true (AF 1 TH TG TF Mu)
theorem KU : AX Tryz.prog NX := Env.AY MY AJU (fun _ => AG rfl rfl) (fun _ => AH rfl rfl)
abbrev Tr : Hints := { loop := fun n => match n with | 0 => Aa 0 27 ABq ABp C9 | _ => fun _ _ _ => none, fp := fun n => match n with | 6 => [[], [], [], [], [], [], [], [], [], []] | _ => [] }
theorem AEs : ∀ v, C9 v = roundOf Tryz.prog NX Tr 1 0 27 (AB Tryz.f96 0) ABq ABp v := by
 rintro ⟨a0, a1, a2, ⟨⟩⟩
 kernel_rfl
theorem AUA : AD (AB Tryz.f96 0) 1 = [] := by kernel_rfl
theorem AUB : AZ Tryz.prog 0 (.loop (AB Tryz.f96 0)) (Tr.loop 0) := AU KU (AEs) (AA AUA trivial)
theorem APO : ∀ v, M9 v = AP Tryz.prog NX Tr Tryz.f96 Tq Tp To v := by
 rintro ⟨a0, a1, ⟨⟩⟩
 kernel_rfl
theorem AZ5 : AD (AR Tryz.f96) 0 = [(0, AB Tryz.f96 0)] := by kernel_rfl
theorem AKG : AQ Tryz.prog 96 (AF 2 Tq Tp To Qm) := AI KU Tryz.func96 (by kernel_rfl) (by kernel_rfl) rfl (fun v => (ABr v).trans (APO v)) (AA AZ5 ⟨AUB, trivial⟩)
def JW : Env := NX.ext 96 true true (AF 2 Tq Tp To Qm)
theorem Gl : AX Tryz.prog JW := Env.AY KU AKG (fun _ => AG rfl rfl) (fun _ => AH rfl rfl)
abbrev I2 : Hints := { loop := fun n => match n with | 0 => Aa 0 106 AAY AAW CT | 1 => Aa 0 106 AAX AAV CS | _ => fun _ _ _ => none, fp := fun n => match n with | 16 => [[], [], [], [], [0], [0], []] | _ => [] }
theorem AET : ∀ v, CS v = roundOf Tryz.prog JW I2 2 0 106 (AB Tryz.f102 1) AAX AAV v := by
 rintro ⟨a0, a1, a2, a3, a4, a5, a6, a7, a8, a9, a10, a11, a12, a13, a14, a15, a16, a17, a18, a19, a20, a21, a22, a23, a24, a25, ⟨⟩⟩
 kernel_rfl
theorem ASd : AD (AB Tryz.f102 1) 2 = [] := by kernel_rfl
theorem ASf : AZ Tryz.prog 0 (.loop (AB Tryz.f102 1)) (I2.loop 1) := AU Gl (AET) (AA ASd trivial)
theorem AEU : ∀ v, CT v = roundOf Tryz.prog JW I2 1 0 106 (AB Tryz.f102 0) AAY AAW v := by
 rintro ⟨a0, a1, a2, a3, a4, a5, ⟨⟩⟩
 kernel_rfl
theorem ASe : AD (AB Tryz.f102 0) 1 = [(1, AB Tryz.f102 1)] := by kernel_rfl
theorem ASg : AZ Tryz.prog 0 (.loop (AB Tryz.f102 0)) (I2.loop 0) := AU Gl (AEU) (AA ASe ⟨ASf, trivial⟩)
theorem ANs : ∀ v, Mm v = AP Tryz.prog JW I2 Tryz.f102 S6 S5 S4 v := by
 rintro ⟨a0, ⟨⟩⟩
 kernel_rfl
theorem AY5 : AD (AR Tryz.f102) 0 = [(0, AB Tryz.f102 0)] := by kernel_rfl
theorem AI8 : AQ Tryz.prog 102 (AF 1 S6 S5 S4 Mn) := AI Gl Tryz.func102 (by kernel_rfl) (by kernel_rfl) rfl (fun v => (AAZ v).trans (ANs v)) (AA AY5 ⟨ASg, trivial⟩)
def NV : Env := JW.ext 102 true true (AF 1 S6 S5 S4 Mn)
theorem KS : AX Tryz.prog NV := Env.AY Gl AI8 (fun _ => AG rfl rfl) (fun _ => AH rfl rfl)
abbrev TN : Hints := { loop := fun n => match n with | 0 => Aa 0 22 AAx AAw Du | _ => fun _ _ _ => none }
theorem AEb : ∀ v, Du v = roundOf Tryz.prog NV TN 1 0 22 (AB Tryz.f139 0) AAx AAw v := by
 rintro ⟨a0, a1, a2, a3, ⟨⟩⟩
 kernel_rfl
theorem ATB : AD (AB Tryz.f139 0) 1 = [] := by kernel_rfl
theorem ATC : AZ Tryz.prog 0 (.loop (AB Tryz.f139 0)) (TN.loop 0) := AU KS (AEb) (AA ATB trivial)
theorem AOA : ∀ v, Mv v = AP Tryz.prog NV TN Tryz.f139 TM TL TK v := by
 rintro ⟨a0, a1, ⟨⟩⟩
 kernel_rfl
theorem AZL : AD (AR Tryz.f139) 0 = [(0, AB Tryz.f139 0)] := by kernel_rfl
theorem AJX : AQ Tryz.prog 139 (AF 2 TM TL TK Ht) := AI KS Tryz.func139 (by kernel_rfl) (by kernel_rfl) rfl (fun v => (AAy v).trans (AOA v)) (AA AZL ⟨ATC, trivial⟩)
def NY : Env := NV.ext 139 true true (AF 2 TM TL TK Ht)
theorem KV : AX Tryz.prog NY := Env.AY KS AJX (fun _ => AG rfl rfl) (fun _ => AH rfl rfl)
abbrev AJR : Hints := { loop := fun n => match n with | 0 => Aa 0 38 AN4 AN3 HB | _ => fun _ _ _ => none, fp := fun n => match n with | 3 => [[], [], [], [], [], [], [], [], [], [], [], [], [0], [0], [], []] | 5 => [[], [], [], [], [3], [], [0], [5, 6], [], [], [], [9], []] | _ => [] }
theorem AN2 : ∀ v, HB v = roundOf Tryz.prog NY AJR 1 0 38 (AB Tryz.f182 0) AN4 AN3 v := by
 rintro ⟨a0, a1, a2, ⟨⟩⟩
 kernel_rfl
theorem AdA : AD (AB Tryz.f182 0) 1 = [] := by kernel_rfl
theorem AdB : AZ Tryz.prog 0 (.loop (AB Tryz.f182 0)) (AJR.loop 0) := AU KV (AN2) (AA AdA trivial)
theorem AZG : ∀ v, Xm v = AP Tryz.prog NY AJR Tryz.f182 AJQ AJP AJO v := by
 rintro ⟨a0, a1, ⟨⟩⟩
 kernel_rfl
theorem AgV : AD (AR Tryz.f182) 0 = [(0, AB Tryz.f182 0)] := by kernel_rfl
theorem ASz : AQ Tryz.prog 182 (AF 2 AJQ AJP AJO AGA) := AI KV Tryz.func182 (by kernel_rfl) (by kernel_rfl) rfl (fun v => (AN5 v).trans (AZG v)) (AA AgV ⟨AdB, trivial⟩)
def AL2 : Env := NY.ext 182 true true (AF 2 AJQ AJP AJO AGA)
theorem ADq : AX Tryz.prog AL2 := Env.AY KV ASz (fun _ => AG rfl rfl) (fun _ => AH rfl rfl)
abbrev AMI : Hints := { fp := fun n => match n with | 1 => [[], [], [], [], [1], [], [], [], [], [3], []] | _ => [] }
theorem AD9 : ∀ v, Ho v = AP Tryz.prog AL2 AMI Tryz.f181 Kq Kp Ko v := by
 rintro ⟨a0, a1, ⟨⟩⟩
 kernel_rfl
theorem AMH : AD (AR Tryz.f181) 0 = [] := by kernel_rfl
theorem YF : AQ Tryz.prog 181 (AF 2 Kq Kp Ko D8) := AI ADq Tryz.func181 (by kernel_rfl) (by kernel_rfl) rfl (fun v => (Pn v).trans (AD9 v)) (AA AMH trivial)
def MD : Env := AL2.ext 181 true true (AF 2 Kq Kp Ko D8)
theorem MC : AX Tryz.prog MD := Env.AY ADq YF (fun _ => AG rfl rfl) (fun _ => AH rfl rfl)
abbrev AeD : Hints := { fp := fun n => match n with | 13 => [[0], [0], [], [], [], [], [102], [], [110, 100], [], [3], []] | 11 => [[], [0], [0], [], [], [], [], [87, 96], [], [60], [99, 60], []] | 7 => [[0], [], [], [0], [], [], [], []] | 5 => [[0], [], [], [0], [], [], [], []] | _ => [] }
theorem AUG : ∀ v, HH v = AP Tryz.prog MD AeD Tryz.f158 ABw ABv ABu v := by
 rintro ⟨a0, a1, a2, ⟨⟩⟩
 kernel_rfl
theorem AeC : AD (AR Tryz.f158) 0 = [] := by kernel_rfl
theorem APS : AQ Tryz.prog 158 (AF 3 ABw ABv ABu LZ) := AI MC Tryz.func158 (by kernel_rfl) (by kernel_rfl) rfl (fun v => (I9 v).trans (AUG v)) (AA AeC trivial)
def R1 : Env := MD.ext 158 true true (AF 3 ABw ABv ABu LZ)
theorem MU : AX Tryz.prog R1 := Env.AY MC APS (fun _ => AG rfl rfl) (fun _ => AH rfl rfl)
abbrev AAA : Hints := { loop := fun n => match n with | 0 => Aa 0 26 AFz AFy Sy | _ => fun _ _ _ => none, fp := fun n => match n with | 6 => [[], [], [], [], [], [], [], [], []] | _ => [] }
theorem AI3 : ∀ v, Sy v = roundOf Tryz.prog R1 AAA 1 0 26 (AB Tryz.f19 0) AFz AFy v := by
 rintro ⟨a0, a1, a2, ⟨⟩⟩
 kernel_rfl
theorem AYv : AD (AB Tryz.f19 0) 1 = [] := by kernel_rfl
theorem AYw : AZ Tryz.prog 0 (.loop (AB Tryz.f19 0)) (AAA.loop 0) := AU MU (AI3) (AA AYv trivial)
theorem ASK : ∀ v, AAB v = AP Tryz.prog R1 AAA Tryz.f19 Z9 Z8 Z7 v := by
 rintro ⟨a0, a1, ⟨⟩⟩
 kernel_rfl
theorem Acq : AD (AR Tryz.f19) 0 = [(0, AB Tryz.f19 0)] := by kernel_rfl
theorem ANh : AQ Tryz.prog 19 (AF 2 Z9 Z8 Z7 AI4) := AI MU Tryz.func19 (by kernel_rfl) (by kernel_rfl) rfl (fun v => (AYx v).trans (ASK v)) (AA Acq ⟨AYw, trivial⟩)
def ADm : Env := R1.ext 19 true true (AF 2 Z9 Z8 Z7 AI4)
theorem Wx : AX Tryz.prog ADm := Env.AY MU ANh (fun _ => AG rfl rfl) (fun _ => AH rfl rfl)
abbrev AiW : Hints := {  }
theorem Afq : ∀ v, AWF v = AP Tryz.prog ADm AiW Tryz.f126 Abu Abt Abs v := by
 rintro ⟨a0, a1, ⟨⟩⟩
 kernel_rfl
theorem AiV : AD (AR Tryz.f126) 0 = [] := by kernel_rfl
theorem Abr : AQ Tryz.prog 126 (AF 2 Abu Abt Abs tof) := AI Wx Tryz.func126 (by kernel_rfl) (by kernel_rfl) rfl (fun v => (Abv v).trans (Afq v)) (AA AiV trivial)
def AXg : Env := ADm.ext 126 true true (AF 2 Abu Abt Abs tof)
theorem ADd : AX Tryz.prog AXg := Env.AY Wx Abr (fun _ => AG rfl rfl) (fun _ => AH rfl rfl)
abbrev Sb : Hints := { loop := fun n => match n with | 0 => Aa 0 49 Yl Yk Dn | _ => fun _ _ _ => none, fp := fun n => match n with | 6 => [[], [], [], [], [], [], [], [], [], [], [], [], [0], [0], [], [], [], [], [], [], [], [], [], [], [], [], [], [], [], [], [0], [0], [], []] | _ => [] }
theorem AEC : ∀ v, Dn v = roundOf Tryz.prog AXg Sb 1 0 49 (AB Tryz.f106 0) Yl Yk v := by
 rintro ⟨a0, a1, a2, a3, ⟨⟩⟩
 kernel_rfl
theorem ARR : AD (AB Tryz.f106 0) 1 = [] := by kernel_rfl
theorem ARS : AZ Tryz.prog 0 (.loop (AB Tryz.f106 0)) (Sb.loop 0) := AU ADd (AEC) (AA ARR trivial)
theorem AMp : ∀ v, Mg v = AP Tryz.prog AXg Sb Tryz.f106 Sa SZ SY v := by
 rintro ⟨a0, a1, ⟨⟩⟩
 kernel_rfl
theorem AYF : AD (AR Tryz.f106) 0 = [(0, AB Tryz.f106 0)] := by kernel_rfl
theorem AH1 : AQ Tryz.prog 106 (AF 2 Sa SZ SY P1) := AI ADd Tryz.func106 (by kernel_rfl) (by kernel_rfl) rfl (fun v => (Ym v).trans (AMp v)) (AA AYF ⟨ARS, trivial⟩)
def NS : Env := AXg.ext 106 true true (AF 2 Sa SZ SY P1)
theorem KK : AX Tryz.prog NS := Env.AY ADd AH1 (fun _ => AG rfl rfl) (fun _ => AH rfl rfl)
abbrev Tv : Hints := { loop := fun n => match n with | 0 => Aa 0 48 ABt ABs Bs | _ => fun _ _ _ => none, fp := fun n => match n with | 8 => [[0], [], [], [], [], [], [], [], [], [], [], [], [], [], [], [], [15], []] | _ => [] }
theorem AEt : ∀ v, Bs v = roundOf Tryz.prog NS Tv 1 0 48 (AB Tryz.f128 0) ABt ABs v := by
 rintro ⟨a0, a1, a2, a3, a4, a5, ⟨⟩⟩
 kernel_rfl
theorem AUD : AD (AB Tryz.f128 0) 1 = [] := by kernel_rfl
theorem AUE : AZ Tryz.prog 0 (.loop (AB Tryz.f128 0)) (Tv.loop 0) := AU KK (AEt) (AA AUD trivial)
theorem APP : ∀ v, I8 v = AP Tryz.prog NS Tv Tryz.f128 Tu Tt Ts v := by
 rintro ⟨a0, a1, ⟨⟩⟩
 kernel_rfl
theorem AZ6 : AD (AR Tryz.f128) 0 = [(0, AB Tryz.f128 0)] := by kernel_rfl
theorem AKH : AQ Tryz.prog 128 (AF 2 Tu Tt Ts J3) := AI KK Tryz.func128 (by kernel_rfl) (by kernel_rfl) rfl (fun v => (Om v).trans (APP v)) (AA AZ6 ⟨AUE, trivial⟩)
def VT : Env := NS.ext 128 true true (AF 2 Tu Tt Ts J3)
theorem R0 : AX Tryz.prog VT := Env.AY KK AKH (fun _ => AG rfl rfl) (fun _ => AH rfl rfl)
end
end Go.Pev
end
section
namespace Go.Pev
open Go.Proofs
set_option maxRecDepth 100000
noncomputable section
abbrev Ah7 : Hints := {  }
theorem Adr : ∀ v, AJx v = AP Tryz.prog VT Ah7 Tryz.f94 ATl ATk ATj v := by
 rintro ⟨a0, a1, ⟨⟩⟩
 kernel_rfl
theorem Ah6 : AD (AR Tryz.f94) 0 = [] := by kernel_rfl
theorem AZh : AQ Tryz.prog 94 (AF 2 ATl ATk ATj Ads) := AI R0 Tryz.func94 (by kernel_rfl) (by kernel_rfl) rfl (fun v => (AWw v).trans (Adr v)) (AA Ah6 trivial)
def AV5 : Env := VT.ext 94 true true (AF 2 ATl ATk ATj Ads)
theorem AHK : AX Tryz.prog AV5 := Env.AY R0 AZh (fun _ => AG rfl rfl) (fun _ => AH rfl rfl)
abbrev AVj : Hints := {  }
theorem ALT : ∀ v, KF v = AP Tryz.prog AV5 AVj Tryz.f89 PR PQ PO v := by
 rintro ⟨a0, a1, ⟨⟩⟩
 kernel_rfl
theorem AVi : AD (AR Tryz.f89) 0 = [] := by kernel_rfl
theorem AFE : AQ Tryz.prog 89 (AF 2 PR PQ PO L6) := AI AHK Tryz.func89 (by kernel_rfl) (by kernel_rfl) rfl (fun v => (Wj v).trans (ALT v)) (AA AVi trivial)
def Kb : Env := AV5.ext 89 true true (AF 2 PR PQ PO L6)
theorem Iu : AX Tryz.prog Kb := Env.AY AHK AFE (fun _ => AG rfl rfl) (fun _ => AH rfl rfl)
abbrev ACo : Hints := { loop := fun n => match n with | 0 => Aa 0 41 AGw AGv FJ | _ => fun _ _ _ => none }
theorem AKy : ∀ v, FJ v = roundOf Tryz.prog Kb ACo 1 0 41 (AB Tryz.f35 0) AGw AGv v := by
 rintro ⟨a0, a1, a2, a3, a4, ⟨⟩⟩
 kernel_rfl
theorem Aau : AD (AB Tryz.f35 0) 1 = [] := by kernel_rfl
theorem Aav : AZ Tryz.prog 0 (.loop (AB Tryz.f35 0)) (ACo.loop 0) := AU Iu (AKy) (AA Aau trivial)
theorem AU8 : ∀ v, Q8 v = AP Tryz.prog Kb ACo Tryz.f35 ACn ACm ACl v := by
 rintro ⟨a0, a1, a2, ⟨⟩⟩
 kernel_rfl
theorem Ae8 : AD (AR Tryz.f35) 0 = [(0, AB Tryz.f35 0)] := by kernel_rfl
theorem AP9 : AQ Tryz.prog 35 (AF 3 ACn ACm ACl ACp) := AI Iu Tryz.func35 (by kernel_rfl) (by kernel_rfl) rfl (fun v => (AGx v).trans (AU8 v)) (AA Ae8 ⟨Aav, trivial⟩)
def R8 : Env := Kb.ext 35 true true (AF 3 ACn ACm ACl ACp)
theorem Ma : AX Tryz.prog R8 := Env.AY Iu AP9 (fun _ => AG rfl rfl) (fun _ => AH rfl rfl)
abbrev SU : Hints := { loop := fun n => match n with | 0 => Aa 0 47 Ya YZ Br | _ => fun _ _ _ => none, fp := fun n => match n with | 6 => [[], [0], [0], [], [], [], [], [0], [0], [], [], [], [], [], [], [3, 4], []] | _ => [] }
theorem AEB : ∀ v, Br v = roundOf Tryz.prog R8 SU 1 0 47 (AB Tryz.f78 0) Ya YZ v := by
 rintro ⟨a0, a1, a2, a3, a4, ⟨⟩⟩
 kernel_rfl
theorem ARH : AD (AB Tryz.f78 0) 1 = [] := by kernel_rfl
theorem ARI : AZ Tryz.prog 0 (.loop (AB Tryz.f78 0)) (SU.loop 0) := AU Ma (AEB) (AA ARH trivial)
theorem AMc : ∀ v, Iw v = AP Tryz.prog R8 SU Tryz.f78 SS SQ SO v := by
 rintro ⟨a0, a1, ⟨⟩⟩
 kernel_rfl
theorem AXz : AD (AR Tryz.f78) 0 = [(0, AB Tryz.f78 0)] := by kernel_rfl
theorem AHh : AQ Tryz.prog 78 (AF 2 SS SQ SO GR) := AI Ma Tryz.func78 (by kernel_rfl) (by kernel_rfl) rfl (fun v => (OA v).trans (AMc v)) (AA AXz ⟨ARI, trivial⟩)
def VK : Env := R8.ext 78 true true (AF 2 SS SQ SO GR)
theorem Rf : AX Tryz.prog VK := Env.AY Ma AHh (fun _ => AG rfl rfl) (fun _ => AH rfl rfl)
abbrev AU2 : Hints := { fp := fun n => match n with | 3 => [[0], [0], [0], [], [], [12], [], [], [3], []] | _ => [] }
theorem AKw : ∀ v, J7 v = AP Tryz.prog VK AU2 Tryz.f42 O8 O7 O6 v := by
 rintro ⟨a0, a1, ⟨⟩⟩
 kernel_rfl
theorem AU1 : AD (AR Tryz.f42) 0 = [] := by kernel_rfl
theorem AE0 : AQ Tryz.prog 42 (AF 2 O8 O7 O6 Lm) := AI Rf Tryz.func42 (by kernel_rfl) (by kernel_rfl) rfl (fun v => (WZ v).trans (AKw v)) (AA AU1 trivial)
def Ka : Env := VK.ext 42 true true (AF 2 O8 O7 O6 Lm)
theorem It : AX Tryz.prog Ka := Env.AY Rf AE0 (fun _ => AG rfl rfl) (fun _ => AH rfl rfl)
abbrev AKi : Hints := { loop := fun n => match n with | 0 => Aa 0 18 APs APr HP | _ => fun _ _ _ => none, fp := fun n => match n with | 4 => [[], [], [], [], [0], []] | _ => [] }
theorem APq : ∀ v, HP v = roundOf Tryz.prog Ka AKi 1 0 18 (AB Tryz.f70 0) APs APr v := by
 rintro ⟨a0, a1, a2, a3, ⟨⟩⟩
 kernel_rfl
theorem Aeg : AD (AB Tryz.f70 0) 1 = [] := by kernel_rfl
theorem Aeh : AZ Tryz.prog 0 (.loop (AB Tryz.f70 0)) (AKi.loop 0) := AU It (APq) (AA Aeg trivial)
theorem AaW : ∀ v, Xw v = AP Tryz.prog Ka AKi Tryz.f70 AKh AKg AKf v := by
 rintro ⟨a0, a1, ⟨⟩⟩
 kernel_rfl
theorem Ag9 : AD (AR Tryz.f70) 0 = [(0, AB Tryz.f70 0)] := by kernel_rfl
theorem AUm : AQ Tryz.prog 70 (AF 2 AKh AKg AKf WX) := AI It Tryz.func70 (by kernel_rfl) (by kernel_rfl) rfl (fun v => (APt v).trans (AaW v)) (AA Ag9 ⟨Aeh, trivial⟩)
def YC : Env := Ka.ext 70 true true (AF 2 AKh AKg AKf WX)
theorem Pf : AX Tryz.prog YC := Env.AY It AUm (fun _ => AG rfl rfl) (fun _ => AH rfl rfl)
abbrev VC : Hints := { loop := fun n => match n with | 0 => Aa 0 49 ADQ ADP D4 | _ => fun _ _ _ => none, fp := fun n => match n with | 6 => [[], [], [], [], [], [], [], [], [], [], [], [], [0], [0], [], [], [], [], [], [], [], [], [], [], [], [], [], [], [], [], [0], [0], [], []] | _ => [] }
theorem AFG : ∀ v, D4 v = roundOf Tryz.prog YC VC 1 0 49 (AB Tryz.f127 0) ADQ ADP v := by
 rintro ⟨a0, a1, a2, a3, ⟨⟩⟩
 kernel_rfl
theorem AVr : AD (AB Tryz.f127 0) 1 = [] := by kernel_rfl
theorem AVs : AZ Tryz.prog 0 (.loop (AB Tryz.f127 0)) (VC.loop 0) := AU Pf (AFG) (AA AVr trivial)
theorem AQp : ∀ v, NK v = AP Tryz.prog YC VC Tryz.f127 VB VA UZ v := by
 rintro ⟨a0, a1, ⟨⟩⟩
 kernel_rfl
theorem AbO : AD (AR Tryz.f127) 0 = [(0, AB Tryz.f127 0)] := by kernel_rfl
theorem ALf : AQ Tryz.prog 127 (AF 2 VB VA UZ RZ) := AI Pf Tryz.func127 (by kernel_rfl) (by kernel_rfl) rfl (fun v => (ADR v).trans (AQp v)) (AA AbO ⟨AVs, trivial⟩)
def JZ : Env := YC.ext 127 true true (AF 2 VB VA UZ RZ)
theorem Gm : AX Tryz.prog JZ := Env.AY Pf ALf (fun _ => AG rfl rfl) (fun _ => AH rfl rfl)
abbrev I5 : Hints := { loop := fun n => match n with | 0 => Aa 0 39 AAn AAl Ds | 1 => Aa 0 39 AAm AAk C5 | _ => fun _ _ _ => none }
theorem AEY : ∀ v, C5 v = roundOf Tryz.prog JZ I5 2 0 39 (AB Tryz.f69 1) AAm AAk v := by
 rintro ⟨a0, a1, a2, a3, a4, ⟨⟩⟩
 kernel_rfl
theorem AS2 : AD (AB Tryz.f69 1) 2 = [] := by kernel_rfl
theorem AS4 : AZ Tryz.prog 0 (.loop (AB Tryz.f69 1)) (I5.loop 1) := AU Gm (AEY) (AA AS2 trivial)
theorem AEZ : ∀ v, Ds v = roundOf Tryz.prog JZ I5 1 0 39 (AB Tryz.f69 0) AAn AAl v := by
 rintro ⟨a0, a1, a2, a3, ⟨⟩⟩
 kernel_rfl
theorem AS3 : AD (AB Tryz.f69 0) 1 = [(1, AB Tryz.f69 1)] := by kernel_rfl
theorem AS5 : AZ Tryz.prog 0 (.loop (AB Tryz.f69 0)) (I5.loop 0) := AU Gm (AEZ) (AA AS3 ⟨AS4, trivial⟩)
theorem AN7 : ∀ v, Mr v = AP Tryz.prog JZ I5 Tryz.f69 TE TD TC v := by
 rintro ⟨a0, a1, ⟨⟩⟩
 kernel_rfl
theorem AZH : AD (AR Tryz.f69) 0 = [(0, AB Tryz.f69 0)] := by kernel_rfl
theorem AJT : AQ Tryz.prog 69 (AF 2 TE TD TC Ms) := AI Gm Tryz.func69 (by kernel_rfl) (by kernel_rfl) rfl (fun v => (AAo v).trans (AN7 v)) (AA AZH ⟨AS5, trivial⟩)
def NW : Env := JZ.ext 69 true true (AF 2 TE TD TC Ms)
theorem KT : AX Tryz.prog NW := Env.AY Gm AJT (fun _ => AG rfl rfl) (fun _ => AH rfl rfl)
abbrev AJ4 : Hints := { loop := fun n => match n with | 0 => Aa 0 44 APA AO9 HE | _ => fun _ _ _ => none }
theorem AO8 : ∀ v, HE v = roundOf Tryz.prog NW AJ4 1 0 44 (AB Tryz.f87 0) APA AO9 v := by
 rintro ⟨a0, a1, a2, a3, ⟨⟩⟩
 kernel_rfl
theorem Adv : AD (AB Tryz.f87 0) 1 = [] := by kernel_rfl
theorem Adw : AZ Tryz.prog 0 (.loop (AB Tryz.f87 0)) (AJ4.loop 0) := AU KT (AO8) (AA Adv trivial)
theorem AZl : ∀ v, Xr v = AP Tryz.prog NW AJ4 Tryz.f87 AJ3 AJ2 AJ1 v := by
 rintro ⟨a0, a1, ⟨⟩⟩
 kernel_rfl
theorem Agk : AD (AR Tryz.f87) 0 = [(0, AB Tryz.f87 0)] := by kernel_rfl
theorem ATn : AQ Tryz.prog 87 (AF 2 AJ3 AJ2 AJ1 AGJ) := AI KT Tryz.func87 (by kernel_rfl) (by kernel_rfl) rfl (fun v => (APB v).trans (AZl v)) (AA Agk ⟨Adw, trivial⟩)
def AL4 : Env := NW.ext 87 true true (AF 2 AJ3 AJ2 AJ1 AGJ)
theorem ADt : AX Tryz.prog AL4 := Env.AY KT ATn (fun _ => AG rfl rfl) (fun _ => AH rfl rfl)
abbrev Ae6 : Hints := {  }
theorem AU6 : ∀ v, Q7 v = AP Tryz.prog AL4 Ae6 Tryz.f88 ACj ACi ACh v := by
 rintro ⟨a0, a1, ⟨⟩⟩
 kernel_rfl
theorem Ae5 : AD (AR Tryz.f88) 0 = [] := by kernel_rfl
theorem AP6 : AQ Tryz.prog 88 (AF 2 ACj ACi ACh ACk) := AI ADt Tryz.func88 (by kernel_rfl) (by kernel_rfl) rfl (fun v => (AGu v).trans (AU6 v)) (AA Ae5 trivial)
def R7 : Env := AL4.ext 88 true true (AF 2 ACj ACi ACh ACk)
theorem MZ : AX Tryz.prog R7 := Env.AY ADt AP6 (fun _ => AG rfl rfl) (fun _ => AH rfl rfl)
abbrev AJN : Hints := { loop := fun n => match n with | 0 => Aa 0 54 ANz ANy HA | _ => fun _ _ _ => none, fp := fun n => match n with | 2 => [[], [], [], [], [], [], [], [], [], [], [0], [0], [], [], [], [], [], [], [], [0], [0], [], [], [], [], [], [], [], [0], [0], [], [], [], []] | 4 => [[], [], [], [], [3], [0], [], [5, 6], [], [], [], [9], []] | _ => [] }
theorem ANx : ∀ v, HA v = roundOf Tryz.prog R7 AJN 1 0 54 (AB Tryz.f90 0) ANz ANy v := by
 rintro ⟨a0, a1, a2, a3, a4, a5, ⟨⟩⟩
 kernel_rfl
theorem Ac8 : AD (AB Tryz.f90 0) 1 = [] := by kernel_rfl
theorem Ac9 : AZ Tryz.prog 0 (.loop (AB Tryz.f90 0)) (AJN.loop 0) := AU MZ (ANx) (AA Ac8 trivial)
theorem AZE : ∀ v, Xl v = AP Tryz.prog R7 AJN Tryz.f90 AJM AJL AJK v := by
 rintro ⟨a0, a1, ⟨⟩⟩
 kernel_rfl
theorem AgU : AD (AR Tryz.f90) 0 = [(0, AB Tryz.f90 0)] := by kernel_rfl
theorem ASy : AQ Tryz.prog 90 (AF 2 AJM AJL AJK AN1) := AI MZ Tryz.func90 (by kernel_rfl) (by kernel_rfl) rfl (fun v => (AN0 v).trans (AZE v)) (AA AgU ⟨Ac9, trivial⟩)
def X9 : Env := R7.ext 90 true true (AF 2 AJM AJL AJK AN1)
theorem Pc : AX Tryz.prog X9 := Env.AY MZ ASy (fun _ => AG rfl rfl) (fun _ => AH rfl rfl)
abbrev ALq : Hints := { loop := fun n => match n with | 0 => Aa 0 76 AQx AQw F4 | _ => fun _ _ _ => none, fp := fun n => match n with | 12 => [[6], [6], [], [], [2], [2], [2], [], [], [2], [2], [2], [], [], [4], [4], [], [8], [6], [7]] | 8 => [[0], [0], [], [0], [0], [39], [], [], [43]] | _ => [] }
theorem AQv : ∀ v, F4 v = roundOf Tryz.prog X9 ALq 1 0 76 (AB Tryz.f32 0) AQx AQw v := by
 rintro ⟨a0, a1, a2, a3, a4, a5, ⟨⟩⟩
 kernel_rfl
theorem AfX : AD (AB Tryz.f32 0) 1 = [] := by kernel_rfl
theorem AfY : AZ Tryz.prog 0 (.loop (AB Tryz.f32 0)) (ALq.loop 0) := AU Pc (AQv) (AA AfX trivial)
theorem AbT : ∀ v, X5 v = AP Tryz.prog X9 ALq Tryz.f32 ALp ALo ALn v := by
 rintro ⟨a0, a1, ⟨⟩⟩
 kernel_rfl
theorem Ahc : AD (AR Tryz.f32) 0 = [(0, AB Tryz.f32 0)] := by kernel_rfl
theorem AVw : AQ Tryz.prog 32 (AF 2 ALp ALo ALn AHD) := AI Pc Tryz.func32 (by kernel_rfl) (by kernel_rfl) rfl (fun v => (AQz v).trans (AbT v)) (AA Ahc ⟨AfY, trivial⟩)
def AXi : Env := X9.ext 32 true true (AF 2 ALp ALo ALn AHD)
theorem AWA : AX Tryz.prog AXi := Env.AY Pc AVw (fun _ => AG rfl rfl) (fun _ => AH rfl rfl)
end
end Go.Pev
end
section
namespace Go.Pev
open Go.Proofs
set_option maxRecDepth 100000
noncomputable section
theorem AfN : (Tryz.f71.name == "runtime.NumGoroutine") = false := by kernel_rfl
theorem ALI : AD8 Tryz.prog Tryz.f71 22 44 (.prod (.int .i64) (.prod (.int .i64) (.prod (.int .i64) (.prod .bool .unit)))) where
 body := by kernel_rfl
 nt := by kernel_rfl
 res := by kernel_rfl
 d := ⟨by kernel_rfl, by kernel_rfl, by kernel_rfl, by kernel_rfl, by kernel_rfl, by kernel_rfl, by kernel_rfl, by kernel_rfl⟩
 g := ⟨by kernel_rfl, by kernel_rfl, by kernel_rfl, by kernel_rfl, by kernel_rfl, by kernel_rfl, by kernel_rfl, by kernel_rfl⟩
 o00 := by kernel_rfl
 o10 := by kernel_rfl
 o11 := by kernel_rfl
 o20 := by kernel_rfl
 o30 := by kernel_rfl
 o31 := by kernel_rfl
 o32 := by kernel_rfl
 o33 := by kernel_rfl
 sl := by kernel_rfl
 z := by kernel_rfl
 by1 := by kernel_rfl
def AD5 : Env := AXi.ext 71 true true (Gt 44 (.prod (.int .i64) (.prod (.int .i64) (.prod (.int .i64) (.prod .bool .unit)))))
theorem W6 : AX Tryz.prog AD5 := Env.AY AWA (AfM ALI Tryz.func71 AfN) (fun _ => Kl _ _) (fun _ => (Kl _ _).Ail)
abbrev AZ9 : Hints := { fp := fun n => match n with | 3 => [[0], [0], [0], [], [], [12], [], [], [3], []] | _ => [] }
theorem APT : ∀ v, JA v = AP Tryz.prog AD5 AZ9 Tryz.f41 T1 Tz Tx v := by
 rintro ⟨a0, a1, ⟨⟩⟩
 kernel_rfl
theorem AZ8 : AD (AR Tryz.f41) 0 = [] := by kernel_rfl
theorem AKI : AQ Tryz.prog 41 (AF 2 T1 Tz Tx J4) := AI W6 Tryz.func41 (by kernel_rfl) (by kernel_rfl) rfl (fun v => (On v).trans (APT v)) (AA AZ8 trivial)
def Na : Env := AD5.ext 41 true true (AF 2 T1 Tz Tx J4)
theorem KX : AX Tryz.prog Na := Env.AY W6 AKI (fun _ => AG rfl rfl) (fun _ => AH rfl rfl)
abbrev Zz : Hints := { loop := fun n => match n with | 0 => Aa 0 32 AFt AFs Er | _ => fun _ _ _ => none }
theorem AIy : ∀ v, Er v = roundOf Tryz.prog Na Zz 1 0 32 (AB Tryz.f77 0) AFt AFs v := by
 rintro ⟨a0, a1, a2, a3, a4, ⟨⟩⟩
 kernel_rfl
theorem AYq : AD (AB Tryz.f77 0) 1 = [] := by kernel_rfl
theorem AYr : AZ Tryz.prog 0 (.loop (AB Tryz.f77 0)) (Zz.loop 0) := AU KX (AIy) (AA AYq trivial)
theorem ASG : ∀ v, QI v = AP Tryz.prog Na Zz Tryz.f77 Zy Zx Zw v := by
 rintro ⟨a0, a1, ⟨⟩⟩
 kernel_rfl
theorem Aco : AD (AR Tryz.f77) 0 = [(0, AB Tryz.f77 0)] := by kernel_rfl
theorem ANb : AQ Tryz.prog 77 (AF 2 Zy Zx Zw Z0) := AI KX Tryz.func77 (by kernel_rfl) (by kernel_rfl) rfl (fun v => (AFu v).trans (ASG v)) (AA Aco ⟨AYr, trivial⟩)
def ADl : Env := Na.ext 77 true true (AF 2 Zy Zx Zw Z0)
theorem Ww : AX Tryz.prog ADl := Env.AY KX ANb (fun _ => AG rfl rfl) (fun _ => AH rfl rfl)
abbrev AhK : Hints := { fp := fun n => match n with | 4 => [[0], [], [], [0], [], [], [], [], []] | _ => [] }
theorem Aaw : ∀ v, X0 v = AP Tryz.prog ADl AhK Tryz.f82 AK3 AK2 AK1 v := by
 rintro ⟨a0, a1, a2, ⟨⟩⟩
 kernel_rfl
theorem AhJ : AD (AR Tryz.f82) 0 = [] := by kernel_rfl
theorem AU9 : AQ Tryz.prog 82 (AF 3 AK3 AK2 AK1 AQC) := AI Ww Tryz.func82 (by kernel_rfl) (by kernel_rfl) rfl (fun v => (AQB v).trans (Aaw v)) (AA AhJ trivial)
def AMB : Env := ADl.ext 82 true true (AF 3 AK3 AK2 AK1 AQC)
theorem AD4 : AX Tryz.prog AMB := Env.AY Ww AU9 (fun _ => AG rfl rfl) (fun _ => AH rfl rfl)
abbrev AhG : Hints := { fp := fun n => match n with | 4 => [[0], [0], [0], [], [], [], [], [], [], [], [], []] | _ => [] }
theorem Aao : ∀ v, Xz v = AP Tryz.prog AMB AhG Tryz.f83 AKu AKt AKs v := by
 rintro ⟨a0, a1, ⟨⟩⟩
 kernel_rfl
theorem AhF : AD (AR Tryz.f83) 0 = [] := by kernel_rfl
theorem AUz : AQ Tryz.prog 83 (AF 2 AKu AKt AKs AP3) := AI AD4 Tryz.func83 (by kernel_rfl) (by kernel_rfl) rfl (fun v => (AP2 v).trans (Aao v)) (AA AhF trivial)
def AMA : Env := AMB.ext 83 true true (AF 2 AKu AKt AKs AP3)
theorem AD1 : AX Tryz.prog AMA := Env.AY AD4 AUz (fun _ => AG rfl rfl) (fun _ => AH rfl rfl)
abbrev AYi : Hints := {  }
theorem ANL : ∀ v, Su v = AP Tryz.prog AMA AYi Tryz.f73 Ss Sr Sq v := by
 rintro ⟨a0, a1, ⟨⟩⟩
 kernel_rfl
theorem AYh : AD (AR Tryz.f73) 0 = [] := by kernel_rfl
theorem AIi : AQ Tryz.prog 73 (AF 2 Ss Sr Sq FY) := AI AD1 Tryz.func73 (by kernel_rfl) (by kernel_rfl) rfl (fun v => (AR6 v).trans (ANL v)) (AA AYh trivial)
def JT : Env := AMA.ext 73 true true (AF 2 Ss Sr Sq FY)
theorem Gj : AX Tryz.prog JT := Env.AY AD1 AIi (fun _ => AG rfl rfl) (fun _ => AH rfl rfl)
abbrev ACC : Hints := { loop := fun n => match n with | 0 => Aa 1 53 AW8 AW6 AW4 | 1 => Aa 1 53 AW7 AW5 AW3 | _ => fun _ _ _ => none, fp := fun n => match n with | 4 => [[], [], [], [], [], [], [], [0], [0], [], [], [], [0], [0], [], [], []] | 6 => [[], [], [], [], [], [], [], [], [0], [0], [], [], [0], [0], [0], [1], [0], [1]] | _ => [] }
theorem AUS : ∀ v, AW3 v = roundOf Tryz.prog JT ACC 2 1 53 (AB Tryz.f148 1) AW7 AW5 v := by
 rintro ⟨a0, a1, a2, a3, a4, ⟨⟩⟩
 kernel_rfl
theorem Agu : AD (AB Tryz.f148 1) 2 = [] := by kernel_rfl
theorem Agw : AZ Tryz.prog 1 (.loop (AB Tryz.f148 1)) (ACC.loop 1) := AU Gj (AUS) (AA Agu trivial)
theorem AUT : ∀ v, AW4 v = roundOf Tryz.prog JT ACC 1 1 53 (AB Tryz.f148 0) AW8 AW6 v := by
 rintro ⟨a0, a1, a2, a3, ⟨⟩⟩
 kernel_rfl
theorem Agv : AD (AB Tryz.f148 0) 1 = [(1, AB Tryz.f148 1)] := by kernel_rfl
theorem Agx : AZ Tryz.prog 1 (.loop (AB Tryz.f148 0)) (ACC.loop 0) := AU Gj (AUT) (AA Agv ⟨Agw, trivial⟩)
theorem AeH : ∀ v, AeI v = AP Tryz.prog JT ACC Tryz.f148 AUW AUV AUU v := by
 rintro ⟨a0, a1, a2, ⟨⟩⟩
 kernel_rfl
theorem AiE : AD (AR Tryz.f148) 0 = [(0, AB Tryz.f148 0)] := by kernel_rfl
theorem AaJ : AQ Tryz.prog 148 (AF 4 AUW AUV AUU AeJ) := AI Gj Tryz.func148 (by kernel_rfl) (by kernel_rfl) rfl (fun v => (Agy v).trans (AeH v)) (AA AiE ⟨Agx, trivial⟩)
def AL6 : Env := JT.DD 148 3 73 (AF 4 AUW AUV AUU AeJ)
theorem VU : AX Tryz.prog AL6 := Env.BD Gj AaJ (AH rfl rfl)
abbrev AIA : Hints := { loop := fun n => match n with | 0 => Aa 1 38 AMt AMs Yq | _ => fun _ _ _ => none, fp := fun n => match n with | 3 => [[], [], [], [], [], [], [], [], [], [], [], [], [0], [0], [], [], [], [], [0], [0], [0], [1], [0], [1]] | _ => [] }
theorem AMr : ∀ v, Yq v = roundOf Tryz.prog AL6 AIA 1 1 38 (AB Tryz.f194 0) AMt AMs v := by
 rintro ⟨a0, a1, a2, a3, a4, ⟨⟩⟩
 kernel_rfl
theorem AcB : AD (AB Tryz.f194 0) 1 = [] := by kernel_rfl
theorem AcC : AZ Tryz.prog 1 (.loop (AB Tryz.f194 0)) (AIA.loop 0) := AU VU (AMr) (AA AcB trivial)
theorem AYK : ∀ v, AIB v = AP Tryz.prog AL6 AIA Tryz.f194 AH9 AH8 AH7 v := by
 rintro ⟨a0, a1, a2, a3, ⟨⟩⟩
 kernel_rfl
theorem Af6 : AD (AR Tryz.f194) 0 = [(0, AB Tryz.f194 0)] := by kernel_rfl
theorem ARc : AQ Tryz.prog 194 (AF 5 AH9 AH8 AH7 AFb) := AI VU Tryz.func194 (by kernel_rfl) (by kernel_rfl) rfl (fun v => (AcD v).trans (AYK v)) (AA Af6 ⟨AcC, trivial⟩)
def X7 : Env := AL6.DD 194 4 73 (AF 5 AH9 AH8 AH7 AFb)
theorem PY : AX Tryz.prog X7 := Env.BD VU ARc (AH rfl rfl)
abbrev ASX : Hints := { loop := fun n => match n with | 0 => Aa 1 58 AWb AWa AI6 | _ => fun _ _ _ => none }
theorem AST : ∀ v, AI6 v = roundOf Tryz.prog X7 ASX 1 1 58 (AB Tryz.f175 0) AWb AWa v := by
 rintro ⟨a0, a1, a2, a3, ⟨⟩⟩
 kernel_rfl
theorem AgK : AD (AB Tryz.f175 0) 1 = [] := by kernel_rfl
theorem AgL : AZ Tryz.prog 1 (.loop (AB Tryz.f175 0)) (ASX.loop 0) := AU PY (AST) (AA AgK trivial)
theorem Acy : ∀ v, ASY v = AP Tryz.prog X7 ASX Tryz.f175 ASW ASV ASU v := by
 rintro ⟨a0, a1, a2, a3, ⟨⟩⟩
 kernel_rfl
theorem Ahv : AD (AR Tryz.f175) 0 = [(0, AB Tryz.f175 0)] := by kernel_rfl
theorem AY0 : AQ Tryz.prog 175 (AF 5 ASW ASV ASU Acz) := AI PY Tryz.func175 (by kernel_rfl) (by kernel_rfl) rfl (fun v => (AgM v).trans (Acy v)) (AA Ahv ⟨AgL, trivial⟩)
def AV2 : Env := X7.DD 175 4 73 (AF 5 ASW ASV ASU Acz)
theorem AHH : AX Tryz.prog AV2 := Env.BD PY AY0 (AH rfl rfl)
abbrev G8 (self : (List (Int × Int × Int × Bool × Unit) × Int × Int × Int × Unit) → Option ((List (Int × Int × Int × Bool × Unit) × Unit))) : Hints := { loop := fun n => match n with | 0 => Aa 1 220 AWS AWN (AH6 self) | 1 => Aa 1 220 AWR AWM (AH5 self) | 2 => Aa 1 220 AWQ AWL (AH4 self) | 3 => Aa 1 220 AWP AWK (AH3 self) | 4 => Aa 1 220 AWO AWJ (Xd self) | _ => fun _ _ _ => none, fp := fun n => match n with | 5 => [[], [], [], [0], [0], [], [], [0], [0], [], []] | 11 => [[], [], [], [], [], [], [], [], [0], [0], [], [], [0], [0], [0], [1], [0], [1]] | 17 => [[], [], [], [0], [0], [], [], [0], [0], [], [], []] | 23 => [[], [], [], [], [], [], [], [], [0], [0], [], [], [0], [0], [0], [1], [0], [1]] | 35 => [[], [], [], [], [], [0], [0], [], [], [0], [0], [], [], []] | _ => [] }
abbrev F9 (self : (List (Int × Int × Int × Bool × Unit) × Int × Int × Int × Unit) → Option ((List (Int × Int × Int × Bool × Unit) × Unit))) : Env := AV2.ext 149 false true (AF 5 Yp Yo Yn self)
theorem ARW (self : (List (Int × Int × Int × Bool × Unit) × Int × Int × Int × Unit) → Option ((List (Int × Int × Int × Bool × Unit) × Unit))) : ∀ v, Xd self v = roundOf Tryz.prog (F9 self) (G8 self) 5 1 220 (AB Tryz.f149 4) AWO AWJ v := by
 rintro ⟨a0, a1, a2, a3, a4, a5, a6, a7, a8, ⟨⟩⟩
 kernel_rfl
theorem Afv : AD (AB Tryz.f149 4) 5 = [] := by kernel_rfl
theorem Af0 (self : (List (Int × Int × Int × Bool × Unit) × Int × Int × Int × Unit) → Option ((List (Int × Int × Int × Bool × Unit) × Unit))) (hE : AX Tryz.prog (F9 self)) : AZ Tryz.prog 1 (.loop (AB Tryz.f149 4)) ((G8 self).loop 4) := AU hE (ARW self) (AA Afv trivial)
theorem ARX (self : (List (Int × Int × Int × Bool × Unit) × Int × Int × Int × Unit) → Option ((List (Int × Int × Int × Bool × Unit) × Unit))) : ∀ v, AH3 self v = roundOf Tryz.prog (F9 self) (G8 self) 4 1 220 (AB Tryz.f149 3) AWP AWK v := by
 rintro ⟨a0, a1, a2, ⟨⟩⟩
 kernel_rfl
theorem Afw : AD (AB Tryz.f149 3) 4 = [] := by kernel_rfl
theorem Af1 (self : (List (Int × Int × Int × Bool × Unit) × Int × Int × Int × Unit) → Option ((List (Int × Int × Int × Bool × Unit) × Unit))) (hE : AX Tryz.prog (F9 self)) : AZ Tryz.prog 1 (.loop (AB Tryz.f149 3)) ((G8 self).loop 3) := AU hE (ARX self) (AA Afw trivial)
theorem ARY (self : (List (Int × Int × Int × Bool × Unit) × Int × Int × Int × Unit) → Option ((List (Int × Int × Int × Bool × Unit) × Unit))) : ∀ v, AH4 self v = roundOf Tryz.prog (F9 self) (G8 self) 3 1 220 (AB Tryz.f149 2) AWQ AWL v := by
 rintro ⟨a0, a1, a2, a3, ⟨⟩⟩
 kernel_rfl
theorem Afx : AD (AB Tryz.f149 2) 3 = [] := by kernel_rfl
theorem Af2 (self : (List (Int × Int × Int × Bool × Unit) × Int × Int × Int × Unit) → Option ((List (Int × Int × Int × Bool × Unit) × Unit))) (hE : AX Tryz.prog (F9 self)) : AZ Tryz.prog 1 (.loop (AB Tryz.f149 2)) ((G8 self).loop 2) := AU hE (ARY self) (AA Afx trivial)
theorem ARZ (self : (List (Int × Int × Int × Bool × Unit) × Int × Int × Int × Unit) → Option ((List (Int × Int × Int × Bool × Unit) × Unit))) : ∀ v, AH5 self v = roundOf Tryz.prog (F9 self) (G8 self) 2 1 220 (AB Tryz.f149 1) AWR AWM v := by
 rintro ⟨a0, a1, a2, ⟨⟩⟩
 kernel_rfl
theorem Afy : AD (AB Tryz.f149 1) 2 = [] := by kernel_rfl
theorem Af3 (self : (List (Int × Int × Int × Bool × Unit) × Int × Int × Int × Unit) → Option ((List (Int × Int × Int × Bool × Unit) × Unit))) (hE : AX Tryz.prog (F9 self)) : AZ Tryz.prog 1 (.loop (AB Tryz.f149 1)) ((G8 self).loop 1) := AU hE (ARZ self) (AA Afy trivial)
theorem ARa (self : (List (Int × Int × Int × Bool × Unit) × Int × Int × Int × Unit) → Option ((List (Int × Int × Int × Bool × Unit) × Unit))) : ∀ v, AH6 self v = roundOf Tryz.prog (F9 self) (G8 self) 1 1 220 (AB Tryz.f149 0) AWS AWN v := by
 rintro ⟨a0, a1, a2, a3, ⟨⟩⟩
 kernel_rfl
theorem Afz : AD (AB Tryz.f149 0) 1 = [] := by kernel_rfl
theorem Af4 (self : (List (Int × Int × Int × Bool × Unit) × Int × Int × Int × Unit) → Option ((List (Int × Int × Int × Bool × Unit) × Unit))) (hE : AX Tryz.prog (F9 self)) : AZ Tryz.prog 1 (.loop (AB Tryz.f149 0)) ((G8 self).loop 0) := AU hE (ARa self) (AA Afz trivial)
theorem Ab8 (self : (List (Int × Int × Int × Bool × Unit) × Int × Int × Int × Unit) → Option ((List (Int × Int × Int × Bool × Unit) × Unit))) : ∀ v, Ab9 self v = AP Tryz.prog (F9 self) (G8 self) Tryz.f149 Yp Yo Yn v := by
 rintro ⟨a0, a1, a2, a3, ⟨⟩⟩
 kernel_rfl
theorem Ahs : AD (AR Tryz.f149) 0 = [(0, AB Tryz.f149 0), (1, AB Tryz.f149 1), (2, AB Tryz.f149 2), (3, AB Tryz.f149 3), (4, AB Tryz.f149 4)] := by kernel_rfl
theorem ARb : ∀ n, AQ Tryz.prog 149 (AF 5 Yp Yo Yn (OC n)) := by
 intro n
 induction n with
 | zero => exact WS fun _ => rfl
 | succ n ih =>
  have hE : AX Tryz.prog (F9 (OC n)) := Env.AY AHH ih ((by simp)) (fun _ => AH rfl rfl)
  let self := OC n
  exact AI hE Tryz.func149 (by kernel_rfl) (by kernel_rfl) rfl (Ab8 self) (AA Ahs ⟨(Af4 self hE), (Af3 self hE), (Af2 self hE), (Af1 self hE), (Af0 self hE), trivial⟩)
theorem AYI : AQ Tryz.prog 149 (AF 5 Yp Yo Yn AYJ) := by
 have e : AYJ = OC 100 := funext Af5
 rw [e]
 exact ARb _
def VM : Env := AV2.DD 149 4 73 (AF 5 Yp Yo Yn AYJ)
theorem JR : AX Tryz.prog VM := Env.BD AHH AYI (AH rfl rfl)
abbrev Jg : Hints := { loop := fun n => match n with | 0 => Aa 1 63 AM2 AMz Yv | 1 => Aa 1 63 AM1 AMy Yu | 2 => Aa 1 63 AM0 AMx Yt | _ => fun _ _ _ => none }
theorem AMu : ∀ v, Yt v = roundOf Tryz.prog VM Jg 3 1 63 (AB Tryz.f117 2) AM0 AMx v := by
 rintro ⟨a0, a1, a2, a3, a4, ⟨⟩⟩
 kernel_rfl
theorem AcE : AD (AB Tryz.f117 2) 3 = [] := by kernel_rfl
theorem AcH : AZ Tryz.prog 1 (.loop (AB Tryz.f117 2)) (Jg.loop 2) := AU JR (AMu) (AA AcE trivial)
theorem AMv : ∀ v, Yu v = roundOf Tryz.prog VM Jg 2 1 63 (AB Tryz.f117 1) AM1 AMy v := by
 rintro ⟨a0, a1, a2, ⟨⟩⟩
 kernel_rfl
theorem AcF : AD (AB Tryz.f117 1) 2 = [(2, AB Tryz.f117 2)] := by kernel_rfl
theorem AcI : AZ Tryz.prog 1 (.loop (AB Tryz.f117 1)) (Jg.loop 1) := AU JR (AMv) (AA AcF ⟨AcH, trivial⟩)
theorem AMw : ∀ v, Yv v = roundOf Tryz.prog VM Jg 1 1 63 (AB Tryz.f117 0) AM2 AMz v := by
 rintro ⟨a0, a1, a2, a3, a4, ⟨⟩⟩
 kernel_rfl
theorem AcG : AD (AB Tryz.f117 0) 1 = [] := by kernel_rfl
theorem AcJ : AZ Tryz.prog 1 (.loop (AB Tryz.f117 0)) (Jg.loop 0) := AU JR (AMw) (AA AcG trivial)
theorem AYN : ∀ v, AIJ v = AP Tryz.prog VM Jg Tryz.f117 AII AIH AIF v := by
 rintro ⟨a0, a1, ⟨⟩⟩
 kernel_rfl
theorem Af7 : AD (AR Tryz.f117) 0 = [(0, AB Tryz.f117 0), (1, AB Tryz.f117 1)] := by kernel_rfl
theorem ARk : AQ Tryz.prog 117 (AF 3 AII AIH AIF AWV) := AI JR Tryz.func117 (by kernel_rfl) (by kernel_rfl) rfl (fun v => (AcK v).trans (AYN v)) (AA Af7 ⟨AcJ, AcI, trivial⟩)
def AL0 : Env := VM.DD 117 2 73 (AF 3 AII AIH AIF AWV)
theorem ADf : AX Tryz.prog AL0 := Env.BD JR ARk (AH rfl rfl)
abbrev AcO : Hints := {  }
theorem ARu : ∀ v, ZK v = AP Tryz.prog AL0 AcO Tryz.f72 ZJ ZI ZH v := by
 rintro ⟨a0, ⟨⟩⟩
 kernel_rfl
theorem AcN : AD (AR Tryz.f72) 0 = [] := by kernel_rfl
theorem AM7 : AQ Tryz.prog 72 (AF 2 ZJ ZI ZH AIP) := AI ADf Tryz.func72 (by kernel_rfl) (by kernel_rfl) rfl (fun v => (AYS v).trans (ARu v)) (AA AcN trivial)
def Rk : Env := AL0.DD 72 1 73 (AF 2 ZJ ZI ZH AIP)
theorem MH : AX Tryz.prog Rk := Env.BD ADf AM7 (AH rfl rfl)
end
end Go.Pev
end
section
namespace Go.Pev
open Go.Proofs
set_option maxRecDepth 100000
noncomputable section
abbrev Yz : Hints := { loop := fun n => match n with | 0 => Aa 0 36 AFe AFd Sc | _ => fun _ _ _ => none }
theorem AIK : ∀ v, Sc v = roundOf Tryz.prog Rk Yz 1 0 36 (AB Tryz.f75 0) AFe AFd v := by
 rintro ⟨a0, a1, a2, a3, a4, ⟨⟩⟩
 kernel_rfl
theorem AYO : AD (AB Tryz.f75 0) 1 = [] := by kernel_rfl
theorem AYP : AZ Tryz.prog 0 (.loop (AB Tryz.f75 0)) (Yz.loop 0) := AU MH (AIK) (AA AYO trivial)
theorem ARl : ∀ v, Y0 v = AP Tryz.prog Rk Yz Tryz.f75 Yy Yx Yw v := by
 rintro ⟨a0, a1, ⟨⟩⟩
 kernel_rfl
theorem AcM : AD (AR Tryz.f75) 0 = [(0, AB Tryz.f75 0)] := by kernel_rfl
theorem AM3 : AQ Tryz.prog 75 (AF 2 Yy Yx Yw AIL) := AI MH Tryz.func75 (by kernel_rfl) (by kernel_rfl) rfl (fun v => (AYQ v).trans (ARl v)) (AA AcM ⟨AYP, trivial⟩)
def ADg : Env := Rk.ext 75 true true (AF 2 Yy Yx Yw AIL)
theorem Wr : AX Tryz.prog ADg := Env.AY MH AM3 (fun _ => AG rfl rfl) (fun _ => AH rfl rfl)
abbrev AcY : Hints := { fp := fun n => match n with | 4 => [[0], [0], [0], [], [12], [], [], [], [], []] | _ => [] }
theorem AR1 : ∀ v, Ky v = AP Tryz.prog ADg AcY Tryz.f20 ZX ZW ZV v := by
 rintro ⟨a0, ⟨⟩⟩
 kernel_rfl
theorem AcX : AD (AR Tryz.f20) 0 = [] := by kernel_rfl
theorem ANC : AQ Tryz.prog 20 (AF 1 ZX ZW ZV Kz) := AI Wr Tryz.func20 (by kernel_rfl) (by kernel_rfl) rfl (fun v => (Si v).trans (AR1 v)) (AA AcX trivial)
def Rm : Env := ADg.ext 20 true true (AF 1 ZX ZW ZV Kz)
theorem MJ : AX Tryz.prog Rm := Env.AY Wr ANC (fun _ => AG rfl rfl) (fun _ => AH rfl rfl)
abbrev K9 : Hints := { loop := fun n => match n with | 0 => Aa 0 27 QC QB CO | _ => fun _ _ _ => none }
theorem XE : ∀ v, CO v = roundOf Tryz.prog Rm K9 1 0 27 (AB Tryz.f79 0) QC QB v := by
 rintro ⟨a0, a1, a2, a3, ⟨⟩⟩
 kernel_rfl
theorem AIf : AD (AB Tryz.f79 0) 1 = [] := by kernel_rfl
theorem AIg : AZ Tryz.prog 0 (.loop (AB Tryz.f79 0)) (K9.loop 0) := AU MJ (XE) (AA AIf trivial)
theorem AEN : ∀ v, Hq v = AP Tryz.prog Rm K9 Tryz.f79 K8 K7 K6 v := by
 rintro ⟨a0, ⟨⟩⟩
 kernel_rfl
theorem ANJ : AD (AR Tryz.f79) 0 = [(0, AB Tryz.f79 0)] := by kernel_rfl
theorem Za : AQ Tryz.prog 79 (AF 1 K8 K7 K6 Gp) := AI MJ Tryz.func79 (by kernel_rfl) (by kernel_rfl) rfl (fun v => (QD v).trans (AEN v)) (AA ANJ ⟨AIg, trivial⟩)
def MN : Env := Rm.ext 79 true true (AF 1 K8 K7 K6 Gp)
theorem MM : AX Tryz.prog MN := Env.AY MJ Za (fun _ => AG rfl rfl) (fun _ => AH rfl rfl)
theorem AgD : Tryz.f81.body.isSome = true := by kernel_rfl
theorem AgC : (Tryz.f81.name == "runtime.NumGoroutine") = false := by kernel_rfl
theorem AgB : loops (AR Tryz.f81) = 0 := by kernel_rfl
def NT : Env := MN.ext 81 false false (C8 Tryz.prog MN { fp := fun n => match n with | 1 => [[0], [10], [10], [], [], [10], [10], [10], [10], [], [], [], [], [], []] | _ => [] } Tryz.f81)
theorem KO : AX Tryz.prog NT := Env.AY MM (DA MM Tryz.func81 AgD AgC AgB) (by simp) (by simp)
abbrev Ii : Hints := { loop := fun n => match n with | 0 => Aa 1 19 Ld Lc Bt | _ => fun _ _ _ => none }
theorem Qu : ∀ v, Bt v = roundOf Tryz.prog NT Ii 1 1 19 (AB Tryz.f124 0) Ld Lc v := by
 rintro ⟨a0, a1, a2, a3, ⟨⟩⟩
 kernel_rfl
theorem ACO : AD (AB Tryz.f124 0) 1 = [] := by kernel_rfl
theorem ACP : AZ Tryz.prog 1 (.loop (AB Tryz.f124 0)) (Ii.loop 0) := AU KO (Qu) (AA ACO trivial)
theorem XK : ∀ v, Fe v = AP Tryz.prog NT Ii Tryz.f124 Ih Ig Ie v := by
 rintro ⟨a0, a1, ⟨⟩⟩
 kernel_rfl
theorem AEz : AD (AR Tryz.f124) 0 = [(0, AB Tryz.f124 0)] := by kernel_rfl
theorem T3 : AQ Tryz.prog 124 (AF 2 Ih Ig Ie H0) := AI KO Tryz.func124 (by kernel_rfl) (by kernel_rfl) rfl (fun v => (Le v).trans (XK v)) (AA AEz ⟨ACP, trivial⟩)
def Is : Env := NT.DD 124 1 81 (AF 2 Ih Ig Ie H0)
theorem JX : AX Tryz.prog Is := Env.BD KO T3 (AH rfl rfl)
abbrev AC6 : Hints := {  }
theorem UO : ∀ v, Ec v = AP Tryz.prog Is AC6 Tryz.f80 HW HV HU v := by
 rintro ⟨a0, a1, ⟨⟩⟩
 kernel_rfl
theorem AC5 : AD (AR Tryz.f80) 0 = [] := by kernel_rfl
theorem RK : AQ Tryz.prog 80 (AF 2 HW HV HU Gd) := AI JX Tryz.func80 (by kernel_rfl) (by kernel_rfl) rfl (fun v => (Kk v).trans (UO v)) (AA AC5 trivial)
def Hl : Env := Is.DD 80 1 81 (AF 2 HW HV HU Gd)
theorem IT : AX Tryz.prog Hl := Env.BD JX RK (AH rfl rfl)
abbrev AYd : Hints := {  }
theorem ANG : ∀ v, Mj v = AP Tryz.prog Hl AYd Tryz.f22 So Sn Sm v := by
 rintro ⟨a0, ⟨⟩⟩
 kernel_rfl
theorem AYc : AD (AR Tryz.f22) 0 = [] := by kernel_rfl
theorem AIZ : AQ Tryz.prog 22 (AF 1 So Sn Sm Mk) := AI IT Tryz.func22 (by kernel_rfl) (by kernel_rfl) rfl (fun v => (ZY v).trans (ANG v)) (AA AYc trivial)
def JS : Env := Hl.ext 22 true true (AF 1 So Sn Sm Mk)
theorem Gi : AX Tryz.prog JS := Env.AY IT AIZ (fun _ => AG rfl rfl) (fun _ => AH rfl rfl)
abbrev Fk : Hints := { loop := fun n => match n with | 0 => Aa 0 42 P9 P7 CN | 1 => Aa 0 42 P8 P6 Bx | _ => fun _ _ _ => none }
theorem XC : ∀ v, Bx v = roundOf Tryz.prog JS Fk 2 0 42 (AB Tryz.f24 1) P8 P6 v := by
 rintro ⟨a0, a1, a2, a3, a4, a5, a6, a7, a8, a9, ⟨⟩⟩
 kernel_rfl
theorem AIb : AD (AB Tryz.f24 1) 2 = [] := by kernel_rfl
theorem AId : AZ Tryz.prog 0 (.loop (AB Tryz.f24 1)) (Fk.loop 1) := AU Gi (XC) (AA AIb trivial)
theorem XD : ∀ v, CN v = roundOf Tryz.prog JS Fk 1 0 42 (AB Tryz.f24 0) P9 P7 v := by
 rintro ⟨a0, a1, a2, a3, a4, ⟨⟩⟩
 kernel_rfl
theorem AIc : AD (AB Tryz.f24 0) 1 = [(1, AB Tryz.f24 1)] := by kernel_rfl
theorem AIe : AZ Tryz.prog 0 (.loop (AB Tryz.f24 0)) (Fk.loop 0) := AU Gi (XD) (AA AIc ⟨AId, trivial⟩)
theorem AEM : ∀ v, Hp v = AP Tryz.prog JS Fk Tryz.f24 K5 K4 K0 v := by
 rintro ⟨a0, ⟨⟩⟩
 kernel_rfl
theorem ANI : AD (AR Tryz.f24) 0 = [(0, AB Tryz.f24 0)] := by kernel_rfl
theorem ZZ : AQ Tryz.prog 24 (AF 1 K5 K4 K0 Ep) := AI Gi Tryz.func24 (by kernel_rfl) (by kernel_rfl) rfl (fun v => (QA v).trans (AEM v)) (AA ANI ⟨AIe, trivial⟩)
def ML : Env := JS.ext 24 true true (AF 1 K5 K4 K0 Ep)
theorem MK : AX Tryz.prog ML := Env.AY Gi ZZ (fun _ => AG rfl rfl) (fun _ => AH rfl rfl)
abbrev AYb : Hints := {  }
theorem AND : ∀ v, Iy v = AP Tryz.prog ML AYb Tryz.f26 Sl Sk Sj v := by
 rintro ⟨a0, ⟨⟩⟩
 kernel_rfl
theorem AYa : AD (AR Tryz.f26) 0 = [] := by kernel_rfl
theorem AIY : AQ Tryz.prog 26 (AF 1 Sl Sk Sj GV) := AI MK Tryz.func26 (by kernel_rfl) (by kernel_rfl) rfl (fun v => (OM v).trans (AND v)) (AA AYa trivial)
def VO : Env := ML.ext 26 true true (AF 1 Sl Sk Sj GV)
theorem Rn : AX Tryz.prog VO := Env.AY MK AIY (fun _ => AG rfl rfl) (fun _ => AH rfl rfl)
theorem Acb : Tryz.f85.body.isSome = true := by kernel_rfl
theorem Aca : (Tryz.f85.name == "runtime.NumGoroutine") = false := by kernel_rfl
theorem AcZ : loops (AR Tryz.f85) = 0 := by kernel_rfl
def KP : Env := VO.ext 85 false false (C8 Tryz.prog VO {} Tryz.f85)
theorem Iq : AX Tryz.prog KP := Env.AY Rn (DA Rn Tryz.func85 Acb Aca AcZ) (by simp) (by simp)
abbrev ZT : Hints := { loop := fun n => match n with | 0 => Aa 0 26 AFi AFh Sh | _ => fun _ _ _ => none }
theorem AIW : ∀ v, Sh v = roundOf Tryz.prog KP ZT 1 0 26 (AB Tryz.f84 0) AFi AFh v := by
 rintro ⟨a0, a1, a2, a3, ⟨⟩⟩
 kernel_rfl
theorem AYX : AD (AB Tryz.f84 0) 1 = [] := by kernel_rfl
theorem AYY : AZ Tryz.prog 0 (.loop (AB Tryz.f84 0)) (ZT.loop 0) := AU Iq (AIW) (AA AYX trivial)
theorem ARz : ∀ v, ZU v = AP Tryz.prog KP ZT Tryz.f84 ZS ZR ZQ v := by
 rintro ⟨a0, ⟨⟩⟩
 kernel_rfl
theorem AcW : AD (AR Tryz.f84) 0 = [(0, AB Tryz.f84 0)] := by kernel_rfl
theorem ANB : AQ Tryz.prog 84 (AF 2 ZS ZR ZQ AIX) := AI Iq Tryz.func84 (by kernel_rfl) (by kernel_rfl) rfl (fun v => (AYZ v).trans (ARz v)) (AA AcW ⟨AYY, trivial⟩)
def ADi : Env := KP.DD 84 1 85 (AF 2 ZS ZR ZQ AIX)
theorem Wt : AX Tryz.prog ADi := Env.BD Iq ANB (AH rfl rfl)
abbrev AR4 : Hints := {  }
theorem AIa : ∀ v, OQ v = AP Tryz.prog ADi AR4 Tryz.f28 OP OO ON v := by
 rintro ⟨a0, ⟨⟩⟩
 kernel_rfl
theorem AR3 : AD (AR Tryz.f28) 0 = [] := by kernel_rfl
theorem AEJ : AQ Tryz.prog 28 (AF 1 OP OO ON P5) := AI Wt Tryz.func28 (by kernel_rfl) (by kernel_rfl) rfl (fun v => (ANH v).trans (AIa v)) (AA AR3 trivial)
def PZ : Env := ADi.ext 28 true true (AF 1 OP OO ON P5)
theorem N0 : AX Tryz.prog PZ := Env.AY Wt AEJ (fun _ => AG rfl rfl) (fun _ => AH rfl rfl)
end
end Go.Pev
end
section
namespace Go.Pev
open Go.Proofs
set_option maxRecDepth 100000
noncomputable section
theorem AcU : Tryz.f86.body.isSome = true := by kernel_rfl
theorem AcT : (Tryz.f86.name == "runtime.NumGoroutine") = false := by kernel_rfl
theorem AcS : loops (AR Tryz.f86) = 0 := by kernel_rfl
def KN : Env := PZ.ext 86 false false (C8 Tryz.prog PZ {} Tryz.f86)
theorem Ip : AX Tryz.prog KN := Env.AY N0 (DA N0 Tryz.func86 AcU AcT AcS) (by simp) (by simp)
abbrev ZO : Hints := { loop := fun n => match n with | 0 => Aa 0 26 AFg AFf Sg | _ => fun _ _ _ => none }
theorem AIU : ∀ v, Sg v = roundOf Tryz.prog KN ZO 1 0 26 (AB Tryz.f84 0) AFg AFf v := by
 rintro ⟨a0, a1, a2, a3, ⟨⟩⟩
 kernel_rfl
theorem AYU : AD (AB Tryz.f84 0) 1 = [] := by kernel_rfl
theorem AYV : AZ Tryz.prog 0 (.loop (AB Tryz.f84 0)) (ZO.loop 0) := AU Ip (AIU) (AA AYU trivial)
theorem ARy : ∀ v, ZP v = AP Tryz.prog KN ZO Tryz.f84 ZN ZM ZL v := by
 rintro ⟨a0, ⟨⟩⟩
 kernel_rfl
theorem AcV : AD (AR Tryz.f84) 0 = [(0, AB Tryz.f84 0)] := by kernel_rfl
theorem ANA : AQ Tryz.prog 84 (AF 2 ZN ZM ZL AIV) := AI Ip Tryz.func84 (by kernel_rfl) (by kernel_rfl) rfl (fun v => (AYW v).trans (ARy v)) (AA AcV ⟨AYV, trivial⟩)
def ADh : Env := KN.DD 84 1 86 (AF 2 ZN ZM ZL AIV)
theorem Ws : AX Tryz.prog ADh := Env.BD Ip ANA (AH rfl rfl)
abbrev ARx : Hints := {  }
theorem AIT : ∀ v, OL v = AP Tryz.prog ADh ARx Tryz.f30 OK OJ OI v := by
 rintro ⟨a0, ⟨⟩⟩
 kernel_rfl
theorem ARw : AD (AR Tryz.f30) 0 = [] := by kernel_rfl
theorem AEI : AQ Tryz.prog 30 (AF 1 OK OJ OI Kx) := AI Ws Tryz.func30 (by kernel_rfl) (by kernel_rfl) rfl (fun v => (AM9 v).trans (AIT v)) (AA ARw trivial)
def KM : Env := ADh.ext 30 true true (AF 1 OK OJ OI Kx)
theorem Io : AX Tryz.prog KM := Env.AY Ws AEI (fun _ => AG rfl rfl) (fun _ => AH rfl rfl)
abbrev Ze : Hints := { loop := fun n => match n with | 0 => Aa 0 37 AFk AFj Sp | _ => fun _ _ _ => none }
theorem AIh : ∀ v, Sp v = roundOf Tryz.prog KM Ze 1 0 37 (AB Tryz.f17 0) AFk AFj v := by
 rintro ⟨a0, a1, a2, a3, a4, a5, ⟨⟩⟩
 kernel_rfl
theorem AYe : AD (AB Tryz.f17 0) 1 = [] := by kernel_rfl
theorem AYf : AZ Tryz.prog 0 (.loop (AB Tryz.f17 0)) (Ze.loop 0) := AU Io (AIh) (AA AYe trivial)
theorem AR5 : ∀ v, Zf v = AP Tryz.prog KM Ze Tryz.f17 Zd Zc Zb v := by
 rintro ⟨a0, ⟨⟩⟩
 kernel_rfl
theorem Acd : AD (AR Tryz.f17) 0 = [(0, AB Tryz.f17 0)] := by kernel_rfl
theorem ANK : AQ Tryz.prog 17 (AF 1 Zd Zc Zb Zg) := AI Io Tryz.func17 (by kernel_rfl) (by kernel_rfl) rfl (fun v => (AYg v).trans (AR5 v)) (AA Acd ⟨AYf, trivial⟩)
def ADj : Env := KM.ext 17 true true (AF 1 Zd Zc Zb Zg)
theorem Wu : AX Tryz.prog ADj := Env.AY Io ANK (fun _ => AG rfl rfl) (fun _ => AH rfl rfl)
abbrev AiI : Hints := {  }
theorem AeQ : ∀ v, AKU v = AP Tryz.prog ADj AiI Tryz.f110 AUf AUe AUd v := by
 rintro ⟨a0, a1, ⟨⟩⟩
 kernel_rfl
theorem AiH : AD (AR Tryz.f110) 0 = [] := by kernel_rfl
theorem AaN : AQ Tryz.prog 110 (AF 2 AUf AUe AUd AEx) := AI Wu Tryz.func110 (by kernel_rfl) (by kernel_rfl) rfl (fun v => (AXG v).trans (AeQ v)) (AA AiH trivial)
def ADz : Env := ADj.ext 110 true true (AF 2 AUf AUe AUd AEx)
theorem Nb : AX Tryz.prog ADz := Env.AY Wu AaN (fun _ => AG rfl rfl) (fun _ => AH rfl rfl)
abbrev Lj : Hints := { loop := fun n => match n with | 0 => Aa 0 64 AGm AGk FI | 1 => Aa 0 64 AGl AGj FH | _ => fun _ _ _ => none, fp := fun n => match n with | 6 => [[0], [], [], [], [], [], [], [], [], [0], [], [], [], [], [], [], [], []] | _ => [] }
theorem AKo : ∀ v, FH v = roundOf Tryz.prog ADz Lj 2 0 64 (AB Tryz.f65 1) AGl AGj v := by
 rintro ⟨a0, a1, a2, a3, ⟨⟩⟩
 kernel_rfl
theorem Aag : AD (AB Tryz.f65 1) 2 = [] := by kernel_rfl
theorem Aai : AZ Tryz.prog 0 (.loop (AB Tryz.f65 1)) (Lj.loop 1) := AU Nb (AKo) (AA Aag trivial)
theorem AKp : ∀ v, FI v = roundOf Tryz.prog ADz Lj 1 0 64 (AB Tryz.f65 0) AGm AGk v := by
 rintro ⟨a0, a1, a2, a3, ⟨⟩⟩
 kernel_rfl
theorem Aah : AD (AB Tryz.f65 0) 1 = [] := by kernel_rfl
theorem Aaj : AZ Tryz.prog 0 (.loop (AB Tryz.f65 0)) (Lj.loop 0) := AU Nb (AKp) (AA Aah trivial)
theorem AUs : ∀ v, Q3 v = AP Tryz.prog ADz Lj Tryz.f65 ACV ACU ACT v := by
 rintro ⟨a0, a1, ⟨⟩⟩
 kernel_rfl
theorem Aek : AD (AR Tryz.f65) 0 = [(0, AB Tryz.f65 0), (1, AB Tryz.f65 1)] := by kernel_rfl
theorem APz : AQ Tryz.prog 65 (AF 2 ACV ACU ACT ACW) := AI Nb Tryz.func65 (by kernel_rfl) (by kernel_rfl) rfl (fun v => (AGn v).trans (AUs v)) (AA Aek ⟨Aaj, Aai, trivial⟩)
def R4 : Env := ADz.ext 65 true true (AF 2 ACV ACU ACT ACW)
theorem MW : AX Tryz.prog R4 := Env.AY Nb APz (fun _ => AG rfl rfl) (fun _ => AH rfl rfl)
abbrev LR : Hints := { loop := fun n => match n with | 0 => Aa 0 36 Qh Qg CV | _ => fun _ _ _ => none, fp := fun n => match n with | 6 => [[], [], [2], [2], [], [], [2], [2], []] | 1 => [[0], [0], [0], [], [], [2], []] | _ => [] }
theorem XI : ∀ v, CV v = roundOf Tryz.prog R4 LR 1 0 36 (AB Tryz.f91 0) Qh Qg v := by
 rintro ⟨a0, a1, a2, a3, a4, a5, ⟨⟩⟩
 kernel_rfl
theorem AJ7 : AD (AB Tryz.f91 0) 1 = [] := by kernel_rfl
theorem AJ8 : AZ Tryz.prog 0 (.loop (AB Tryz.f91 0)) (LR.loop 0) := AU MW (XI) (AA AJ7 trivial)
theorem AEp : ∀ v, Hy v = AP Tryz.prog R4 LR Tryz.f91 LQ LP LO v := by
 rintro ⟨a0, a1, a2, ⟨⟩⟩
 kernel_rfl
theorem APE : AD (AR Tryz.f91) 0 = [(0, AB Tryz.f91 0)] := by kernel_rfl
theorem ABW : AQ Tryz.prog 91 (AF 3 LQ LP LO E2) := AI MW Tryz.func91 (by kernel_rfl) (by kernel_rfl) rfl (fun v => (Qi v).trans (AEp v)) (AA APE ⟨AJ8, trivial⟩)
def IP : Env := R4.ext 91 true true (AF 3 LQ LP LO E2)
theorem Hh : AX Tryz.prog IP := Env.AY MW ABW (fun _ => AG rfl rfl) (fun _ => AH rfl rfl)
abbrev AKe : Hints := { loop := fun n => match n with | 0 => Aa 0 18 APo APn HO | _ => fun _ _ _ => none }
theorem APm : ∀ v, HO v = roundOf Tryz.prog IP AKe 1 0 18 (AB Tryz.f111 0) APo APn v := by
 rintro ⟨a0, a1, a2, ⟨⟩⟩
 kernel_rfl
theorem Aee : AD (AB Tryz.f111 0) 1 = [] := by kernel_rfl
theorem Aef : AZ Tryz.prog 0 (.loop (AB Tryz.f111 0)) (AKe.loop 0) := AU Hh (APm) (AA Aee trivial)
theorem AaV : ∀ v, Xv v = AP Tryz.prog IP AKe Tryz.f111 AKd AKc AKb v := by
 rintro ⟨a0, a1, ⟨⟩⟩
 kernel_rfl
theorem Ag8 : AD (AR Tryz.f111) 0 = [(0, AB Tryz.f111 0)] := by kernel_rfl
theorem AUl : AQ Tryz.prog 111 (AF 2 AKd AKc AKb JD) := AI Hh Tryz.func111 (by kernel_rfl) (by kernel_rfl) rfl (fun v => (APp v).trans (AaV v)) (AA Ag8 ⟨Aef, trivial⟩)
def AL8 : Env := IP.ext 111 true true (AF 2 AKd AKc AKb JD)
theorem AD0 : AX Tryz.prog AL8 := Env.AY Hh AUl (fun _ => AG rfl rfl) (fun _ => AH rfl rfl)
abbrev Acn : Hints := { fp := fun n => match n with | 8 => [[], [26], [], [34], [], [], [], [26], [], [34], [], [], [], [26], [26], [], [34], [34], [], [], []] | 5 => [[0], [], [], [], [0], [], [], [], [], []] | _ => [] }
theorem ASD : ∀ v, QH v = AP Tryz.prog AL8 Acn Tryz.f63 Zr Zq Zp v := by
 rintro ⟨a0, a1, a2, a3, ⟨⟩⟩
 kernel_rfl
theorem Acm : AD (AR Tryz.f63) 0 = [] := by kernel_rfl
theorem ANW : AQ Tryz.prog 63 (AF 4 Zr Zq Zp Zs) := AI AD0 Tryz.func63 (by kernel_rfl) (by kernel_rfl) rfl (fun v => (AFr v).trans (ASD v)) (AA Acm trivial)
def JU : Env := AL8.ext 63 true true (AF 4 Zr Zq Zp Zs)
theorem F5 : AX Tryz.prog JU := Env.AY AD0 ANW (fun _ => AG rfl rfl) (fun _ => AH rfl rfl)
abbrev Ju : Hints := { loop := fun n => match n with | 0 => Aa 0 208 AO2 AOz ER | 1 => Aa 0 208 AO1 AOy Fu | 2 => Aa 0 208 AO0 AOx Ft | _ => fun _ _ _ => none, fp := fun n => match n with | 34 => [[6], [10], [1], [3], []] | 33 => [[14], [14], [14], [14], [], [10], [11], [10], [11]] | 35 => [[4], [8], [1], [3], []] | 9 => [[0], [0], [], [0], [0], [], [], [41], [0], [0], [], [], [], [43], [], [], [47]] | _ => [] }
theorem AOu : ∀ v, Ft v = roundOf Tryz.prog JU Ju 3 0 208 (AB Tryz.f61 2) AO0 AOx v := by
 rintro ⟨a0, a1, a2, a3, a4, a5, a6, a7, a8, a9, a10, a11, a12, a13, a14, a15, a16, a17, a18, a19, a20, a21, ⟨⟩⟩
 kernel_rfl
theorem Adi : AD (AB Tryz.f61 2) 3 = [] := by kernel_rfl
theorem Adl : AZ Tryz.prog 0 (.loop (AB Tryz.f61 2)) (Ju.loop 2) := AU F5 (AOu) (AA Adi trivial)
theorem AOv : ∀ v, Fu v = roundOf Tryz.prog JU Ju 2 0 208 (AB Tryz.f61 1) AO1 AOy v := by
 rintro ⟨a0, a1, a2, a3, a4, a5, a6, a7, a8, a9, a10, a11, a12, a13, a14, a15, a16, a17, a18, a19, a20, a21, ⟨⟩⟩
 kernel_rfl
theorem Adj : AD (AB Tryz.f61 1) 2 = [] := by kernel_rfl
theorem Adm : AZ Tryz.prog 0 (.loop (AB Tryz.f61 1)) (Ju.loop 1) := AU F5 (AOv) (AA Adj trivial)
theorem AOw : ∀ v, ER v = roundOf Tryz.prog JU Ju 1 0 208 (AB Tryz.f61 0) AO2 AOz v := by
 rintro ⟨a0, a1, a2, a3, a4, a5, a6, a7, a8, a9, a10, a11, a12, a13, a14, a15, a16, a17, a18, ⟨⟩⟩
 kernel_rfl
theorem Adk : AD (AB Tryz.f61 0) 1 = [(1, AB Tryz.f61 1), (2, AB Tryz.f61 2)] := by kernel_rfl
theorem Adn : AZ Tryz.prog 0 (.loop (AB Tryz.f61 0)) (Ju.loop 0) := AU F5 (AOw) (AA Adk ⟨Adm, Adl, trivial⟩)
theorem AZd : ∀ v, Xp v = AP Tryz.prog JU Ju Tryz.f61 AJt AJs AJq v := by
 rintro ⟨a0, a1, a2, ⟨⟩⟩
 kernel_rfl
theorem Agg : AD (AR Tryz.f61) 0 = [(0, AB Tryz.f61 0)] := by kernel_rfl
theorem ATb : AQ Tryz.prog 61 (AF 3 AJt AJs AJq ABR) := AI F5 Tryz.func61 (by kernel_rfl) (by kernel_rfl) rfl (fun v => (AO3 v).trans (AZd v)) (AA Agg ⟨Adn, trivial⟩)
def YA : Env := JU.ext 61 true true (AF 3 AJt AJs AJq ABR)
theorem Pd : AX Tryz.prog YA := Env.AY F5 ATb (fun _ => AG rfl rfl) (fun _ => AH rfl rfl)
abbrev ACz : Hints := { loop := fun n => match n with | 0 => Aa 0 59 AG1 AG0 FL | _ => fun _ _ _ => none, fp := fun n => match n with | 9 => [[8], [], [], [4], [4], [4], [], [], [4], [4], [4], [], [], [], [], [], [], [], [19], [21], []] | _ => [] }
theorem ALB : ∀ v, FL v = roundOf Tryz.prog YA ACz 1 0 59 (AB Tryz.f33 0) AG1 AG0 v := by
 rintro ⟨a0, a1, a2, a3, a4, a5, a6, a7, ⟨⟩⟩
 kernel_rfl
theorem Aa2 : AD (AB Tryz.f33 0) 1 = [] := by kernel_rfl
theorem Aa3 : AZ Tryz.prog 0 (.loop (AB Tryz.f33 0)) (ACz.loop 0) := AU Pd (ALB) (AA Aa2 trivial)
theorem AVM : ∀ v, RH v = AP Tryz.prog YA ACz Tryz.f33 ACy ACx ACw v := by
 rintro ⟨a0, a1, ⟨⟩⟩
 kernel_rfl
theorem AfF : AD (AR Tryz.f33) 0 = [(0, AB Tryz.f33 0)] := by kernel_rfl
theorem AQP : AQ Tryz.prog 33 (AF 2 ACy ACx ACw UK) := AI Pd Tryz.func33 (by kernel_rfl) (by kernel_rfl) rfl (fun v => (AG2 v).trans (AVM v)) (AA AfF ⟨Aa3, trivial⟩)
def Hj : Env := YA.ext 33 true true (AF 2 ACy ACx ACw UK)
theorem EH : AX Tryz.prog Hj := Env.AY Pd AQP (fun _ => AG rfl rfl) (fun _ => AH rfl rfl)
abbrev DM : Hints := { loop := fun n => match n with | 0 => Aa 0 105 ZE ZA Dr | 1 => Aa 0 105 ZD Y9 Dq | 2 => Aa 0 105 ZC Y8 Cy | 3 => Aa 0 105 ZB Y7 Cx | _ => fun _ _ _ => none, fp := fun n => match n with | 8 => [[], [], [2], [2], [], [], [4], [4], []] | 14 => [[0], [0], [0], [], [], [10], []] | 19 => [[4], [4], [], [], [4], [4], [], [], [], [], [], [4], [4], [2], [2], [], [4], [4], [2], [2], [], []] | 4 => [[0], [0], [0], [], [26], []] | 3 => [[0], [0], [0], [], [10], []] | _ => [] }
theorem AEE : ∀ v, Cx v = roundOf Tryz.prog Hj DM 4 0 105 (AB Tryz.f34 3) ZB Y7 v := by
 rintro ⟨a0, a1, a2, a3, a4, ⟨⟩⟩
 kernel_rfl
theorem ARm : AD (AB Tryz.f34 3) 4 = [] := by kernel_rfl
theorem ARq : AZ Tryz.prog 0 (.loop (AB Tryz.f34 3)) (DM.loop 3) := AU EH (AEE) (AA ARm trivial)
theorem AEF : ∀ v, Cy v = roundOf Tryz.prog Hj DM 3 0 105 (AB Tryz.f34 2) ZC Y8 v := by
 rintro ⟨a0, a1, a2, a3, a4, a5, ⟨⟩⟩
 kernel_rfl
theorem ARn : AD (AB Tryz.f34 2) 3 = [] := by kernel_rfl
theorem ARr : AZ Tryz.prog 0 (.loop (AB Tryz.f34 2)) (DM.loop 2) := AU EH (AEF) (AA ARn trivial)
theorem AEG : ∀ v, Dq v = roundOf Tryz.prog Hj DM 2 0 105 (AB Tryz.f34 1) ZD Y9 v := by
 rintro ⟨a0, a1, a2, a3, ⟨⟩⟩
 kernel_rfl
theorem ARo : AD (AB Tryz.f34 1) 2 = [(2, AB Tryz.f34 2), (3, AB Tryz.f34 3)] := by kernel_rfl
theorem ARs : AZ Tryz.prog 0 (.loop (AB Tryz.f34 1)) (DM.loop 1) := AU EH (AEG) (AA ARo ⟨ARr, ARq, trivial⟩)
theorem AEH : ∀ v, Dr v = roundOf Tryz.prog Hj DM 1 0 105 (AB Tryz.f34 0) ZE ZA v := by
 rintro ⟨a0, a1, a2, a3, a4, ⟨⟩⟩
 kernel_rfl
theorem ARp : AD (AB Tryz.f34 0) 1 = [] := by kernel_rfl
theorem ARt : AZ Tryz.prog 0 (.loop (AB Tryz.f34 0)) (DM.loop 0) := AU EH (AEH) (AA ARp trivial)
theorem AM4 : ∀ v, Mi v = AP Tryz.prog Hj DM Tryz.f34 Sf Se Sd v := by
 rintro ⟨a0, ⟨⟩⟩
 kernel_rfl
theorem AYR : AD (AR Tryz.f34) 0 = [(0, AB Tryz.f34 0), (1, AB Tryz.f34 1)] := by kernel_rfl
theorem AIO : AQ Tryz.prog 34 (AF 1 Sf Se Sd Jk) := AI EH Tryz.func34 (by kernel_rfl) (by kernel_rfl) rfl (fun v => (ZF v).trans (AM4 v)) (AA AYR ⟨ARt, ARs, trivial⟩)
def VN : Env := Hj.ext 34 true true (AF 1 Sf Se Sd Jk)
theorem Rj : AX Tryz.prog VN := Env.AY EH AIO (fun _ => AG rfl rfl) (fun _ => AH rfl rfl)
end
end Go.Pev
end
section
namespace Go.Pev
open Go.Proofs
set_option maxRecDepth 100000
noncomputable section
abbrev AbS : Hints := {  }
theorem AQu : ∀ v, VG v = AP Tryz.prog VN AbS Tryz.f15 VF VE VD v := by
 rintro ⟨⟨⟩⟩
 kernel_rfl
theorem AbR : AD (AR Tryz.f15) 0 = [] := by kernel_rfl
theorem ALm : AQ Tryz.prog 15 (AF 0 VF VE VD IJ) := AI Rj Tryz.func15 (by kernel_rfl) (by kernel_rfl) rfl (fun v => (AVv v).trans (AQu v)) (AA AbR trivial)
def Vl : Env := VN.ext 15 true true (AF 0 VF VE VD IJ)
theorem SC : AX Tryz.prog Vl := Env.AY Rj ALm (fun _ => AG rfl rfl) (fun _ => AH rfl rfl)
abbrev Aac : Hints := {  }
theorem APy : ∀ v, ND v = AP Tryz.prog Vl Aac Tryz.f16 UC UB UA v := by
 rintro ⟨a0, ⟨⟩⟩
 kernel_rfl
theorem Aab : AD (AR Tryz.f16) 0 = [] := by kernel_rfl
theorem AKn : AQ Tryz.prog 16 (AF 1 UC UB UA NF) := AI SC Tryz.func16 (by kernel_rfl) (by kernel_rfl) rfl (fun v => (ACS v).trans (APy v)) (AA Aab trivial)
def AHP : Env := Vl.ext 16 true true (AF 1 UC UB UA NF)
theorem AL9 : AX Tryz.prog AHP := Env.AY SC AKn (fun _ => AG rfl rfl) (fun _ => AH rfl rfl)
abbrev AIN : Hints := {  }
theorem Y6 : ∀ v, GU v = AP Tryz.prog AHP AIN Tryz.f4 Jj Ji Jh v := by
 rintro ⟨a0, a1, a2, ⟨⟩⟩
 kernel_rfl
theorem AIM : AD (AR Tryz.f4) 0 = [] := by kernel_rfl
theorem XB : AQ Tryz.prog 4 (AF 3 Jj Ji Jh Eo) := AI AL9 Tryz.func4 (by kernel_rfl) (by kernel_rfl) rfl (fun v => (Np v).trans (Y6 v)) (AA AIM trivial)
end
end Go.Pev
end
section

end
