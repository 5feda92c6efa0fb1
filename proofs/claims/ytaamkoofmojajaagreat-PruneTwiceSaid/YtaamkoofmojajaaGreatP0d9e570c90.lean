/- A part of the proofs of this seat: G24iP5 G24iP6 G24iP7 G24iP8 G24iP9 G24iP10 G24iP. -/
import Derived.Test.YtaamkoofmojajaaGreatP5f6fa0e515
set_option linter.unusedVariables false
set_option linter.unusedSimpArgs false
set_option linter.unusedSectionVars false
set_option maxRecDepth 100000
section
namespace Go.Pev
open Go.Proofs
noncomputable section
abbrev Pk:Hints:={ loop:=fun n=>match n with|0=>Ad 0 47 AJc AJa Hd|1=>Ad 0 47 AJb AJZ Hc|_=>fun _ _ _=>none }
theorem AJX:∀ v,Hc v=roundOf Tryz.prog RO Pk 2 0 47 (AB Tryz.f188 1) AJb AJZ v:=by
 rintro⟨a0,a1,a2,a3,a4,a5,a6,⟨⟩⟩
 kernel_rfl
theorem AXo:AD (AB Tryz.f188 1) 2=[]:=by kernel_rfl
theorem AXq:Ab Tryz.prog 0 (.loop (AB Tryz.f188 1)) (Pk.loop 1):=AX K4 (AJX) (AA AXo trivial)
theorem AJY:∀ v,Hd v=roundOf Tryz.prog RO Pk 1 0 47 (AB Tryz.f188 0) AJc AJa v:=by
 rintro⟨a0,a1,a2,a3,a4,a5,a6,a7,a8,⟨⟩⟩
 kernel_rfl
theorem AXp:AD (AB Tryz.f188 0) 1=[]:=by kernel_rfl
theorem AXr:Ab Tryz.prog 0 (.loop (AB Tryz.f188 0)) (Pk.loop 0):=AX K4 (AJY) (AA AXp trivial)
theorem AUU:∀ v,XC v=AT Tryz.prog RO Pk Tryz.f188 AFK AFJ AFI v:=by
 rintro⟨a0,a1,a2,⟨⟩⟩
 kernel_rfl
theorem Abk:AD (AW Tryz.f188) 0=[(0,AB Tryz.f188 0),(1,AB Tryz.f188 1)]:=by kernel_rfl
theorem AOA:AU Tryz.prog 188 (AH 3 AFK AFJ AFI AJe):=AN K4 Tryz.func188 (by kernel_rfl) (by kernel_rfl) rfl (fun v=>(AJd v).trans (AUU v)) (AA Abk ⟨AXr,AXq,trivial⟩)
def AJC:Env:=RO.ext 188 true true (AH 3 AFK AFJ AFI AJe)
theorem ABu:Af Tryz.prog AJC:=Env.Ai K4 AOA (fun _=>AQ rfl rfl) (fun _=>AO rfl rfl)
abbrev Abv:Hints:={ fp:=fun n=>match n with|9=>[[],[28],[0],[0],[],[],[],[],[],[0],[0],[],[],[],[],[],[28],[28,52,36,62],[64],[]]|4=>[[0],[],[],[0],[],[],[],[]]|_=>[] }
theorem AUi:∀ v,G9 v=AT Tryz.prog AJC Abv Tryz.f161 AFi AFh AFg v:=by
 rintro⟨a0,a1,a2,⟨⟩⟩
 kernel_rfl
theorem Abu:AD (AW Tryz.f161) 0=[]:=by kernel_rfl
theorem AOS:AU Tryz.prog 161 (AH 3 AFi AFh AFg Le):=AN ABu Tryz.func161 (by kernel_rfl) (by kernel_rfl) rfl (fun v=>(Hk v).trans (AUi v)) (AA Abu trivial)
def AJD:Env:=AJC.ext 161 true true (AH 3 AFi AFh AFg Le)
theorem ABz:Af Tryz.prog AJD:=Env.Ai ABu AOS (fun _=>AQ rfl rfl) (fun _=>AO rfl rfl)
theorem AYM:Tryz.f155.body.isSome=true:=by kernel_rfl
theorem AYL : (Tryz.f155.name == "runtime.NumGoroutine") = false := by kernel_rfl
theorem AYK:loops (AW Tryz.f155)=0:=by kernel_rfl
def Kz:Env:=AJD.ext 155 false false (C8 Tryz.prog AJD {} Tryz.f155)
theorem JP:Af Tryz.prog Kz:=Env.Ai ABz (Cs ABz Tryz.func155 AYM AYL AYK) (by simp) (by simp)
abbrev GB:Hints:={ loop:=fun n=>match n with|0=>Ad 1 19 Iw Iv Bh|_=>fun _ _ _=>none }
theorem MO:∀ v,Bh v=roundOf Tryz.prog Kz GB 1 1 19 (AB Tryz.f174 0) Iw Iv v:=by
 rintro⟨a0,a1,a2,a3,a4,⟨⟩⟩
 kernel_rfl
theorem Ql:AD (AB Tryz.f174 0) 1=[]:=by kernel_rfl
theorem Qm:Ab Tryz.prog 1 (.loop (AB Tryz.f174 0)) (GB.loop 0):=AX JP (MO) (AA Ql trivial)
theorem O7:∀ v,Dx v=AT Tryz.prog Kz GB Tryz.f174 GA F9 F8 v:=by
 rintro⟨a0,a1,a2,⟨⟩⟩
 kernel_rfl
theorem TK:AD (AW Tryz.f174) 0=[(0,AB Tryz.f174 0)]:=by kernel_rfl
theorem N2:AU Tryz.prog 174 (AH 2 GA F9 F8 FI):=AN JP Tryz.func174 (by kernel_rfl) (by kernel_rfl) rfl (fun v=>(Ix v).trans (O7 v)) (AA TK ⟨Qm,trivial⟩)
def GO:Env:=Kz.FL 174 1 155 (AH 2 GA F9 F8 FI)
theorem G8:Af Tryz.prog GO:=Env.Bc JP N2 (AO rfl rfl)
abbrev Q4:Hints:={  }
theorem N3:∀ v,DM v=AT Tryz.prog GO Q4 Tryz.f154 FU FT FQ v:=by
 rintro⟨a0,a1,a2,⟨⟩⟩
 kernel_rfl
theorem Q3:AD (AW Tryz.f154) 0=[]:=by kernel_rfl
theorem Md:AU Tryz.prog 154 (AH 2 FU FT FQ C9):=AN G8 Tryz.func154 (by kernel_rfl) (by kernel_rfl) rfl (fun v=>(IT v).trans (N3 v)) (AA Q3 trivial)
def FZ:Env:=GO.FL 154 1 155 (AH 2 FU FT FQ C9)
theorem Gs:Af Tryz.prog FZ:=Env.Bc G8 Md (AO rfl rfl)
abbrev Aau:Hints:={  }
theorem ARl:∀ v,Qu v=AT Tryz.prog FZ Aau Tryz.f125 AAy AAx AAw v:=by
 rintro⟨a0,a1,⟨⟩⟩
 kernel_rfl
theorem Aat:AD (AW Tryz.f125) 0=[]:=by kernel_rfl
theorem AM8:AU Tryz.prog 125 (AH 2 AAy AAx AAw Kh):=AN Gs Tryz.func125 (by kernel_rfl) (by kernel_rfl) rfl (fun v=>(AEi v).trans (ARl v)) (AA Aat trivial)
def Rk:Env:=FZ.ext 125 true true (AH 2 AAy AAx AAw Kh)
theorem Mx:Af Tryz.prog Rk:=Env.Ai Gs AM8 (fun _=>AQ rfl rfl) (fun _=>AO rfl rfl)
abbrev ARz:Hints:={ loop:=fun n=>match n with|0=>Ad 0 21 AT2 AT1 Kk|_=>fun _ _ _=>none }
theorem ARv:∀ v,Kk v=roundOf Tryz.prog Rk ARz 1 0 21 (AB Tryz.f183 0) AT2 AT1 v:=by
 rintro⟨a0,a1,a2,a3,⟨⟩⟩
 kernel_rfl
theorem AdP:AD (AB Tryz.f183 0) 1=[]:=by kernel_rfl
theorem AdQ:Ab Tryz.prog 0 (.loop (AB Tryz.f183 0)) (ARz.loop 0):=AX Mx (ARv) (AA AdP trivial)
theorem Aa7:∀ v,AIP v=AT Tryz.prog Rk ARz Tryz.f183 ARy ARx ARw v:=by
 rintro⟨a0,⟨⟩⟩
 kernel_rfl
theorem AeX:AD (AW Tryz.f183) 0=[(0,AB Tryz.f183 0)]:=by kernel_rfl
theorem AXD:AU Tryz.prog 183 (AH 1 ARy ARx ARw ends):=AN Mx Tryz.func183 (by kernel_rfl) (by kernel_rfl) rfl (fun v=>(AT3 v).trans (Aa7 v)) (AA AeX ⟨AdQ,trivial⟩)
def AJO:Env:=Rk.ext 183 true true (AH 1 ARy ARx ARw ends)
theorem UH:Af Tryz.prog AJO:=Env.Ai Mx AXD (fun _=>AQ rfl rfl) (fun _=>AO rfl rfl)
abbrev PM:Hints:={ loop:=fun n=>match n with|0=>Ad 0 48 WD WC Bz|_=>fun _ _ _=>none,fp:=fun n=>match n with|1=>[[0],[],[],[4],[]]|_=>[] }
theorem ABC:∀ v,Bz v=roundOf Tryz.prog AJO PM 1 0 48 (AB Tryz.f160 0) WD WC v:=by
 rintro⟨a0,a1,a2,a3,a4,a5,a6,⟨⟩⟩
 kernel_rfl
theorem ANP:AD (AB Tryz.f160 0) 1=[]:=by kernel_rfl
theorem ANQ:Ab Tryz.prog 0 (.loop (AB Tryz.f160 0)) (PM.loop 0):=AX UH (ABC) (AA ANP trivial)
theorem AIR:∀ v,IK v=AT Tryz.prog AJO PM Tryz.f160 PL PK PJ v:=by
 rintro⟨a0,a1,⟨⟩⟩
 kernel_rfl
theorem AR2:AD (AW Tryz.f160) 0=[(0,AB Tryz.f160 0)]:=by kernel_rfl
theorem ADF:AU Tryz.prog 160 (AH 3 PL PK PJ Qz):=AN UH Tryz.func160 (by kernel_rfl) (by kernel_rfl) rfl (fun v=>(MY v).trans (AIR v)) (AA AR2 ⟨ANQ,trivial⟩)
def Pe:Env:=AJO.FL 160 2 161 (AH 3 PL PK PJ Qz)
theorem OM:Af Tryz.prog Pe:=Env.Bc UH ADF (AO rfl rfl)
abbrev Aa1:Hints:={  }
theorem ARq:∀ v,MT v=AT Tryz.prog Pe Aa1 Tryz.f130 AA3 AA2 AA1 v:=by
 rintro⟨a0,a1,⟨⟩⟩
 kernel_rfl
theorem Aa0:AD (AW Tryz.f130) 0=[]:=by kernel_rfl
theorem AND:AU Tryz.prog 130 (AH 2 AA3 AA2 AA1 AIJ):=AN OM Tryz.func130 (by kernel_rfl) (by kernel_rfl) rfl (fun v=>(TT v).trans (ARq v)) (AA Aa0 trivial)
def ACI:Env:=Pe.ext 130 true true (AH 2 AA3 AA2 AA1 AIJ)
theorem WX:Af Tryz.prog ACI:=Env.Ai OM AND (fun _=>AQ rfl rfl) (fun _=>AO rfl rfl)
abbrev Aer:Hints:={  }
theorem AdM:∀ v,ANC v=AT Tryz.prog ACI Aer Tryz.f92 Aaz Aay Aax v:=by
 rintro⟨a0,a1,⟨⟩⟩
 kernel_rfl
theorem Aeq:AD (AW Tryz.f92) 0=[]:=by kernel_rfl
theorem Aaw:AU Tryz.prog 92 (AH 2 Aaz Aay Aax fof):=AN WX Tryz.func92 (by kernel_rfl) (by kernel_rfl) rfl (fun v=>(ARn v).trans (AdM v)) (AA Aeq trivial)
def AUO:Env:=ACI.ext 92 true true (AH 2 Aaz Aay Aax fof)
theorem ACH:Af Tryz.prog AUO:=Env.Ai WX Aaw (fun _=>AQ rfl rfl) (fun _=>AO rfl rfl)
abbrev AZ0:Hints:={ loop:=fun n=>match n with|0=>Ad 0 18 AZy AZw Oo|_=>fun _ _ _=>none }
theorem AVl:∀ v,Oo v=roundOf Tryz.prog AUO AZ0 1 0 18 (AB Tryz.f114 0) AZy AZw v:=by
 rintro⟨a0,a1,a2,a3,⟨⟩⟩
 kernel_rfl
theorem AeG:AD (AB Tryz.f114 0) 1=[]:=by kernel_rfl
theorem AeH:Ab Tryz.prog 0 (.loop (AB Tryz.f114 0)) (AZ0.loop 0):=AX ACH (AVl) (AA AeG trivial)
theorem AcY:∀ v,ATR v=AT Tryz.prog AUO AZ0 Tryz.f114 AZz AZx AZv v:=by
 rintro⟨a0,⟨⟩⟩
 kernel_rfl
theorem Aen:AD (AW Tryz.f114) 0=[(0,AB Tryz.f114 0)]:=by kernel_rfl
theorem AZu:AU Tryz.prog 114 (AH 1 AZz AZx AZv orI):=AN ACH Tryz.func114 (by kernel_rfl) (by kernel_rfl) rfl (fun v=>(AZ1 v).trans (AcY v)) (AA Aen ⟨AeH,trivial⟩)
def Abh:Env:=AUO.ext 114 true true (AH 1 AZz AZx AZv orI)
theorem AN5:Af Tryz.prog Abh:=Env.Ai ACH AZu (fun _=>AQ rfl rfl) (fun _=>AO rfl rfl)
abbrev AaD:Hints:={  }
theorem AQ0:∀ v,MJ v=AT Tryz.prog Abh AaD Tryz.f97 AAM AAL AAK v:=by
 rintro⟨a0,⟨⟩⟩
 kernel_rfl
theorem AaC:AD (AW Tryz.f97) 0=[]:=by kernel_rfl
theorem AMK:AU Tryz.prog 97 (AH 1 AAM AAL AAK S8):=AN AN5 Tryz.func97 (by kernel_rfl) (by kernel_rfl) rfl (fun v=>(S7 v).trans (AQ0 v)) (AA AaC trivial)
def ACC:Env:=Abh.ext 97 true true (AH 1 AAM AAL AAK S8)
theorem WT:Af Tryz.prog ACC:=Env.Ai AN5 AMK (fun _=>AQ rfl rfl) (fun _=>AO rfl rfl)
end
end Go.Pev
end
section
namespace Go.Pev
open Go.Proofs
noncomputable section
abbrev AeP:Hints:={  }
theorem AaB:∀ v,AQz v=AT Tryz.prog ACC AeP Tryz.f53 AQy AQx AQw v:=by
 rintro⟨a0,⟨⟩⟩
 kernel_rfl
theorem AeO:AD (AW Tryz.f53) 0=[]:=by kernel_rfl
theorem AWA:AU Tryz.prog 53 (AH 1 AQy AQx AQw AC6):=AN WT Tryz.func53 (by kernel_rfl) (by kernel_rfl) rfl (fun v=>(Aci v).trans (AaB v)) (AA AeO trivial)
def ASu:Env:=ACC.ext 53 true true (AH 1 AQy AQx AQw AC6)
theorem AE7:Af Tryz.prog ASu:=Env.Ai WT AWA (fun _=>AQ rfl rfl) (fun _=>AO rfl rfl)
abbrev ARE:Hints:={ fp:=fun n=>match n with|1=>[[0],[0],[2],[2],[],[0],[0],[2],[2],[],[],[20],[]]|_=>[] }
theorem AHj:∀ v,H5 v=AT Tryz.prog ASu ARE Tryz.f98 O0 Oz Oy v:=by
 rintro⟨a0,a1,⟨⟩⟩
 kernel_rfl
theorem ARD:AD (AW Tryz.f98) 0=[]:=by kernel_rfl
theorem AC9:AU Tryz.prog 98 (AH 2 O0 Oz Oy Da):=AN AE7 Tryz.func98 (by kernel_rfl) (by kernel_rfl) rfl (fun v=>(MK v).trans (AHj v)) (AA ARD trivial)
def K9:Env:=ASu.ext 98 true true (AH 2 O0 Oz Oy Da)
theorem JQ:Af Tryz.prog K9:=Env.Ai AE7 AC9 (fun _=>AQ rfl rfl) (fun _=>AO rfl rfl)
abbrev AAI:Hints:={ loop:=fun n=>match n with|0=>Ad 0 33 AEN AEM Cm|_=>fun _ _ _=>none }
theorem AHR:∀ v,Cm v=roundOf Tryz.prog K9 AAI 1 0 33 (AB Tryz.f93 0) AEN AEM v:=by
 rintro⟨a0,a1,a2,a3,a4,⟨⟩⟩
 kernel_rfl
theorem AV8:AD (AB Tryz.f93 0) 1=[]:=by kernel_rfl
theorem AV9:Ab Tryz.prog 0 (.loop (AB Tryz.f93 0)) (AAI.loop 0):=AX JQ (AHR) (AA AV8 trivial)
theorem AQv:∀ v,MG v=AT Tryz.prog K9 AAI Tryz.f93 AAH AAG AAF v:=by
 rintro⟨a0,a1,⟨⟩⟩
 kernel_rfl
theorem AaA:AD (AW Tryz.f93) 0=[(0,AB Tryz.f93 0)]:=by kernel_rfl
theorem AMI:AU Tryz.prog 93 (AH 2 AAH AAG AAF Ow):=AN JQ Tryz.func93 (by kernel_rfl) (by kernel_rfl) rfl (fun v=>(S6 v).trans (AQv v)) (AA AaA ⟨AV9,trivial⟩)
def Rc:Env:=K9.ext 93 true true (AH 2 AAH AAG AAF Ow)
theorem Mv:Af Tryz.prog Rc:=Env.Ai JQ AMI (fun _=>AQ rfl rfl) (fun _=>AO rfl rfl)
abbrev AAQ:Hints:={ loop:=fun n=>match n with|0=>Ad 0 96 AEP AEO Ds|_=>fun _ _ _=>none,fp:=fun n=>match n with|7=>[[2],[2],[],[],[2],[2],[2],[2],[],[],[],[2],[2],[0],[0],[],[],[],[2],[2],[],[],[],[2],[2],[],[],[],[],[],[],[],[0],[0],[],[],[],[],[2],[],[],[],[]]|_=>[] }
theorem AHS:∀ v,Ds v=roundOf Tryz.prog Rc AAQ 1 0 96 (AB Tryz.f49 0) AEP AEO v:=by
 rintro⟨a0,a1,a2,a3,a4,a5,⟨⟩⟩
 kernel_rfl
theorem AWB:AD (AB Tryz.f49 0) 1=[]:=by kernel_rfl
theorem AWC:Ab Tryz.prog 0 (.loop (AB Tryz.f49 0)) (AAQ.loop 0):=AX Mv (AHS) (AA AWB trivial)
theorem AQ1:∀ v,H0 v=AT Tryz.prog Rc AAQ Tryz.f49 AAP AAO AAN v:=by
 rintro⟨a0,⟨⟩⟩
 kernel_rfl
theorem AaE:AD (AW Tryz.f49) 0=[(0,AB Tryz.f49 0)]:=by kernel_rfl
theorem AML:AU Tryz.prog 49 (AH 1 AAP AAO AAN Fv):=AN Mv Tryz.func49 (by kernel_rfl) (by kernel_rfl) rfl (fun v=>(Jf v).trans (AQ1 v)) (AA AaE ⟨AWC,trivial⟩)
def Rd:Env:=Rc.ext 49 true true (AH 1 AAP AAO AAN Fv)
theorem Mw:Af Tryz.prog Rd:=Env.Ai Mv AML (fun _=>AQ rfl rfl) (fun _=>AO rfl rfl)
abbrev AAa:Hints:={ loop:=fun n=>match n with|0=>Ad 0 26 AET AES Fx|_=>fun _ _ _=>none }
theorem AHh:∀ v,Fx v=roundOf Tryz.prog Rd AAa 1 0 26 (AB Tryz.f52 0) AET AES v:=by
 rintro⟨a0,a1,a2,a3,⟨⟩⟩
 kernel_rfl
theorem AWQ:AD (AB Tryz.f52 0) 1=[]:=by kernel_rfl
theorem AWR:Ab Tryz.prog 0 (.loop (AB Tryz.f52 0)) (AAa.loop 0):=AX Mw (AHh) (AA AWQ trivial)
theorem ARB:∀ v,QV v=AT Tryz.prog Rd AAa Tryz.f52 AAZ AAY AAX v:=by
 rintro⟨a0,⟨⟩⟩
 kernel_rfl
theorem AaK:AD (AW Tryz.f52) 0=[(0,AB Tryz.f52 0)]:=by kernel_rfl
theorem AMW:AU Tryz.prog 52 (AH 1 AAZ AAY AAX AAb):=AN Mw Tryz.func52 (by kernel_rfl) (by kernel_rfl) rfl (fun v=>(AEU v).trans (ARB v)) (AA AaK ⟨AWR,trivial⟩)
def J3:Env:=Rd.ext 52 true true (AH 1 AAZ AAY AAX AAb)
theorem Gr:Af Tryz.prog J3:=Env.Ai Mw AMW (fun _=>AQ rfl rfl) (fun _=>AO rfl rfl)
abbrev Dg:Hints:={ loop:=fun n=>match n with|0=>Ad 0 83 RB Q8 C3|1=>Ad 0 83 RA Q7 Dy|2=>Ad 0 83 Q9 Q6 C2|_=>fun _ _ _=>none,fp:=fun n=>match n with|14=>[[],[],[0],[0],[],[],[0],[0],[],[]]|13=>[[],[],[],[],[],[],[],[],[],[],[],[],[],[],[],[],[],[],[],[0],[0],[],[],[0],[0],[],[]]|12=>[[],[],[],[],[],[],[],[],[],[],[],[]]|_=>[] }
theorem W0:∀ v,C2 v=roundOf Tryz.prog J3 Dg 3 0 83 (AB Tryz.f68 2) Q9 Q6 v:=by
 rintro⟨a0,a1,a2,a3,a4,⟨⟩⟩
 kernel_rfl
theorem AIe:AD (AB Tryz.f68 2) 3=[]:=by kernel_rfl
theorem AIh:Ab Tryz.prog 0 (.loop (AB Tryz.f68 2)) (Dg.loop 2):=AX Gr (W0) (AA AIe trivial)
theorem W1:∀ v,Dy v=roundOf Tryz.prog J3 Dg 2 0 83 (AB Tryz.f68 1) RA Q7 v:=by
 rintro⟨a0,a1,a2,a3,⟨⟩⟩
 kernel_rfl
theorem AIf:AD (AB Tryz.f68 1) 2=[(2,AB Tryz.f68 2)]:=by kernel_rfl
theorem AIi:Ab Tryz.prog 0 (.loop (AB Tryz.f68 1)) (Dg.loop 1):=AX Gr (W1) (AA AIf ⟨AIh,trivial⟩)
theorem W2:∀ v,C3 v=roundOf Tryz.prog J3 Dg 1 0 83 (AB Tryz.f68 0) RB Q8 v:=by
 rintro⟨a0,a1,a2,a3,⟨⟩⟩
 kernel_rfl
theorem AIg:AD (AB Tryz.f68 0) 1=[]:=by kernel_rfl
theorem AIj:Ab Tryz.prog 0 (.loop (AB Tryz.f68 0)) (Dg.loop 0):=AX Gr (W2) (AA AIg trivial)
theorem ADQ:∀ v,I6 v=AT Tryz.prog J3 Dg Tryz.f68 Mi Mh Mg v:=by
 rintro⟨a0,a1,⟨⟩⟩
 kernel_rfl
theorem ANd:AD (AW Tryz.f68) 0=[(0,AB Tryz.f68 0),(1,AB Tryz.f68 1)]:=by kernel_rfl
theorem ABW:AU Tryz.prog 68 (AH 2 Mi Mh Mg DH):=AN Gr Tryz.func68 (by kernel_rfl) (by kernel_rfl) rfl (fun v=>(RC v).trans (ADQ v)) (AA ANd ⟨AIj,AIi,trivial⟩)
def JG:Env:=J3.ext 68 true true (AH 2 Mi Mh Mg DH)
theorem Ig:Af Tryz.prog JG:=Env.Ai Gr ABW (fun _=>AQ rfl rfl) (fun _=>AO rfl rfl)
abbrev AFZ:Hints:={ loop:=fun n=>match n with|0=>Ad 0 20 AJs AJr YF|_=>fun _ _ _=>none }
theorem AJq:∀ v,YF v=roundOf Tryz.prog JG AFZ 1 0 20 (AB Tryz.f38 0) AJs AJr v:=by
 rintro⟨a0,a1,⟨⟩⟩
 kernel_rfl
theorem AX4:AD (AB Tryz.f38 0) 1=[]:=by kernel_rfl
theorem AX5:Ab Tryz.prog 0 (.loop (AB Tryz.f38 0)) (AFZ.loop 0):=AX Ig (AJq) (AA AX4 trivial)
theorem AUg:∀ v,AFa v=AT Tryz.prog JG AFZ Tryz.f38 AFY AFX AFW v:=by
 rintro⟨a0,⟨⟩⟩
 kernel_rfl
theorem Abq:AD (AW Tryz.f38) 0=[(0,AB Tryz.f38 0)]:=by kernel_rfl
theorem AOO:AU Tryz.prog 38 (AH 1 AFY AFX AFW LH):=AN Ig Tryz.func38 (by kernel_rfl) (by kernel_rfl) rfl (fun v=>(AX6 v).trans (AUg v)) (AA Abq ⟨AX5,trivial⟩)
def RN:Env:=JG.ext 38 true true (AH 1 AFY AFX AFW LH)
theorem Ky:Af Tryz.prog RN:=Env.Ai Ig AOO (fun _=>AQ rfl rfl) (fun _=>AO rfl rfl)
abbrev JW:Hints:={ loop:=fun n=>match n with|0=>Ad 0 138 Yu Ys Cw|1=>Ad 0 138 Yt Yr DW|_=>fun _ _ _=>none,fp:=fun n=>match n with|10=>[[],[],[],[0],[0],[],[],[],[],[],[4],[4],[],[],[0],[0],[],[],[],[],[],[4],[4],[],[],[0],[0],[],[],[],[],[],[4],[4],[],[],[],[]]|8=>[[4],[4],[],[],[4],[4],[4],[4],[],[],[],[4],[4],[0],[0],[],[],[],[4],[4],[],[],[],[4],[4],[0],[0],[],[],[]]|_=>[] }
theorem ACZ:∀ v,DW v=roundOf Tryz.prog RN JW 2 0 138 (AB Tryz.f50 1) Yt Yr v:=by
 rintro⟨a0,a1,a2,a3,a4,a5,⟨⟩⟩
 kernel_rfl
theorem AO1:AD (AB Tryz.f50 1) 2=[]:=by kernel_rfl
theorem AO3:Ab Tryz.prog 0 (.loop (AB Tryz.f50 1)) (JW.loop 1):=AX Ky (ACZ) (AA AO1 trivial)
theorem ACa:∀ v,Cw v=roundOf Tryz.prog RN JW 1 0 138 (AB Tryz.f50 0) Yu Ys v:=by
 rintro⟨a0,a1,a2,a3,⟨⟩⟩
 kernel_rfl
theorem AO2:AD (AB Tryz.f50 0) 1=[]:=by kernel_rfl
theorem AO4:Ab Tryz.prog 0 (.loop (AB Tryz.f50 0)) (JW.loop 0):=AX Ky (ACa) (AA AO2 trivial)
theorem AKa:∀ v,Er v=AT Tryz.prog RN JW Tryz.f50 SH SF SD v:=by
 rintro⟨a0,⟨⟩⟩
 kernel_rfl
theorem AU4:AD (AW Tryz.f50) 0=[(0,AB Tryz.f50 0),(1,AB Tryz.f50 1)]:=by kernel_rfl
theorem AGA:AU Tryz.prog 50 (AH 1 SH SF SD Ch):=AN Ky Tryz.func50 (by kernel_rfl) (by kernel_rfl) rfl (fun v=>(Fj v).trans (AKa v)) (AA AU4 ⟨AO4,AO3,trivial⟩)
def Nv:Env:=RN.ext 50 true true (AH 1 SH SF SD Ch)
theorem K7:Af Tryz.prog Nv:=Env.Ai Ky AGA (fun _=>AQ rfl rfl) (fun _=>AO rfl rfl)
abbrev Ta:Hints:={ loop:=fun n=>match n with|0=>Ad 0 32 ABA AA9 Ed|_=>fun _ _ _=>none,fp:=fun n=>match n with|7=>[[],[0],[0],[],[],[],[],[0],[0],[],[],[],[],[],[],[3,4],[]]|_=>[] }
theorem ADE:∀ v,Ed v=roundOf Tryz.prog Nv Ta 1 0 32 (AB Tryz.f36 0) ABA AA9 v:=by
 rintro⟨a0,a1,a2,a3,⟨⟩⟩
 kernel_rfl
theorem AR0:AD (AB Tryz.f36 0) 1=[]:=by kernel_rfl
theorem AR1:Ab Tryz.prog 0 (.loop (AB Tryz.f36 0)) (Ta.loop 0):=AX K7 (ADE) (AA AR0 trivial)
theorem ANO:∀ v,Nf v=AT Tryz.prog Nv Ta Tryz.f36 TZ TY TX v:=by
 rintro⟨a0,⟨⟩⟩
 kernel_rfl
theorem AXF:AD (AW Tryz.f36) 0=[(0,AB Tryz.f36 0)]:=by kernel_rfl
theorem AIQ:AU Tryz.prog 36 (AH 1 TZ TY TX I3):=AN K7 Tryz.func36 (by kernel_rfl) (by kernel_rfl) rfl (fun v=>(ABB v).trans (ANO v)) (AA AXF ⟨AR1,trivial⟩)
def Nx:Env:=Nv.ext 36 true true (AH 1 TZ TY TX I3)
theorem LF:Af Tryz.prog Nx:=Env.Ai K7 AIQ (fun _=>AQ rfl rfl) (fun _=>AO rfl rfl)
abbrev Yf:Hints:={ loop:=fun n=>match n with|0=>Ad 0 26 ADy ADx Fi|_=>fun _ _ _=>none,fp:=fun n=>match n with|6=>[[],[],[],[],[],[],[],[],[]]|_=>[] }
theorem AF9:∀ v,Fi v=roundOf Tryz.prog Nx Yf 1 0 26 (AB Tryz.f19 0) ADy ADx v:=by
 rintro⟨a0,a1,a2,⟨⟩⟩
 kernel_rfl
theorem AUz:AD (AB Tryz.f19 0) 1=[]:=by kernel_rfl
theorem AU0:Ab Tryz.prog 0 (.loop (AB Tryz.f19 0)) (Yf.loop 0):=AX LF (AF9) (AA AUz trivial)
theorem AOu:∀ v,Pu v=AT Tryz.prog Nx Yf Tryz.f19 Ye Yd Yc v:=by
 rintro⟨a0,a1,⟨⟩⟩
 kernel_rfl
theorem AYd:AD (AW Tryz.f19) 0=[(0,AB Tryz.f19 0)]:=by kernel_rfl
theorem AKP:AU Tryz.prog 19 (AH 2 Ye Yd Yc SC):=AN LF Tryz.func19 (by kernel_rfl) (by kernel_rfl) rfl (fun v=>(ADz v).trans (AOu v)) (AA AYd ⟨AU0,trivial⟩)
def AB0:Env:=Nx.ext 19 true true (AH 2 Ye Yd Yc SC)
theorem WN:Af Tryz.prog AB0:=Env.Ai LF AKP (fun _=>AQ rfl rfl) (fun _=>AO rfl rfl)
abbrev Aeh:Hints:={  }
theorem Abs:∀ v,ASz v=AT Tryz.prog AB0 Aeh Tryz.f126 AYA AX9 AX8 v:=by
 rintro⟨a0,a1,⟨⟩⟩
 kernel_rfl
theorem Aeg:AD (AW Tryz.f126) 0=[]:=by kernel_rfl
theorem AX7:AU Tryz.prog 126 (AH 2 AYA AX9 AX8 tof):=AN WN Tryz.func126 (by kernel_rfl) (by kernel_rfl) rfl (fun v=>(AYB v).trans (Abs v)) (AA Aeg trivial)
def AUL:Env:=AB0.ext 126 true true (AH 2 AYA AX9 AX8 tof)
theorem ABy:Af Tryz.prog AUL:=Env.Ai WN AX7 (fun _=>AQ rfl rfl) (fun _=>AO rfl rfl)
abbrev R1:Hints:={ loop:=fun n=>match n with|0=>Ad 0 47 X9 X8 ET|_=>fun _ _ _=>none,fp:=fun n=>match n with|6=>[[],[0],[0],[],[],[],[],[0],[0],[],[],[],[],[],[],[3,4],[]]|_=>[] }
theorem ACQ:∀ v,ET v=roundOf Tryz.prog AUL R1 1 0 47 (AB Tryz.f78 0) X9 X8 v:=by
 rintro⟨a0,a1,a2,a3,a4,⟨⟩⟩
 kernel_rfl
theorem AOI:AD (AB Tryz.f78 0) 1=[]:=by kernel_rfl
theorem AOJ:Ab Tryz.prog 0 (.loop (AB Tryz.f78 0)) (R1.loop 0):=AX ABy (ACQ) (AA AOI trivial)
theorem AJn:∀ v,M0 v=AT Tryz.prog AUL R1 Tryz.f78 R0 Rz Ry v:=by
 rintro⟨a0,a1,⟨⟩⟩
 kernel_rfl
theorem AUb:AD (AW Tryz.f78) 0=[(0,AB Tryz.f78 0)]:=by kernel_rfl
theorem AFT:AU Tryz.prog 78 (AH 2 R0 Rz Ry Ii):=AN ABy Tryz.func78 (by kernel_rfl) (by kernel_rfl) rfl (fun v=>(YA v).trans (AJn v)) (AA AUb ⟨AOJ,trivial⟩)
def Nt:Env:=AUL.ext 78 true true (AH 2 R0 Rz Ry Ii)
theorem Kx:Af Tryz.prog Nt:=Env.Ai ABy AFT (fun _=>AQ rfl rfl) (fun _=>AO rfl rfl)
end
end Go.Pev
end
section
namespace Go.Pev
open Go.Proofs
noncomputable section
abbrev Yb:Hints:={ loop:=fun n=>match n with|0=>Ad 0 38 ADv ADu Eo|_=>fun _ _ _=>none,fp:=fun n=>match n with|6=>[[0],[0],[],[],[],[2],[2],[],[],[],[]]|_=>[] }
theorem AF8:∀ v,Eo v=roundOf Tryz.prog Nt Yb 1 0 38 (AB Tryz.f55 0) ADv ADu v:=by
 rintro⟨a0,a1,a2,a3,a4,⟨⟩⟩
 kernel_rfl
theorem AUx:AD (AB Tryz.f55 0) 1=[]:=by kernel_rfl
theorem AUy:Ab Tryz.prog 0 (.loop (AB Tryz.f55 0)) (Yb.loop 0):=AX Kx (AF8) (AA AUx trivial)
theorem AOt:∀ v,Pt v=AT Tryz.prog Nt Yb Tryz.f55 Ya YZ YY v:=by
 rintro⟨a0,a1,⟨⟩⟩
 kernel_rfl
theorem AYc:AD (AW Tryz.f55) 0=[(0,AB Tryz.f55 0)]:=by kernel_rfl
theorem AKO:AU Tryz.prog 55 (AH 2 Ya YZ YY OZ):=AN Kx Tryz.func55 (by kernel_rfl) (by kernel_rfl) rfl (fun v=>(ADw v).trans (AOt v)) (AA AYc ⟨AUy,trivial⟩)
def RR:Env:=Nt.ext 55 true true (AH 2 Ya YZ YY OZ)
theorem Ms:Af Tryz.prog RR:=Env.Ai Kx AKO (fun _=>AQ rfl rfl) (fun _=>AO rfl rfl)
abbrev AH4:Hints:={ loop:=fun n=>match n with|0=>Ad 0 18 AMx AMw IF|_=>fun _ _ _=>none,fp:=fun n=>match n with|4=>[[],[],[],[],[0],[]]|_=>[] }
theorem AMv:∀ v,IF v=roundOf Tryz.prog RR AH4 1 0 18 (AB Tryz.f70 0) AMx AMw v:=by
 rintro⟨a0,a1,a2,a3,⟨⟩⟩
 kernel_rfl
theorem Aam:AD (AB Tryz.f70 0) 1=[]:=by kernel_rfl
theorem Aan:Ab Tryz.prog 0 (.loop (AB Tryz.f70 0)) (AH4.loop 0):=AX Ms (AMv) (AA Aam trivial)
theorem AWn:∀ v,Xd v=AT Tryz.prog RR AH4 Tryz.f70 AH3 AH2 AH1 v:=by
 rintro⟨a0,a1,⟨⟩⟩
 kernel_rfl
theorem AdA:AD (AW Tryz.f70) 0=[(0,AB Tryz.f70 0)]:=by kernel_rfl
theorem ARa:AU Tryz.prog 70 (AH 2 AH3 AH2 AH1 Vw):=AN Ms Tryz.func70 (by kernel_rfl) (by kernel_rfl) rfl (fun v=>(AMy v).trans (AWn v)) (AA AdA ⟨Aan,trivial⟩)
def Rg:Env:=RR.ext 70 true true (AH 2 AH3 AH2 AH1 Vw)
theorem LA:Af Tryz.prog Rg:=Env.Ai Ms ARa (fun _=>AQ rfl rfl) (fun _=>AO rfl rfl)
abbrev JZ:Hints:={ loop:=fun n=>match n with|0=>Ad 0 39 ZD ZB EZ|1=>Ad 0 39 ZC ZA DX|_=>fun _ _ _=>none }
theorem ACg:∀ v,DX v=roundOf Tryz.prog Rg JZ 2 0 39 (AB Tryz.f69 1) ZC ZA v:=by
 rintro⟨a0,a1,a2,a3,a4,⟨⟩⟩
 kernel_rfl
theorem APa:AD (AB Tryz.f69 1) 2=[]:=by kernel_rfl
theorem APc:Ab Tryz.prog 0 (.loop (AB Tryz.f69 1)) (JZ.loop 1):=AX LA (ACg) (AA APa trivial)
theorem ACh:∀ v,EZ v=roundOf Tryz.prog Rg JZ 1 0 39 (AB Tryz.f69 0) ZD ZB v:=by
 rintro⟨a0,a1,a2,a3,⟨⟩⟩
 kernel_rfl
theorem APb:AD (AB Tryz.f69 0) 1=[(1,AB Tryz.f69 1)]:=by kernel_rfl
theorem APd:Ab Tryz.prog 0 (.loop (AB Tryz.f69 0)) (JZ.loop 0):=AX LA (ACh) (AA APb ⟨APc,trivial⟩)
theorem AKh:∀ v,M8 v=AT Tryz.prog Rg JZ Tryz.f69 SR SQ SO v:=by
 rintro⟨a0,a1,⟨⟩⟩
 kernel_rfl
theorem AVI:AD (AW Tryz.f69) 0=[(0,AB Tryz.f69 0)]:=by kernel_rfl
theorem AGT:AU Tryz.prog 69 (AH 2 SR SQ SO M9):=AN LA Tryz.func69 (by kernel_rfl) (by kernel_rfl) rfl (fun v=>(ZE v).trans (AKh v)) (AA AVI ⟨APd,trivial⟩)
def T4:Env:=Rg.ext 69 true true (AH 2 SR SQ SO M9)
theorem RT:Af Tryz.prog T4:=Env.Ai LA AGT (fun _=>AQ rfl rfl) (fun _=>AO rfl rfl)
abbrev AWI:Hints:={ fp:=fun n=>match n with|3=>[[0],[0],[0],[],[],[12],[],[],[3],[]]|_=>[] }
theorem AMQ:∀ v,Jh v=AT Tryz.prog T4 AWI Tryz.f41 TF TE TD v:=by
 rintro⟨a0,a1,⟨⟩⟩
 kernel_rfl
theorem AWH:AD (AW Tryz.f41) 0=[]:=by kernel_rfl
theorem AHX:AU Tryz.prog 41 (AH 2 TF TE TD NY):=AN RT Tryz.func41 (by kernel_rfl) (by kernel_rfl) rfl (fun v=>(Ox v).trans (AMQ v)) (AA AWH trivial)
def UB:Env:=T4.ext 41 true true (AH 2 TF TE TD NY)
theorem Re:Af Tryz.prog UB:=Env.Ai RT AHX (fun _=>AQ rfl rfl) (fun _=>AO rfl rfl)
abbrev Acn:Hints:={  }
theorem AWL:∀ v,XZ v=AT Tryz.prog UB Acn Tryz.f168 AHd AHc AHb v:=by
 rintro⟨a0,a1,⟨⟩⟩
 kernel_rfl
theorem Acm:AD (AW Tryz.f168) 0=[]:=by kernel_rfl
theorem AQ8:AU Tryz.prog 168 (AH 2 AHd AHc AHb ED):=AN Re Tryz.func168 (by kernel_rfl) (by kernel_rfl) rfl (fun v=>(AMT v).trans (AWL v)) (AA Acm trivial)
def Rf:Env:=UB.ext 168 true true (AH 2 AHd AHc AHb ED)
theorem K8:Af Tryz.prog Rf:=Env.Ai Re AQ8 (fun _=>AQ rfl rfl) (fun _=>AO rfl rfl)
abbrev AAj:Hints:={ loop:=fun n=>match n with|0=>Ad 1 49 ATq ATo Na|1=>Ad 1 49 ATp ATn NZ|_=>fun _ _ _=>none,fp:=fun n=>match n with|4=>[[],[],[],[],[],[],[0],[0],[],[],[],[0],[0],[],[]]|6=>[[],[],[],[],[],[],[],[],[0],[0],[],[],[0],[0],[0],[1],[0],[1]]|_=>[] }
theorem ARP:∀ v,NZ v=roundOf Tryz.prog Rf AAj 2 1 49 (AB Tryz.f162 1) ATp ATn v:=by
 rintro⟨a0,a1,a2,a3,a4,⟨⟩⟩
 kernel_rfl
theorem Acx:AD (AB Tryz.f162 1) 2=[]:=by kernel_rfl
theorem Acz:Ab Tryz.prog 1 (.loop (AB Tryz.f162 1)) (AAj.loop 1):=AX K8 (ARP) (AA Acx trivial)
theorem ARQ:∀ v,Na v=roundOf Tryz.prog Rf AAj 1 1 49 (AB Tryz.f162 0) ATq ATo v:=by
 rintro⟨a0,a1,a2,a3,⟨⟩⟩
 kernel_rfl
theorem Acy:AD (AB Tryz.f162 0) 1=[(1,AB Tryz.f162 1)]:=by kernel_rfl
theorem Ac0:Ab Tryz.prog 1 (.loop (AB Tryz.f162 0)) (AAj.loop 0):=AX K8 (ARQ) (AA Acy ⟨Acz,trivial⟩)
theorem AaS:∀ v,AHn v=AT Tryz.prog Rf AAj Tryz.f162 ART ARS ARR v:=by
 rintro⟨a0,a1,a2,⟨⟩⟩
 kernel_rfl
theorem AeT:AD (AW Tryz.f162) 0=[(0,AB Tryz.f162 0)]:=by kernel_rfl
theorem AWV:AU Tryz.prog 162 (AH 3 ART ARS ARR AWW):=AN K8 Tryz.func162 (by kernel_rfl) (by kernel_rfl) rfl (fun v=>(ATr v).trans (AaS v)) (AA AeT ⟨Ac0,trivial⟩)
def AJN:Env:=Rf.ext 162 false true (AH 3 ART ARS ARR AWW)
theorem UD:Af Tryz.prog AJN:=Env.Ai K8 AWV ((by simp)) (fun _=>AO rfl rfl)
abbrev AF0:Hints:={ loop:=fun n=>match n with|0=>Ad 1 76 AKF AKE JU|_=>fun _ _ _=>none,fp:=fun n=>match n with|6=>[[],[],[],[],[],[],[],[],[],[],[],[],[0],[0],[],[],[],[],[0],[0],[0],[1],[0],[1]]|5=>[[],[],[],[],[0],[0],[],[],[],[],[0],[0],[],[]]|3=>[[],[],[],[],[],[],[],[],[],[0],[0],[],[],[],[],[],[0],[0],[],[]]|_=>[] }
theorem AKD:∀ v,JU v=roundOf Tryz.prog AJN AF0 1 1 76 (AB Tryz.f189 0) AKF AKE v:=by
 rintro⟨a0,a1,a2,a3,⟨⟩⟩
 kernel_rfl
theorem AYY:AD (AB Tryz.f189 0) 1=[]:=by kernel_rfl
theorem AYZ:Ab Tryz.prog 1 (.loop (AB Tryz.f189 0)) (AF0.loop 0):=AX UD (AKD) (AA AYY trivial)
theorem AUv:∀ v,XI v=AT Tryz.prog AJN AF0 Tryz.f189 AFz AFy AFx v:=by
 rintro⟨a0,a1,a2,a3,⟨⟩⟩
 kernel_rfl
theorem Ab2:AD (AW Tryz.f189) 0=[(0,AB Tryz.f189 0)]:=by kernel_rfl
theorem AOo:AU Tryz.prog 189 (AH 4 AFz AFy AFx ADr):=AN UD Tryz.func189 (by kernel_rfl) (by kernel_rfl) rfl (fun v=>(AKG v).trans (AUv v)) (AA Ab2 ⟨AYZ,trivial⟩)
def RQ:Env:=AJN.ext 189 false true (AH 4 AFz AFy AFx ADr)
theorem K6:Af Tryz.prog RQ:=Env.Ai UD AOo ((by simp)) (fun _=>AO rfl rfl)
abbrev Qr:Hints:={ loop:=fun n=>match n with|0=>Ad 1 56 AMq AMo Jl|1=>Ad 1 56 AMp AMn Jk|_=>fun _ _ _=>none,fp:=fun n=>match n with|10=>[[],[],[],[],[],[],[],[],[],[],[0],[0],[],[],[0],[0],[0],[1],[0],[1]]|_=>[] }
theorem AMl:∀ v,Jk v=roundOf Tryz.prog RQ Qr 2 1 56 (AB Tryz.f163 1) AMp AMn v:=by
 rintro⟨a0,a1,a2,a3,⟨⟩⟩
 kernel_rfl
theorem Aag:AD (AB Tryz.f163 1) 2=[]:=by kernel_rfl
theorem Aai:Ab Tryz.prog 1 (.loop (AB Tryz.f163 1)) (Qr.loop 1):=AX K6 (AMl) (AA Aag trivial)
theorem AMm:∀ v,Jl v=roundOf Tryz.prog RQ Qr 1 1 56 (AB Tryz.f163 0) AMq AMo v:=by
 rintro⟨a0,a1,a2,a3,a4,⟨⟩⟩
 kernel_rfl
theorem Aah:AD (AB Tryz.f163 0) 1=[]:=by kernel_rfl
theorem Aaj:Ab Tryz.prog 1 (.loop (AB Tryz.f163 0)) (Qr.loop 0):=AX K6 (AMm) (AA Aah trivial)
theorem AWk:∀ v,Xb v=AT Tryz.prog RQ Qr Tryz.f163 AHy AHx AHw v:=by
 rintro⟨a0,a1,a2,⟨⟩⟩
 kernel_rfl
theorem Ac9:AD (AW Tryz.f163) 0=[(0,AB Tryz.f163 0),(1,AB Tryz.f163 1)]:=by kernel_rfl
theorem ARZ:AU Tryz.prog 163 (AH 3 AHy AHx AHw AEe):=AN K6 Tryz.func163 (by kernel_rfl) (by kernel_rfl) rfl (fun v=>(AMr v).trans (AWk v)) (AA Ac9 ⟨Aaj,Aai,trivial⟩)
def Xn:Env:=RQ.ext 163 false true (AH 3 AHy AHx AHw AEe)
theorem Pc:Af Tryz.prog Xn:=Env.Ai K6 ARZ ((by simp)) (fun _=>AO rfl rfl)
abbrev ABk:Hints:={ loop:=fun n=>match n with|0=>Ad 1 65 AEt AEs GH|_=>fun _ _ _=>none,fp:=fun n=>match n with|10=>[[],[],[],[],[],[],[],[],[],[],[0],[0],[],[],[0],[0],[0],[1],[0],[1]]|_=>[] }
theorem AIs:∀ v,GH v=roundOf Tryz.prog Xn ABk 1 1 65 (AB Tryz.f164 0) AEt AEs v:=by
 rintro⟨a0,a1,a2,a3,a4,a5,⟨⟩⟩
 kernel_rfl
theorem AXZ:AD (AB Tryz.f164 0) 1=[]:=by kernel_rfl
theorem AXa:Ab Tryz.prog 1 (.loop (AB Tryz.f164 0)) (ABk.loop 0):=AX Pc (AIs) (AA AXZ trivial)
theorem ASZ:∀ v,RD v=AT Tryz.prog Xn ABk Tryz.f164 ABj ABi ABh v:=by
 rintro⟨a0,a1,a2,⟨⟩⟩
 kernel_rfl
theorem AbR:AD (AW Tryz.f164) 0=[(0,AB Tryz.f164 0)]:=by kernel_rfl
theorem ANp:AU Tryz.prog 164 (AH 3 ABj ABi ABh Tq):=AN Pc Tryz.func164 (by kernel_rfl) (by kernel_rfl) rfl (fun v=>(AEu v).trans (ASZ v)) (AA AbR ⟨AXa,trivial⟩)
def ACL:Env:=Xn.ext 164 false true (AH 3 ABj ABi ABh Tq)
theorem Wa:Af Tryz.prog ACL:=Env.Ai Pc ANp ((by simp)) (fun _=>AO rfl rfl)
abbrev AVk:Hints:={ fp:=fun n=>match n with|1=>[[],[],[0],[0],[],[],[0],[0],[]]|_=>[] }
theorem AL4:∀ v,NJ v=AT Tryz.prog ACL AVk Tryz.f205 Sm Sl Sk v:=by
 rintro⟨a0,a1,a2,a3,⟨⟩⟩
 kernel_rfl
theorem AVj:AD (AW Tryz.f205) 0=[]:=by kernel_rfl
theorem AG6:AU Tryz.prog 205 (AH 4 Sm Sl Sk KP):=AN Wa Tryz.func205 (by kernel_rfl) (by kernel_rfl) rfl (fun v=>(Z4 v).trans (AL4 v)) (AA AVj trivial)
def T6:Env:=ACL.ext 205 false true (AH 4 Sm Sl Sk KP)
theorem RX:Af Tryz.prog T6:=Env.Ai Wa AG6 ((by simp)) (fun _=>AO rfl rfl)
abbrev AV1:Hints:={  }
theorem AME:∀ v,NQ v=AT Tryz.prog T6 AV1 Tryz.f193 Sy Sx Sw v:=by
 rintro⟨a0,a1,a2,a3,a4,⟨⟩⟩
 kernel_rfl
theorem AV0:AD (AW Tryz.f193) 0=[]:=by kernel_rfl
theorem AHL:AU Tryz.prog 193 (AH 5 Sy Sx Sw KW):=AN RX Tryz.func193 (by kernel_rfl) (by kernel_rfl) rfl (fun v=>(AAC v).trans (AME v)) (AA AV0 trivial)
def T8:Env:=T6.ext 193 false true (AH 5 Sy Sx Sw KW)
theorem RZ:Af Tryz.prog T8:=Env.Ai RX AHL ((by simp)) (fun _=>AO rfl rfl)
abbrev AV5:Hints:={  }
theorem AMG:∀ v,NT v=AT Tryz.prog T8 AV5 Tryz.f192 S5 S4 S3 v:=by
 rintro⟨a0,a1,a2,⟨⟩⟩
 kernel_rfl
theorem AV4:AD (AW Tryz.f192) 0=[]:=by kernel_rfl
theorem AHO:AU Tryz.prog 192 (AH 3 S5 S4 S3 KX):=AN RZ Tryz.func192 (by kernel_rfl) (by kernel_rfl) rfl (fun v=>(AAD v).trans (AMG v)) (AA AV4 trivial)
def UA:Env:=T8.ext 192 false true (AH 3 S5 S4 S3 KX)
theorem Rb:Af Tryz.prog UA:=Env.Ai RZ AHO ((by simp)) (fun _=>AO rfl rfl)
end
end Go.Pev
end
section
namespace Go.Pev
open Go.Proofs
noncomputable section
abbrev AY7:Hints:={  }
theorem APn:∀ v,QA v=AT Tryz.prog UA AY7 Tryz.f165 ZO ZN ZM v:=by
 rintro⟨a0,a1,a2,⟨⟩⟩
 kernel_rfl
theorem AY6:AD (AW Tryz.f165) 0=[]:=by kernel_rfl
theorem AKl:AU Tryz.prog 165 (AH 3 ZO ZN ZM SW):=AN Rb Tryz.func165 (by kernel_rfl) (by kernel_rfl) rfl (fun v=>(AEC v).trans (APn v)) (AA AY6 trivial)
def RV:Env:=UA.ext 165 false true (AH 3 ZO ZN ZM SW)
theorem Mu:Af Tryz.prog RV:=Env.Ai Rb AKl ((by simp)) (fun _=>AO rfl rfl)
abbrev APH:Hints:={ loop:=fun n=>match n with|0=>Ad 1 32 ATD ATC Pz|_=>fun _ _ _=>none,fp:=fun n=>match n with|3=>[[],[],[],[],[],[],[0],[0],[],[],[0],[0],[0],[1],[0],[1]]|_=>[] }
theorem APD:∀ v,Pz v=roundOf Tryz.prog RV APH 1 1 32 (AB Tryz.f166 0) ATD ATC v:=by
 rintro⟨a0,a1,a2,⟨⟩⟩
 kernel_rfl
theorem AcA:AD (AB Tryz.f166 0) 1=[]:=by kernel_rfl
theorem AcB:Ab Tryz.prog 1 (.loop (AB Tryz.f166 0)) (APH.loop 0):=AX Mu (APD) (AA AcA trivial)
theorem AYn:∀ v,AGE v=AT Tryz.prog RV APH Tryz.f166 APG APF APE v:=by
 rintro⟨a0,a1,a2,⟨⟩⟩
 kernel_rfl
theorem Adz:AD (AW Tryz.f166) 0=[(0,AB Tryz.f166 0)]:=by kernel_rfl
theorem AU7:AU Tryz.prog 166 (AH 3 APG APF APE AU9):=AN Mu Tryz.func166 (by kernel_rfl) (by kernel_rfl) rfl (fun v=>(ATE v).trans (AYn v)) (AA Adz ⟨AcB,trivial⟩)
def PZ:Env:=RV.ext 166 false true (AH 3 APG APF APE AU9)
theorem Hb:Af Tryz.prog PZ:=Env.Ai Mu AU7 ((by simp)) (fun _=>AO rfl rfl)
abbrev Cy:Hints:={ loop:=fun n=>match n with|0=>Ad 1 133 VY VU CR|1=>Ad 1 133 VX VT Ge|2=>Ad 1 133 VW VS Ev|3=>Ad 1 133 VV VR Eu|_=>fun _ _ _=>none,fp:=fun n=>match n with|11=>[[],[],[],[],[],[],[],[],[0],[0],[],[],[0],[0],[0],[1],[0],[1]]|5=>[[],[],[],[],[],[],[0],[0],[],[],[],[0],[0],[],[],[]]|17=>[[],[],[],[],[],[],[],[],[0],[0],[],[],[0],[0],[0],[1],[0],[1]]|16=>[[],[],[0],[0],[],[],[],[0],[0],[],[]]|23=>[[],[],[],[],[],[],[],[],[0],[0],[],[],[0],[0],[0],[1],[0],[1]]|22=>[[],[],[0],[0],[],[],[],[0],[0],[],[]]|_=>[] }
theorem Zj:∀ v,Eu v=roundOf Tryz.prog PZ Cy 4 1 133 (AB Tryz.f167 3) VV VR v:=by
 rintro⟨a0,a1,a2,a3,a4,a5,⟨⟩⟩
 kernel_rfl
theorem ALR:AD (AB Tryz.f167 3) 4=[]:=by kernel_rfl
theorem ALV:Ab Tryz.prog 1 (.loop (AB Tryz.f167 3)) (Cy.loop 3):=AX Hb (Zj) (AA ALR trivial)
theorem Zk:∀ v,Ev v=roundOf Tryz.prog PZ Cy 3 1 133 (AB Tryz.f167 2) VW VS v:=by
 rintro⟨a0,a1,a2,a3,a4,a5,⟨⟩⟩
 kernel_rfl
theorem ALS:AD (AB Tryz.f167 2) 3=[]:=by kernel_rfl
theorem ALW:Ab Tryz.prog 1 (.loop (AB Tryz.f167 2)) (Cy.loop 2):=AX Hb (Zk) (AA ALS trivial)
theorem Zl:∀ v,Ge v=roundOf Tryz.prog PZ Cy 2 1 133 (AB Tryz.f167 1) VX VT v:=by
 rintro⟨a0,a1,a2,a3,a4,⟨⟩⟩
 kernel_rfl
theorem ALT:AD (AB Tryz.f167 1) 2=[]:=by kernel_rfl
theorem ALX:Ab Tryz.prog 1 (.loop (AB Tryz.f167 1)) (Cy.loop 1):=AX Hb (Zl) (AA ALT trivial)
theorem Zm:∀ v,CR v=roundOf Tryz.prog PZ Cy 1 1 133 (AB Tryz.f167 0) VY VU v:=by
 rintro⟨a0,a1,a2,a3,a4,⟨⟩⟩
 kernel_rfl
theorem ALU:AD (AB Tryz.f167 0) 1=[(1,AB Tryz.f167 1),(2,AB Tryz.f167 2),(3,AB Tryz.f167 3)]:=by kernel_rfl
theorem ALY:Ab Tryz.prog 1 (.loop (AB Tryz.f167 0)) (Cy.loop 0):=AX Hb (Zm) (AA ALU ⟨ALX,ALW,ALV,trivial⟩)
theorem AGu:∀ v,KK v=AT Tryz.prog PZ Cy Tryz.f167 On Om Ol v:=by
 rintro⟨a0,a1,a2,⟨⟩⟩
 kernel_rfl
theorem AP7:AD (AW Tryz.f167) 0=[(0,AB Tryz.f167 0)]:=by kernel_rfl
theorem ACm:AU Tryz.prog 167 (AH 3 On Om Ol Ja):=AN Hb Tryz.func167 (by kernel_rfl) (by kernel_rfl) rfl (fun v=>(VZ v).trans (AGu v)) (AA AP7 ⟨ALY,trivial⟩)
def GM:Env:=PZ.ext 167 false true (AH 3 On Om Ol Ja)
theorem EJ:Af Tryz.prog GM:=Env.Ai Hb ACm ((by simp)) (fun _=>AO rfl rfl)
abbrev Fs:Hints:={ loop:=fun n=>match n with|0=>Ad 1 84 Z1 Zy Hx|1=>Ad 1 84 Z0 Zx Hw|2=>Ad 1 84 Zz Zw Hv|_=>fun _ _ _=>none,fp:=fun n=>match n with|8=>[[],[],[],[],[],[],[0],[0],[],[],[0],[0],[0],[1],[0],[1]]|3=>[[],[],[],[],[],[],[0],[0],[],[],[0],[0],[],[],[]]|5=>[[],[],[],[],[],[],[0],[0],[],[],[0],[0],[],[]]|1=>[[],[],[],[],[],[],[0],[0],[],[],[0],[0],[0],[1],[0],[1]]|_=>[] }
theorem ACw:∀ v,Hv v=roundOf Tryz.prog GM Fs 3 1 84 (AB Tryz.f169 2) Zz Zw v:=by
 rintro⟨a0,a1,a2,a3,⟨⟩⟩
 kernel_rfl
theorem AQI:AD (AB Tryz.f169 2) 3=[]:=by kernel_rfl
theorem AQL:Ab Tryz.prog 1 (.loop (AB Tryz.f169 2)) (Fs.loop 2):=AX EJ (ACw) (AA AQI trivial)
theorem ACy:∀ v,Hw v=roundOf Tryz.prog GM Fs 2 1 84 (AB Tryz.f169 1) Z0 Zx v:=by
 rintro⟨a0,a1,a2,a3,⟨⟩⟩
 kernel_rfl
theorem AQJ:AD (AB Tryz.f169 1) 2=[]:=by kernel_rfl
theorem AQM:Ab Tryz.prog 1 (.loop (AB Tryz.f169 1)) (Fs.loop 1):=AX EJ (ACy) (AA AQJ trivial)
theorem AC0:∀ v,Hx v=roundOf Tryz.prog GM Fs 1 1 84 (AB Tryz.f169 0) Z1 Zy v:=by
 rintro⟨a0,a1,a2,a3,⟨⟩⟩
 kernel_rfl
theorem AQK:AD (AB Tryz.f169 0) 1=[(1,AB Tryz.f169 1),(2,AB Tryz.f169 2)]:=by kernel_rfl
theorem AQN:Ab Tryz.prog 1 (.loop (AB Tryz.f169 0)) (Fs.loop 0):=AX EJ (AC0) (AA AQK ⟨AQM,AQL,trivial⟩)
theorem AL0:∀ v,NG v=AT Tryz.prog GM Fs Tryz.f169 Sg Sf Se v:=by
 rintro⟨a0,a1,a2,a3,⟨⟩⟩
 kernel_rfl
theorem AVf:AD (AW Tryz.f169) 0=[(0,AB Tryz.f169 0)]:=by kernel_rfl
theorem AG1:AU Tryz.prog 169 (AH 4 Sg Sf Se NH):=AN EJ Tryz.func169 (by kernel_rfl) (by kernel_rfl) rfl (fun v=>(Z2 v).trans (AL0 v)) (AA AVf ⟨AQN,trivial⟩)
def E2:Env:=GM.ext 169 false true (AH 4 Sg Sf Se NH)
theorem C6:Af Tryz.prog E2:=Env.Ai EJ AG1 ((by simp)) (fun _=>AO rfl rfl)
abbrev FA:Hints:={ loop:=fun n=>match n with|0=>Ad 1 168 ALs ALn L4|1=>Ad 1 168 ALr ALm L3|2=>Ad 1 168 ALq ALl L0|3=>Ad 1 168 ALp ALk Lz|4=>Ad 1 168 ALo ALj Ly|_=>fun _ _ _=>none,fp:=fun n=>match n with|3=>[[],[],[],[],[],[],[0],[0],[],[],[0],[0],[],[]]|5=>[[],[],[],[],[],[],[0],[0],[],[],[0],[0],[],[],[]]|18=>[[],[],[],[],[],[],[0],[0],[],[],[0],[0],[0],[1],[0],[1]]|13=>[[],[],[],[],[],[],[0],[0],[],[],[0],[0],[],[]]|15=>[[],[],[],[],[],[],[0],[0],[],[],[0],[0],[],[],[]]|21=>[[],[],[],[],[],[],[0],[0],[],[],[0],[0],[0],[1],[0],[1]]|10=>[[],[],[],[],[],[],[0],[0],[],[],[0],[0],[0],[1],[0],[1]]|8=>[[],[],[],[],[],[],[0],[0],[],[],[0],[0],[0],[1],[0],[1]]|1=>[[],[],[],[],[],[],[0],[0],[],[],[0],[0],[0],[1],[0],[1]]|_=>[] }
theorem ALa:∀ v,Ly v=roundOf Tryz.prog E2 FA 5 1 168 (AB Tryz.f170 4) ALo ALj v:=by
 rintro⟨a0,a1,a2,a3,⟨⟩⟩
 kernel_rfl
theorem AZh:AD (AB Tryz.f170 4) 5=[]:=by kernel_rfl
theorem AZm:Ab Tryz.prog 1 (.loop (AB Tryz.f170 4)) (FA.loop 4):=AX C6 (ALa) (AA AZh trivial)
theorem ALc:∀ v,Lz v=roundOf Tryz.prog E2 FA 4 1 168 (AB Tryz.f170 3) ALp ALk v:=by
 rintro⟨a0,a1,a2,a3,⟨⟩⟩
 kernel_rfl
theorem AZi:AD (AB Tryz.f170 3) 4=[]:=by kernel_rfl
theorem AZn:Ab Tryz.prog 1 (.loop (AB Tryz.f170 3)) (FA.loop 3):=AX C6 (ALc) (AA AZi trivial)
theorem ALe:∀ v,L0 v=roundOf Tryz.prog E2 FA 3 1 168 (AB Tryz.f170 2) ALq ALl v:=by
 rintro⟨a0,a1,a2,a3,⟨⟩⟩
 kernel_rfl
theorem AZj:AD (AB Tryz.f170 2) 3=[(3,AB Tryz.f170 3),(4,AB Tryz.f170 4)]:=by kernel_rfl
theorem AZo:Ab Tryz.prog 1 (.loop (AB Tryz.f170 2)) (FA.loop 2):=AX C6 (ALe) (AA AZj ⟨AZn,AZm,trivial⟩)
theorem ALf:∀ v,L3 v=roundOf Tryz.prog E2 FA 2 1 168 (AB Tryz.f170 1) ALr ALm v:=by
 rintro⟨a0,a1,a2,a3,⟨⟩⟩
 kernel_rfl
theorem AZk:AD (AB Tryz.f170 1) 2=[]:=by kernel_rfl
theorem AZp:Ab Tryz.prog 1 (.loop (AB Tryz.f170 1)) (FA.loop 1):=AX C6 (ALf) (AA AZk trivial)
theorem ALh:∀ v,L4 v=roundOf Tryz.prog E2 FA 1 1 168 (AB Tryz.f170 0) ALs ALn v:=by
 rintro⟨a0,a1,a2,a3,⟨⟩⟩
 kernel_rfl
theorem AZl:AD (AB Tryz.f170 0) 1=[]:=by kernel_rfl
theorem AZq:Ab Tryz.prog 1 (.loop (AB Tryz.f170 0)) (FA.loop 0):=AX C6 (ALh) (AA AZl trivial)
theorem AVc:∀ v,XR v=AT Tryz.prog E2 FA Tryz.f170 AGy AGx AGw v:=by
 rintro⟨a0,a1,a2,a3,⟨⟩⟩
 kernel_rfl
theorem AcW:AD (AW Tryz.f170) 0=[(0,AB Tryz.f170 0),(1,AB Tryz.f170 1),(2,AB Tryz.f170 2)]:=by kernel_rfl
theorem AP8:AU Tryz.prog 170 (AH 4 AGy AGx AGw QH):=AN C6 Tryz.func170 (by kernel_rfl) (by kernel_rfl) rfl (fun v=>(ALt v).trans (AVc v)) (AA AcW ⟨AZq,AZp,AZo,trivial⟩)
def AJK:Env:=E2.ext 170 false true (AH 4 AGy AGx AGw QH)
theorem ACB:Af Tryz.prog AJK:=Env.Ai C6 AP8 ((by simp)) (fun _=>AO rfl rfl)
abbrev AP1(self:(List Int×Int×Int×Int×Unit)→Option ((List Int×Unit))):Hints:={ loop:=fun n=>match n with|0=>Ad 1 134 ATN ATM (ND self)|_=>fun _ _ _=>none,fp:=fun n=>match n with|17=>[[],[],[],[],[],[],[0],[0],[],[],[0],[0],[],[],[]]|_=>[] }
abbrev AGk(self:(List Int×Int×Int×Int×Unit)→Option ((List Int×Unit))):Env:=AJK.ext 131 false true (AH 4 Zb Za ZZ self)
theorem AP0(self:(List Int×Int×Int×Int×Unit)→Option ((List Int×Unit))):∀ v,ND self v=roundOf Tryz.prog (AGk self) (AP1 self) 1 1 134 (AB Tryz.f131 0) ATN ATM v:=by
 rintro⟨a0,a1,a2,a3,a4,a5,⟨⟩⟩
 kernel_rfl
theorem AcP:AD (AB Tryz.f131 0) 1=[]:=by kernel_rfl
theorem AcQ(self:(List Int×Int×Int×Int×Unit)→Option ((List Int×Unit)))(hE:Af Tryz.prog (AGk self)):Ab Tryz.prog 1 (.loop (AB Tryz.f131 0)) ((AP1 self).loop 0):=AX hE (AP0 self) (AA AcP trivial)
theorem AZG(self:(List Int×Int×Int×Int×Unit)→Option ((List Int×Unit))):∀ v,AGj self v=AT Tryz.prog (AGk self) (AP1 self) Tryz.f131 Zb Za ZZ v:=by
 rintro⟨a0,a1,a2,a3,⟨⟩⟩
 kernel_rfl
theorem Ad5:AD (AW Tryz.f131) 0=[(0,AB Tryz.f131 0)]:=by kernel_rfl
theorem AP2:∀ n,AU Tryz.prog 131 (AH 4 Zb Za ZZ (Hu n)):=by
 intro n
 induction n with
 |zero=>exact Vr fun _=>rfl
 |succ n ih=>
  have hE:Af Tryz.prog (AGk (Hu n)):=Env.Ai ACB ih ((by simp)) (fun _=>AO rfl rfl)
  let self:=Hu n
  exact AN hE Tryz.func131 (by kernel_rfl) (by kernel_rfl) rfl (AZG self) (AA Ad5 ⟨(AcQ self hE),trivial⟩)
theorem AVS:AU Tryz.prog 131 (AH 4 Zb Za ZZ AVT):=by
 have e:AVT=Hu 100:=funext ATO
 rw[e]
 exact AP2 _
def ASq:Env:=AJK.ext 131 false true (AH 4 Zb Za ZZ AVT)
theorem AE3:Af Tryz.prog ASq:=Env.Ai ACB AVS ((by simp)) (fun _=>AO rfl rfl)
abbrev Ab0:Hints:={  }
theorem AUs:∀ v,XG v=AT Tryz.prog ASq Ab0 Tryz.f95 AFs AFr AFq v:=by
 rintro⟨a0,⟨⟩⟩
 kernel_rfl
theorem Abz:AD (AW Tryz.f95) 0=[]:=by kernel_rfl
theorem AOm:AU Tryz.prog 95 (AH 1 AFs AFr AFq AJ7):=AN AE3 Tryz.func95 (by kernel_rfl) (by kernel_rfl) rfl (fun v=>(AJ6 v).trans (AUs v)) (AA Abz trivial)
def Xl:Env:=ASq.ext 95 false true (AH 1 AFs AFr AFq AJ7)
theorem PX:Af Tryz.prog Xl:=Env.Ai AE3 AOm ((by simp)) (fun _=>AO rfl rfl)
abbrev MA:Hints:={ loop:=fun n=>match n with|0=>Ad 0 36 QR QQ Cz|_=>fun _ _ _=>none,fp:=fun n=>match n with|6=>[[],[],[2],[2],[],[],[2],[2],[]]|1=>[[0],[0],[0],[],[],[2],[]]|_=>[] }
theorem Wm:∀ v,Cz v=roundOf Tryz.prog Xl MA 1 0 36 (AB Tryz.f91 0) QR QQ v:=by
 rintro⟨a0,a1,a2,a3,a4,a5,⟨⟩⟩
 kernel_rfl
theorem AHH:AD (AB Tryz.f91 0) 1=[]:=by kernel_rfl
theorem AHI:Ab Tryz.prog 0 (.loop (AB Tryz.f91 0)) (MA.loop 0):=AX PX (Wm) (AA AHH trivial)
theorem AC5:∀ v,Ip v=AT Tryz.prog Xl MA Tryz.f91 L9 L8 L7 v:=by
 rintro⟨a0,a1,a2,⟨⟩⟩
 kernel_rfl
theorem AMC:AD (AW Tryz.f91) 0=[(0,AB Tryz.f91 0)]:=by kernel_rfl
theorem AAA:AU Tryz.prog 91 (AH 3 L9 L8 L7 Fu):=AN PX Tryz.func91 (by kernel_rfl) (by kernel_rfl) rfl (fun v=>(QS v).trans (AC5 v)) (AA AMC ⟨AHI,trivial⟩)
def Dh:Env:=Xl.ext 91 true true (AH 3 L9 L8 L7 Fu)
theorem Cq:Af Tryz.prog Dh:=Env.Ai PX AAA (fun _=>AQ rfl rfl) (fun _=>AO rfl rfl)
abbrev Dm:Hints:={ loop:=fun n=>match n with|0=>Ad 0 105 YR YN EV|1=>Ad 0 105 YQ YM EU|2=>Ad 0 105 YP YL DR|3=>Ad 0 105 YO YK DQ|_=>fun _ _ _=>none,fp:=fun n=>match n with|8=>[[],[],[2],[2],[],[],[4],[4],[]]|14=>[[0],[0],[0],[],[],[10],[]]|19=>[[4],[4],[],[],[4],[4],[],[],[],[],[],[4],[4],[2],[2],[],[4],[4],[2],[2],[],[]]|4=>[[0],[0],[0],[],[26],[]]|3=>[[0],[0],[0],[],[10],[]]|_=>[] }
theorem ACS:∀ v,DQ v=roundOf Tryz.prog Dh Dm 4 0 105 (AB Tryz.f34 3) YO YK v:=by
 rintro⟨a0,a1,a2,a3,a4,⟨⟩⟩
 kernel_rfl
theorem AOd:AD (AB Tryz.f34 3) 4=[]:=by kernel_rfl
theorem AOh:Ab Tryz.prog 0 (.loop (AB Tryz.f34 3)) (Dm.loop 3):=AX Cq (ACS) (AA AOd trivial)
theorem ACT:∀ v,DR v=roundOf Tryz.prog Dh Dm 3 0 105 (AB Tryz.f34 2) YP YL v:=by
 rintro⟨a0,a1,a2,a3,a4,a5,⟨⟩⟩
 kernel_rfl
theorem AOe:AD (AB Tryz.f34 2) 3=[]:=by kernel_rfl
theorem AOi:Ab Tryz.prog 0 (.loop (AB Tryz.f34 2)) (Dm.loop 2):=AX Cq (ACT) (AA AOe trivial)
theorem ACU:∀ v,EU v=roundOf Tryz.prog Dh Dm 2 0 105 (AB Tryz.f34 1) YQ YM v:=by
 rintro⟨a0,a1,a2,a3,⟨⟩⟩
 kernel_rfl
theorem AOf:AD (AB Tryz.f34 1) 2=[(2,AB Tryz.f34 2),(3,AB Tryz.f34 3)]:=by kernel_rfl
theorem AOj:Ab Tryz.prog 0 (.loop (AB Tryz.f34 1)) (Dm.loop 1):=AX Cq (ACU) (AA AOf ⟨AOi,AOh,trivial⟩)
theorem ACV:∀ v,EV v=roundOf Tryz.prog Dh Dm 1 0 105 (AB Tryz.f34 0) YR YN v:=by
 rintro⟨a0,a1,a2,a3,a4,⟨⟩⟩
 kernel_rfl
theorem AOg:AD (AB Tryz.f34 0) 1=[]:=by kernel_rfl
theorem AOk:Ab Tryz.prog 0 (.loop (AB Tryz.f34 0)) (Dm.loop 0):=AX Cq (ACV) (AA AOg trivial)
theorem AJ1:∀ v,JT v=AT Tryz.prog Dh Dm Tryz.f34 R8 R7 R6 v:=by
 rintro⟨a0,⟨⟩⟩
 kernel_rfl
theorem AUo:AD (AW Tryz.f34) 0=[(0,AB Tryz.f34 0),(1,AB Tryz.f34 1)]:=by kernel_rfl
theorem AFm:AU Tryz.prog 34 (AH 1 R8 R7 R6 KC):=AN Cq Tryz.func34 (by kernel_rfl) (by kernel_rfl) rfl (fun v=>(OW v).trans (AJ1 v)) (AA AUo ⟨AOk,AOj,trivial⟩)
def Nu:Env:=Dh.ext 34 true true (AH 1 R8 R7 R6 KC)
theorem K0:Af Tryz.prog Nu:=Env.Ai Cq AFm (fun _=>AQ rfl rfl) (fun _=>AO rfl rfl)
abbrev ASh:Hints:={ loop:=fun n=>match n with|0=>Ad 0 49 AUA AT9 Kt|_=>fun _ _ _=>none,fp:=fun n=>match n with|5=>[[],[],[],[],[],[0],[],[]]|8=>[[],[],[],[],[],[],[],[],[],[],[0],[],[],[],[],[]]|_=>[] }
theorem ASd:∀ v,Kt v=roundOf Tryz.prog Nu ASh 1 0 49 (AB Tryz.f132 0) AUA AT9 v:=by
 rintro⟨a0,a1,a2,a3,a4,a5,a6,a7,⟨⟩⟩
 kernel_rfl
theorem AdY:AD (AB Tryz.f132 0) 1=[]:=by kernel_rfl
theorem AdZ:Ab Tryz.prog 0 (.loop (AB Tryz.f132 0)) (ASh.loop 0):=AX K0 (ASd) (AA AdY trivial)
theorem AbU:∀ v,AIv v=AT Tryz.prog Nu ASh Tryz.f132 ASg ASf ASe v:=by
 rintro⟨a0,a1,⟨⟩⟩
 kernel_rfl
theorem Aec:AD (AW Tryz.f132) 0=[(0,AB Tryz.f132 0)]:=by kernel_rfl
theorem AXe:AU Tryz.prog 132 (AH 3 ASg ASf ASe AXf):=AN K0 Tryz.func132 (by kernel_rfl) (by kernel_rfl) rfl (fun v=>(AUB v).trans (AbU v)) (AA Aec ⟨AdZ,trivial⟩)
def ASw:Env:=Nu.FL 132 2 98 (AH 3 ASg ASf ASe AXf)
theorem AE8:Af Tryz.prog ASw:=Env.Bc K0 AXe (AO rfl rfl)
abbrev AaG:Hints:={  }
theorem AQ2:∀ v,QU v=AT Tryz.prog ASw AaG Tryz.f99 AAT AAS AAR v:=by
 rintro⟨a0,a1,a2,⟨⟩⟩
 kernel_rfl
theorem AaF:AD (AW Tryz.f99) 0=[]:=by kernel_rfl
theorem AMN:AU Tryz.prog 99 (AH 3 AAT AAS AAR AHT):=AN AE8 Tryz.func99 (by kernel_rfl) (by kernel_rfl) rfl (fun v=>(AEQ v).trans (AQ2 v)) (AA AaF trivial)
def ACD:Env:=ASw.ext 99 true true (AH 3 AAT AAS AAR AHT)
theorem WU:Af Tryz.prog ACD:=Env.Ai AE8 AMN (fun _=>AQ rfl rfl) (fun _=>AO rfl rfl)
abbrev Acl:Hints:={  }
theorem AWK:∀ v,XY v=AT Tryz.prog ACD Acl Tryz.f51 AHa AHZ AHY v:=by
 rintro⟨a0,a1,a2,⟨⟩⟩
 kernel_rfl
theorem Ack:AD (AW Tryz.f51) 0=[]:=by kernel_rfl
theorem AQ7:AU Tryz.prog 51 (AH 3 AHa AHZ AHY AMS):=AN WU Tryz.func51 (by kernel_rfl) (by kernel_rfl) rfl (fun v=>(AMR v).trans (AWK v)) (AA Ack trivial)
def AUN:Env:=ACD.ext 51 true true (AH 3 AHa AHZ AHY AMS)
theorem ASv:Af Tryz.prog AUN:=Env.Ai WU AQ7 (fun _=>AQ rfl rfl) (fun _=>AO rfl rfl)
end
end Go.Pev
end
section
namespace Go.Pev
open Go.Proofs
noncomputable section
theorem AbM : (Tryz.f144.name == "runtime.NumGoroutine") = false := by kernel_rfl
theorem AIc:ACO Tryz.prog Tryz.f144 55 3 (.int .i64) where
 body:=by kernel_rfl
 nt:=by kernel_rfl
 res:=by kernel_rfl
 d:=⟨by kernel_rfl,by kernel_rfl,by kernel_rfl,by kernel_rfl,by kernel_rfl,by kernel_rfl,by kernel_rfl,by kernel_rfl⟩
 g:=⟨by kernel_rfl,by kernel_rfl,by kernel_rfl,by kernel_rfl,by kernel_rfl,by kernel_rfl,by kernel_rfl,by kernel_rfl⟩
 o00:=by kernel_rfl
 o10:=by kernel_rfl
 o11:=by kernel_rfl
 o20:=by kernel_rfl
 o30:=by kernel_rfl
 o31:=by kernel_rfl
 o32:=by kernel_rfl
 o33:=by kernel_rfl
 sl:=by kernel_rfl
 z:=by kernel_rfl
 by1:=by kernel_rfl
def ACJ:Env:=AUN.ext 144 true true (HW 3 (.int .i64))
theorem WY:Af Tryz.prog ACJ:=Env.Ai ASv (AbL AIc Tryz.func144 AbM) (fun _=>LV _ _) (fun _=>(LV _ _).Aew)
theorem AQo:Tryz.f145.body.isSome=true:=by kernel_rfl
theorem AQn : (Tryz.f145.name == "runtime.NumGoroutine") = false := by kernel_rfl
theorem AQm:loops (AW Tryz.f145)=0:=by kernel_rfl
def HP:Env:=ACJ.ext 145 false false (C8 Tryz.prog ACJ {} Tryz.f145)
theorem G4:Af Tryz.prog HP:=Env.Ai WY (Cs WY Tryz.func145 AQo AQn AQm) (by simp) (by simp)
abbrev IE:Hints:={ loop:=fun n=>match n with|0=>Ad 2 19 LO LN Bk|_=>fun _ _ _=>none }
theorem O9:∀ v,Bk v=roundOf Tryz.prog HP IE 1 2 19 (AB Tryz.f174 0) LO LN v:=by
 rintro⟨a0,a1,a2,a3,a4,⟨⟩⟩
 kernel_rfl
theorem Wq:AD (AB Tryz.f174 0) 1=[]:=by kernel_rfl
theorem Wr:Ab Tryz.prog 2 (.loop (AB Tryz.f174 0)) (IE.loop 0):=AX G4 (O9) (AA Wq trivial)
theorem TM:∀ v,FK v=AT Tryz.prog HP IE Tryz.f174 ID IC IB v:=by
 rintro⟨a0,a1,a2,⟨⟩⟩
 kernel_rfl
theorem AAq:AD (AW Tryz.f174) 0=[(0,AB Tryz.f174 0)]:=by kernel_rfl
theorem Qo:AU Tryz.prog 174 (AH 2 ID IC IB HE):=AN G4 Tryz.func174 (by kernel_rfl) (by kernel_rfl) rfl (fun v=>(LP v).trans (TM v)) (AA AAq ⟨Wr,trivial⟩)
def FY:Env:=HP.FL 174 1 145 (AH 2 ID IC IB HE)
theorem FX:Af Tryz.prog FY:=Env.Bc G4 Qo (AO rfl rfl)
abbrev IQ:Hints:={ loop:=fun n=>match n with|0=>Ad 2 42 LS LR CO|_=>fun _ _ _=>none }
theorem PN:∀ v,CO v=roundOf Tryz.prog FY IQ 1 2 42 (AB Tryz.f143 0) LS LR v:=by
 rintro⟨a0,a1,a2,a3,a4,⟨⟩⟩
 kernel_rfl
theorem Wv:AD (AB Tryz.f143 0) 1=[]:=by kernel_rfl
theorem Ww:Ab Tryz.prog 2 (.loop (AB Tryz.f143 0)) (IQ.loop 0):=AX FX (PN) (AA Wv trivial)
theorem Td:∀ v,FO v=AT Tryz.prog FY IQ Tryz.f143 IP IN IM v:=by
 rintro⟨a0,a1,a2,⟨⟩⟩
 kernel_rfl
theorem ABE:AD (AW Tryz.f143) 0=[(0,AB Tryz.f143 0)]:=by kernel_rfl
theorem Q0:AU Tryz.prog 143 (AH 2 IP IN IM FP):=AN FX Tryz.func143 (by kernel_rfl) (by kernel_rfl) rfl (fun v=>(LU v).trans (Td v)) (AA ABE ⟨Ww,trivial⟩)
def Ic:Env:=FY.FL 143 1 145 (JS (AH 2 IP IN IM FP))
theorem JE:Af Tryz.prog Ic:=Env.Bc FX (UP Q0) (AS3 rfl rfl)
abbrev ARp:Hints:={ fp:=fun n=>match n with|4=>[[0],[0],[0],[],[],[],[],[],[],[1000005,21,1],[]]|_=>[] }
theorem AII:∀ v,Ki v=AT Tryz.prog Ic ARp Tryz.f112 PH PG PF v:=by
 rintro⟨a0,a1,⟨⟩⟩
 kernel_rfl
theorem ARo:AD (AW Tryz.f112) 0=[]:=by kernel_rfl
theorem ADD:AU Tryz.prog 112 (AH 2 PH PG PF IG):=AN JE Tryz.func112 (by kernel_rfl) (by kernel_rfl) rfl (fun v=>(Vz v).trans (AII v)) (AA ARo trivial)
def Pd:Env:=Ic.ext 112 true true (AH 2 PH PG PF IG)
theorem OL:Af Tryz.prog Pd:=Env.Ai JE ADD (fun _=>AQ rfl rfl) (fun _=>AO rfl rfl)
abbrev AdC:Hints:={  }
theorem AWs:∀ v,Xe v=AT Tryz.prog Pd AdC Tryz.f140 AH8 AH7 AH6 v:=by
 rintro⟨a0,⟨⟩⟩
 kernel_rfl
theorem AdB:AD (AW Tryz.f140) 0=[]:=by kernel_rfl
theorem ARc:AU Tryz.prog 140 (AH 2 AH8 AH7 AH6 AM1):=AN OL Tryz.func140 (by kernel_rfl) (by kernel_rfl) rfl (fun v=>(AM0 v).trans (AWs v)) (AA AdB trivial)
def Rh:Env:=Pd.ext 140 false true (AH 2 AH8 AH7 AH6 AM1)
theorem LB:Af Tryz.prog Rh:=Env.Ai OL ARc ((by simp)) (fun _=>AO rfl rfl)
abbrev Jw:Hints:={ loop:=fun n=>match n with|0=>Ad 0 36 ABO ABM Eg|1=>Ad 0 36 ABN ABL Ef|_=>fun _ _ _=>none }
theorem ADK:∀ v,Ef v=roundOf Tryz.prog Rh Jw 2 0 36 (AB Tryz.f108 1) ABN ABL v:=by
 rintro⟨a0,a1,a2,a3,⟨⟩⟩
 kernel_rfl
theorem ASD:AD (AB Tryz.f108 1) 2=[]:=by kernel_rfl
theorem ASF:Ab Tryz.prog 0 (.loop (AB Tryz.f108 1)) (Jw.loop 1):=AX LB (ADK) (AA ASD trivial)
theorem ADL:∀ v,Eg v=roundOf Tryz.prog Rh Jw 1 0 36 (AB Tryz.f108 0) ABO ABM v:=by
 rintro⟨a0,a1,a2,a3,a4,⟨⟩⟩
 kernel_rfl
theorem ASE:AD (AB Tryz.f108 0) 1=[]:=by kernel_rfl
theorem ASG:Ab Tryz.prog 0 (.loop (AB Tryz.f108 0)) (Jw.loop 0):=AX LB (ADL) (AA ASE trivial)
theorem ANZ:∀ v,Nh v=AT Tryz.prog Rh Jw Tryz.f108 Tj Ti Th v:=by
 rintro⟨a0,⟨⟩⟩
 kernel_rfl
theorem AXK:AD (AW Tryz.f108) 0=[(0,AB Tryz.f108 0),(1,AB Tryz.f108 1)]:=by kernel_rfl
theorem AIW:AU Tryz.prog 108 (AH 1 Tj Ti Th Ni):=AN LB Tryz.func108 (by kernel_rfl) (by kernel_rfl) rfl (fun v=>(ABP v).trans (ANZ v)) (AA AXK ⟨ASG,ASF,trivial⟩)
def UI:Env:=Rh.ext 108 true true (AH 1 Tj Ti Th Ni)
theorem Rl:Af Tryz.prog UI:=Env.Ai LB AIW (fun _=>AQ rfl rfl) (fun _=>AO rfl rfl)
theorem AdH:Tryz.f116.body.isSome=true:=by kernel_rfl
theorem AdG : (Tryz.f116.name == "runtime.NumGoroutine") = false := by kernel_rfl
theorem AdF:loops (AW Tryz.f116)=0:=by kernel_rfl
def Nw:Env:=UI.ext 116 false false (C8 Tryz.prog UI {} Tryz.f116)
theorem LD:Af Tryz.prog Nw:=Env.Ai Rl (Cs Rl Tryz.func116 AdH AdG AdF) (by simp) (by simp)
abbrev Ke:Hints:={ loop:=fun n=>match n with|0=>Ad 3 19 OC OB CF|_=>fun _ _ _=>none }
theorem TN:∀ v,CF v=roundOf Tryz.prog Nw Ke 1 3 19 (AB Tryz.f147 0) OC OB v:=by
 rintro⟨a0,a1,a2,a3,⟨⟩⟩
 kernel_rfl
theorem ADA:AD (AB Tryz.f147 0) 1=[]:=by kernel_rfl
theorem ADB:Ab Tryz.prog 3 (.loop (AB Tryz.f147 0)) (Ke.loop 0):=AX LD (TN) (AA ADA trivial)
theorem AAr:∀ v,HF v=AT Tryz.prog Nw Ke Tryz.f147 Kd Kc Kb v:=by
 rintro⟨a0,a1,⟨⟩⟩
 kernel_rfl
theorem AHs:AD (AW Tryz.f147) 0=[(0,AB Tryz.f147 0)]:=by kernel_rfl
theorem Ws:AU Tryz.prog 147 (AH 2 Kd Kc Kb Kf):=AN LD Tryz.func147 (by kernel_rfl) (by kernel_rfl) rfl (fun v=>(OD v).trans (AAr v)) (AA AHs ⟨ADB,trivial⟩)
def HQ:Env:=Nw.FL 147 1 116 (AH 2 Kd Kc Kb Kf)
theorem G5:Af Tryz.prog HQ:=Env.Bc LD Ws (AO rfl rfl)
abbrev Kr:Hints:={ loop:=fun n=>match n with|0=>Ad 3 42 OH OG DF|_=>fun _ _ _=>none }
theorem Te:∀ v,DF v=roundOf Tryz.prog HQ Kr 1 3 42 (AB Tryz.f115 0) OH OG v:=by
 rintro⟨a0,a1,a2,a3,⟨⟩⟩
 kernel_rfl
theorem ADG:AD (AB Tryz.f115 0) 1=[]:=by kernel_rfl
theorem ADH:Ab Tryz.prog 3 (.loop (AB Tryz.f115 0)) (Kr.loop 0):=AX G5 (Te) (AA ADG trivial)
theorem ABF:∀ v,HJ v=AT Tryz.prog HQ Kr Tryz.f115 Kq Kp Ko v:=by
 rintro⟨a0,a1,⟨⟩⟩
 kernel_rfl
theorem AIT:AD (AW Tryz.f115) 0=[(0,AB Tryz.f115 0)]:=by kernel_rfl
theorem Wx:AU Tryz.prog 115 (AH 2 Kq Kp Ko IS):=AN G5 Tryz.func115 (by kernel_rfl) (by kernel_rfl) rfl (fun v=>(OI v).trans (ABF v)) (AA AIT ⟨ADH,trivial⟩)
def HR:Env:=HQ.FL 115 1 116 (JS (AH 2 Kq Kp Ko IS))
theorem G6:Af Tryz.prog HR:=Env.Bc G5 (UP Wx) (AS3 rfl rfl)
abbrev AGa:Hints:={ loop:=fun n=>match n with|0=>Ad 0 51 AKp AKo EA|_=>fun _ _ _=>none,fp:=fun n=>match n with|10=>[[2],[6],[4],[],[5],[],[5]]|_=>[] }
theorem AKn:∀ v,EA v=roundOf Tryz.prog HR AGa 1 0 51 (AB Tryz.f64 0) AKp AKo v:=by
 rintro⟨a0,a1,a2,a3,a4,a5,⟨⟩⟩
 kernel_rfl
theorem AY8:AD (AB Tryz.f64 0) 1=[]:=by kernel_rfl
theorem AY9:Ab Tryz.prog 0 (.loop (AB Tryz.f64 0)) (AGa.loop 0):=AX G6 (AKn) (AA AY8 trivial)
theorem AVO:∀ v,QC v=AT Tryz.prog HR AGa Tryz.f64 AGZ AGY AGX v:=by
 rintro⟨a0,a1,⟨⟩⟩
 kernel_rfl
theorem AcJ:AD (AW Tryz.f64) 0=[(0,AB Tryz.f64 0)]:=by kernel_rfl
theorem APq:AU Tryz.prog 64 (AH 2 AGZ AGY AGX VB):=AN G6 Tryz.func64 (by kernel_rfl) (by kernel_rfl) rfl (fun v=>(ZP v).trans (AVO v)) (AA AcJ ⟨AY9,trivial⟩)
def AJH:Env:=HR.ext 64 true true (AH 2 AGZ AGY AGX VB)
theorem AB6:Af Tryz.prog AJH:=Env.Ai G6 APq (fun _=>AQ rfl rfl) (fun _=>AO rfl rfl)
abbrev AZB:Hints:={  }
theorem APt:∀ v,Lr v=AT Tryz.prog AJH AZB Tryz.f107 ZT ZS ZR v:=by
 rintro⟨a0,a1,a2,⟨⟩⟩
 kernel_rfl
theorem AZA:AD (AW Tryz.f107) 0=[]:=by kernel_rfl
theorem AKq:AU Tryz.prog 107 (AH 3 ZT ZS ZR Of):=AN AB6 Tryz.func107 (by kernel_rfl) (by kernel_rfl) rfl (fun v=>(SX v).trans (APt v)) (AA AZA trivial)
def AB7:Env:=AJH.ext 107 true true (AH 3 ZT ZS ZR Of)
theorem WS:Af Tryz.prog AB7:=Env.Ai AB6 AKq (fun _=>AQ rfl rfl) (fun _=>AO rfl rfl)
end
end Go.Pev
end
section
namespace Go.Pev
open Go.Proofs
noncomputable section
abbrev AcG:Hints:={ fp:=fun n=>match n with|9=>[[],[20],[],[28],[],[],[20],[20],[],[28],[28],[],[],[60],[],[]]|_=>[] }
theorem AVF:∀ v,P5 v=AT Tryz.prog AB7 AcG Tryz.f62 AGP AGO AGN v:=by
 rintro⟨a0,a1,a2,a3,⟨⟩⟩
 kernel_rfl
theorem AcF:AD (AW Tryz.f62) 0=[]:=by kernel_rfl
theorem APS:AU Tryz.prog 62 (AH 4 AGP AGO AGN UW):=AN WS Tryz.func62 (by kernel_rfl) (by kernel_rfl) rfl (fun v=>(Y1 v).trans (AVF v)) (AA AcF trivial)
def AJF:Env:=AB7.ext 62 true true (AH 4 AGP AGO AGN UW)
theorem AB4:Af Tryz.prog AJF:=Env.Ai WS APS (fun _=>AQ rfl rfl) (fun _=>AO rfl rfl)
theorem AY0:Tryz.f142.body.isSome=true:=by kernel_rfl
theorem AYz : (Tryz.f142.name == "runtime.NumGoroutine") = false := by kernel_rfl
theorem AYy:loops (AW Tryz.f142)=0:=by kernel_rfl
theorem AeE:Tryz.f141.body.isSome=true:=by kernel_rfl
theorem AeD : (Tryz.f141.name == "runtime.NumGoroutine") = false := by kernel_rfl
theorem AeC:loops (AW Tryz.f141)=0:=by kernel_rfl
def Pa:Env:=AJF.ext 142 false false (C8 Tryz.prog AJF { fp:=fun n=>match n with|0=>[[],[],[0],[0],[0],[],[2],[2],[2],[],[],[2],[2],[3]]|_=>[] } Tryz.f142)
theorem OK:Af Tryz.prog Pa:=Env.Ai AB4 (Cs AB4 Tryz.func142 AY0 AYz AYy) (by simp) (by simp)
def J1:Env:=Pa.ext 141 false false (C8 Tryz.prog Pa {} Tryz.f141)
theorem Gq:Af Tryz.prog J1:=Env.Ai OK (Cs OK Tryz.func141 AeE AeD AeC) (by simp) (by simp)
abbrev Zc:Hints:={ loop:=fun n=>match n with|0=>Ad 2 127 AZR AZN Lx|1=>Ad 2 127 AZQ AZM Lw|2=>Ad 2 127 AZP AZL Lv|_=>fun _ _ _=>none,fp:=fun n=>match n with|29=>[[],[],[],[2],[2],[2],[],[2],[2],[2],[],[0],[0],[0],[1],[0],[0],[0],[1]]|_=>[] }
theorem AVU:∀ v,Lv v=roundOf Tryz.prog J1 Zc 3 2 127 (AB Tryz.f109 2) AZP AZL v:=by
 rintro⟨a0,a1,a2,a3,a4,a5,a6,a7,a8,a9,a10,a11,⟨⟩⟩
 kernel_rfl
theorem Ad6:AD (AB Tryz.f109 2) 3=[]:=by kernel_rfl
theorem Ad9:Ab Tryz.prog 2 (.loop (AB Tryz.f109 2)) (Zc.loop 2):=AX Gq (AVU) (AA Ad6 trivial)
theorem AVV:∀ v,Lw v=roundOf Tryz.prog J1 Zc 2 2 127 (AB Tryz.f109 1) AZQ AZM v:=by
 rintro⟨a0,a1,a2,a3,a4,a5,a6,a7,a8,a9,a10,a11,a12,⟨⟩⟩
 kernel_rfl
theorem Ad7:AD (AB Tryz.f109 1) 2=[]:=by kernel_rfl
theorem AeA:Ab Tryz.prog 2 (.loop (AB Tryz.f109 1)) (Zc.loop 1):=AX Gq (AVV) (AA Ad7 trivial)
theorem AVW:∀ v,Lx v=roundOf Tryz.prog J1 Zc 1 2 127 (AB Tryz.f109 0) AZR AZN v:=by
 rintro⟨a0,a1,a2,a3,a4,a5,a6,a7,a8,a9,a10,a11,a12,⟨⟩⟩
 kernel_rfl
theorem Ad8:AD (AB Tryz.f109 0) 1=[]:=by kernel_rfl
theorem AeB:Ab Tryz.prog 2 (.loop (AB Tryz.f109 0)) (Zc.loop 0):=AX Gq (AVW) (AA Ad8 trivial)
theorem AcU:∀ v,ATP v=AT Tryz.prog J1 Zc Tryz.f109 AZS AZO AZK v:=by
 rintro⟨a0,a1,a2,a3,a4,a5,a6,a7,a8,a9,a10,⟨⟩⟩
 kernel_rfl
theorem Aem:AD (AW Tryz.f109) 0=[(0,AB Tryz.f109 0),(1,AB Tryz.f109 1),(2,AB Tryz.f109 2)]:=by kernel_rfl
theorem AZJ:AU Tryz.prog 109 (AH 4 AZS AZO AZK pat):=AN Gq Tryz.func109 (by kernel_rfl) (by kernel_rfl) rfl (fun v=>(AZT v).trans (AcU v)) (AA Aem ⟨AeB,AeA,Ad9,trivial⟩)
def AUM:Env:=J1.ext 109 false true (AH 4 AZS AZO AZK pat)
theorem AB9:Af Tryz.prog AUM:=Env.Ai Gq AZJ ((by simp)) (fun _=>AO rfl rfl)
abbrev APY:Hints:={ loop:=fun n=>match n with|0=>Ad 0 81 ATI ATH EN|_=>fun _ _ _=>none,fp:=fun n=>match n with|9=>[[],[4],[4],[4],[],[4],[4],[4],[1],[3],[]]|5=>[[0],[0],[0],[0],[],[],[0],[0],[],[],[],[],[16],[],[14],[14],[],[0],[0],[],[],[18],[]]|_=>[] }
theorem APU:∀ v,EN v=roundOf Tryz.prog AUM APY 1 0 81 (AB Tryz.f60 0) ATI ATH v:=by
 rintro⟨a0,a1,a2,a3,a4,a5,a6,a7,a8,a9,a10,a11,a12,a13,a14,a15,a16,a17,a18,⟨⟩⟩
 kernel_rfl
theorem AcH:AD (AB Tryz.f60 0) 1=[]:=by kernel_rfl
theorem AcI:Ab Tryz.prog 0 (.loop (AB Tryz.f60 0)) (APY.loop 0):=AX AB9 (APU) (AA AcH trivial)
theorem AY2:∀ v,Y7 v=AT Tryz.prog AUM APY Tryz.f60 APX APW APV v:=by
 rintro⟨a0,a1,a2,⟨⟩⟩
 kernel_rfl
theorem Ad2:AD (AW Tryz.f60) 0=[(0,AB Tryz.f60 0)]:=by kernel_rfl
theorem AVG:AU Tryz.prog 60 (AH 3 APX APW APV ACf):=AN AB9 Tryz.func60 (by kernel_rfl) (by kernel_rfl) rfl (fun v=>(AGS v).trans (AY2 v)) (AA Ad2 ⟨AcI,trivial⟩)
def AJG:Env:=AUM.ext 60 true true (AH 3 APX APW APV ACf)
theorem T3:Af Tryz.prog AJG:=Env.Ai AB9 AVG (fun _=>AQ rfl rfl) (fun _=>AO rfl rfl)
abbrev AGf:Hints:={ loop:=fun n=>match n with|0=>Ad 0 55 AKv AKu EB|_=>fun _ _ _=>none,fp:=fun n=>match n with|12=>[[20],[],[22],[],[5,24],[7],[]]|_=>[] }
theorem AKs:∀ v,EB v=roundOf Tryz.prog AJG AGf 1 0 55 (AB Tryz.f66 0) AKv AKu v:=by
 rintro⟨a0,a1,a2,a3,a4,a5,a6,a7,a8,⟨⟩⟩
 kernel_rfl
theorem AZD:AD (AB Tryz.f66 0) 1=[]:=by kernel_rfl
theorem AZE:Ab Tryz.prog 0 (.loop (AB Tryz.f66 0)) (AGf.loop 0):=AX T3 (AKs) (AA AZD trivial)
theorem AVQ:∀ v,XQ v=AT Tryz.prog AJG AGf Tryz.f66 AGe AGd AGc v:=by
 rintro⟨a0,a1,⟨⟩⟩
 kernel_rfl
theorem AcK:AD (AW Tryz.f66) 0=[(0,AB Tryz.f66 0)]:=by kernel_rfl
theorem APv:AU Tryz.prog 66 (AH 2 AGe AGd AGc VC):=AN T3 Tryz.func66 (by kernel_rfl) (by kernel_rfl) rfl (fun v=>(AKw v).trans (AVQ v)) (AA AcK ⟨AZE,trivial⟩)
def AJI:Env:=AJG.ext 66 true true (AH 2 AGe AGd AGc VC)
theorem AB8:Af Tryz.prog AJI:=Env.Ai T3 APv (fun _=>AQ rfl rfl) (fun _=>AO rfl rfl)
abbrev AXk:Hints:={  }
theorem ANy:∀ v,Tx v=AT Tryz.prog AJI AXk Tryz.f58 Tw Tv Tu v:=by
 rintro⟨⟨⟩⟩
 kernel_rfl
theorem AXj:AD (AW Tryz.f58) 0=[]:=by kernel_rfl
theorem AI5:AU Tryz.prog 58 (AH 0 Tw Tv Tu I8):=AN AB8 Tryz.func58 (by kernel_rfl) (by kernel_rfl) rfl (fun v=>(ASk v).trans (ANy v)) (AA AXj trivial)
def UL:Env:=AJI.ext 58 true true (AH 0 Tw Tv Tu I8)
theorem Ro:Af Tryz.prog UL:=Env.Ai AB8 AI5 (fun _=>AQ rfl rfl) (fun _=>AO rfl rfl)
abbrev AWw:Hints:={  }
theorem AM5:∀ v,Nc v=AT Tryz.prog UL AWw Tryz.f59 TS TR TQ v:=by
 rintro⟨a0,a1,⟨⟩⟩
 kernel_rfl
theorem AWv:AD (AW Tryz.f59) 0=[]:=by kernel_rfl
theorem AIC:AU Tryz.prog 59 (AH 2 TS TR TQ Nd):=AN Ro Tryz.func59 (by kernel_rfl) (by kernel_rfl) rfl (fun v=>(AAs v).trans (AM5 v)) (AA AWv trivial)
def UE:Env:=UL.ext 59 true true (AH 2 TS TR TQ Nd)
theorem Rj:Af Tryz.prog UE:=Env.Ai Ro AIC (fun _=>AQ rfl rfl) (fun _=>AO rfl rfl)
abbrev KJ:Hints:={ loop:=fun n=>match n with|0=>Ad 0 120 N8 N7 CE|_=>fun _ _ _=>none,fp:=fun n=>match n with|10=>[[0],[],[0],[0],[],[],[],[]]|_=>[] }
theorem SN:∀ v,CE v=roundOf Tryz.prog UE KJ 1 0 120 (AB Tryz.f13 0) N8 N7 v:=by
 rintro⟨a0,a1,a2,a3,a4,a5,a6,a7,a8,a9,a10,a11,a12,⟨⟩⟩
 kernel_rfl
theorem ACc:AD (AB Tryz.f13 0) 1=[]:=by kernel_rfl
theorem ACd:Ab Tryz.prog 0 (.loop (AB Tryz.f13 0)) (KJ.loop 0):=AX Rj (SN) (AA ACc trivial)
theorem Y6:∀ v,HA v=AT Tryz.prog UE KJ Tryz.f13 KI KH KG v:=by
 rintro⟨a0,a1,⟨⟩⟩
 kernel_rfl
theorem AGQ:AD (AW Tryz.f13) 0=[(0,AB Tryz.f13 0)]:=by kernel_rfl
theorem Wk:AU Tryz.prog 13 (AH 2 KI KH KG Fp):=AN Rj Tryz.func13 (by kernel_rfl) (by kernel_rfl) rfl (fun v=>(N9 v).trans (Y6 v)) (AA AGQ ⟨ACd,trivial⟩)
end
end Go.Pev
end
section

end
