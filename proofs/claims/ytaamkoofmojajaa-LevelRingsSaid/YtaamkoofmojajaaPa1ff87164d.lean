/- A part of the proofs of this seat: G21bP7 G21bP8 G21bP. -/
import Derived.Test.YtaamkoofmojajaaPbf284e61ce
set_option linter.unusedVariables false
set_option linter.unusedSimpArgs false
set_option linter.unusedSectionVars false
set_option maxRecDepth 100000
section
namespace Go.Pev
open Go.Proofs
noncomputable section
abbrev MH:Hints:={ loop:=fun n=>match n with|0=>Ad 1 56 AEn AEl HT|1=>Ad 1 56 AEm AEk HS|_=>fun _ _ _=>none,fp:=fun n=>match n with|10=>[[],[],[],[],[],[],[],[],[],[],[0],[0],[],[],[0],[0],[0],[1],[0],[1]]|_=>[] }
theorem AEi:∀ v,HS v=roundOf Try.prog Ms MH 2 1 56 (AB Try.f36 1) AEm AEk v:=by
 rintro⟨a0,a1,a2,a3,⟨⟩⟩
 kernel_rfl
theorem AQP:AD (AB Try.f36 1) 2=[]:=by kernel_rfl
theorem AQR:Ac Try.prog 1 (.loop (AB Try.f36 1)) (MH.loop 1):=AX IK (AEi) (AA AQP trivial)
theorem AEj:∀ v,HT v=roundOf Try.prog Ms MH 1 1 56 (AB Try.f36 0) AEn AEl v:=by
 rintro⟨a0,a1,a2,a3,a4,⟨⟩⟩
 kernel_rfl
theorem AQQ:AD (AB Try.f36 0) 1=[]:=by kernel_rfl
theorem AQS:Ac Try.prog 1 (.loop (AB Try.f36 0)) (MH.loop 0):=AX IK (AEj) (AA AQQ trivial)
theorem AMw:∀ v,Q3 v=AO Try.prog Ms MH Try.f36 AAi AAh AAg v:=by
 rintro⟨a0,a1,a2,⟨⟩⟩
 kernel_rfl
theorem ASc:AD (AU Try.f36) 0=[(0,AB Try.f36 0),(1,AB Try.f36 1)]:=by kernel_rfl
theorem AIb:AP Try.prog 36 (AG 3 AAi AAh AAg Xi):=AI IK Try.func36 (by kernel_rfl) (by kernel_rfl) rfl (fun v=>(AEo v).trans (AMw v)) (AA ASc ⟨AQS,AQR,trivial⟩)
def RI:Env:=Ms.ext 36 false true (AG 3 AAi AAh AAg Xi)
theorem LN:Ae Try.prog RI:=Env.Ai IK AIb ((by simp)) (fun _=>AH rfl rfl)
abbrev VK:Hints:={ loop:=fun n=>match n with|0=>Ad 1 65 Xv Xu Ei|_=>fun _ _ _=>none,fp:=fun n=>match n with|10=>[[],[],[],[],[],[],[],[],[],[],[0],[0],[],[],[0],[0],[0],[1],[0],[1]]|_=>[] }
theorem ABN:∀ v,Ei v=roundOf Try.prog RI VK 1 1 65 (AB Try.f37 0) Xv Xu v:=by
 rintro⟨a0,a1,a2,a3,a4,a5,⟨⟩⟩
 kernel_rfl
theorem ANf:AD (AB Try.f37 0) 1=[]:=by kernel_rfl
theorem ANg:Ac Try.prog 1 (.loop (AB Try.f37 0)) (VK.loop 0):=AX LN (ABN) (AA ANf trivial)
theorem AJM:∀ v,Mg v=AO Try.prog RI VK Try.f37 VJ VI VH v:=by
 rintro⟨a0,a1,a2,⟨⟩⟩
 kernel_rfl
theorem AQ5:AD (AU Try.f37) 0=[(0,AB Try.f37 0)]:=by kernel_rfl
theorem AFZ:AP Try.prog 37 (AG 3 VJ VI VH Oe):=AI LN Try.func37 (by kernel_rfl) (by kernel_rfl) rfl (fun v=>(Xw v).trans (AJM v)) (AA AQ5 ⟨ANg,trivial⟩)
def Vm:Env:=RI.ext 37 false true (AG 3 VJ VI VH Oe)
theorem QK:Ae Try.prog Vm:=Env.Ai LN AFZ ((by simp)) (fun _=>AH rfl rfl)
abbrev AL0:Hints:={ fp:=fun n=>match n with|1=>[[],[],[0],[0],[],[],[0],[0],[]]|_=>[] }
theorem AD4:∀ v,Je v=AO Try.prog Vm AL0 Try.f61 Nk Nj Ni v:=by
 rintro⟨a0,a1,a2,a3,⟨⟩⟩
 kernel_rfl
theorem ALz:AD (AU Try.f61) 0=[]:=by kernel_rfl
theorem Zm:AP Try.prog 61 (AG 4 Nk Nj Ni Hq):=AI QK Try.func61 (by kernel_rfl) (by kernel_rfl) rfl (fun v=>(S4 v).trans (AD4 v)) (AA ALz trivial)
def Ow:Env:=Vm.ext 61 false true (AG 4 Nk Nj Ni Hq)
theorem Mx:Ae Try.prog Ow:=Env.Ai QK Zm ((by simp)) (fun _=>AH rfl rfl)
abbrev AMF:Hints:={  }
theorem AEA:∀ v,Jk v=AO Try.prog Ow AMF Try.f52 Nv Nu Nt v:=by
 rintro⟨a0,a1,a2,a3,a4,⟨⟩⟩
 kernel_rfl
theorem AME:AD (AU Try.f52) 0=[]:=by kernel_rfl
theorem Zx:AP Try.prog 52 (AG 5 Nv Nu Nt Hw):=AI Mx Try.func52 (by kernel_rfl) (by kernel_rfl) rfl (fun v=>(TA v).trans (AEA v)) (AA AME trivial)
def Oy:Env:=Ow.ext 52 false true (AG 5 Nv Nu Nt Hw)
theorem Mz:Ae Try.prog Oy:=Env.Ai Mx Zx ((by simp)) (fun _=>AH rfl rfl)
abbrev AMJ:Hints:={  }
theorem AEC:∀ v,Jn v=AO Try.prog Oy AMJ Try.f51 N1 N0 Nz v:=by
 rintro⟨a0,a1,a2,⟨⟩⟩
 kernel_rfl
theorem AMI:AD (AU Try.f51) 0=[]:=by kernel_rfl
theorem Z0:AP Try.prog 51 (AG 3 N1 N0 Nz Hx):=AI Mz Try.func51 (by kernel_rfl) (by kernel_rfl) rfl (fun v=>(TB v).trans (AEC v)) (AA AMI trivial)
def O0:Env:=Oy.ext 51 false true (AG 3 N1 N0 Nz Hx)
theorem M1:Ae Try.prog O0:=Env.Ai Mz Z0 ((by simp)) (fun _=>AH rfl rfl)
abbrev AO6:Hints:={  }
theorem AG1:∀ v,Lh v=AO Try.prog O0 AO6 Try.f38 SS SR SQ v:=by
 rintro⟨a0,a1,a2,⟨⟩⟩
 kernel_rfl
theorem AO5:AD (AU Try.f38) 0=[]:=by kernel_rfl
theorem ACu:AP Try.prog 38 (AG 3 SS SR SQ NV):=AI M1 Try.func38 (by kernel_rfl) (by kernel_rfl) rfl (fun v=>(XJ v).trans (AG1 v)) (AA AO5 trivial)
def Mv:Env:=O0.ext 38 false true (AG 3 SS SR SQ NV)
theorem JS:Ae Try.prog Mv:=Env.Ai M1 ACu ((by simp)) (fun _=>AH rfl rfl)
abbrev AGi:Hints:={ loop:=fun n=>match n with|0=>Ad 1 32 AJv AJu Le|_=>fun _ _ _=>none,fp:=fun n=>match n with|3=>[[],[],[],[],[],[],[0],[0],[],[],[0],[0],[0],[1],[0],[1]]|_=>[] }
theorem AGe:∀ v,Le v=roundOf Try.prog Mv AGi 1 1 32 (AB Try.f39 0) AJv AJu v:=by
 rintro⟨a0,a1,a2,⟨⟩⟩
 kernel_rfl
theorem ARj:AD (AB Try.f39 0) 1=[]:=by kernel_rfl
theorem ARk:Ac Try.prog 1 (.loop (AB Try.f39 0)) (AGi.loop 0):=AX JS (AGe) (AA ARj trivial)
theorem AOr:∀ v,ZB v=AO Try.prog Mv AGi Try.f39 AGh AGg AGf v:=by
 rintro⟨a0,a1,a2,⟨⟩⟩
 kernel_rfl
theorem ATP:AD (AU Try.f39) 0=[(0,AB Try.f39 0)]:=by kernel_rfl
theorem ALb:AP Try.prog 39 (AG 3 AGh AGg AGf ALd):=AI JS Try.func39 (by kernel_rfl) (by kernel_rfl) rfl (fun v=>(AJw v).trans (AOr v)) (AA ATP ⟨ARk,trivial⟩)
def LJ:Env:=Mv.ext 39 false true (AG 3 AGh AGg AGf ALd)
theorem Fq:Ae Try.prog LJ:=Env.Ai JS ALb ((by simp)) (fun _=>AH rfl rfl)
abbrev CQ:Hints:={ loop:=fun n=>match n with|0=>Ad 1 133 Pd PZ B2|1=>Ad 1 133 Pc PY E2|2=>Ad 1 133 Pb PX Dm|3=>Ad 1 133 Pa PW Dl|_=>fun _ _ _=>none,fp:=fun n=>match n with|11=>[[],[],[],[],[],[],[],[],[0],[0],[],[],[0],[0],[0],[1],[0],[1]]|5=>[[],[],[],[],[],[],[0],[0],[],[],[],[0],[0],[],[],[]]|17=>[[],[],[],[],[],[],[],[],[0],[0],[],[],[0],[0],[0],[1],[0],[1]]|16=>[[],[],[0],[0],[],[],[],[0],[0],[],[]]|23=>[[],[],[],[],[],[],[],[],[0],[0],[],[],[0],[0],[0],[1],[0],[1]]|22=>[[],[],[0],[0],[],[],[],[0],[0],[],[]]|_=>[] }
theorem Sh:∀ v,Dl v=roundOf Try.prog LJ CQ 4 1 133 (AB Try.f40 3) Pa PW v:=by
 rintro⟨a0,a1,a2,a3,a4,a5,⟨⟩⟩
 kernel_rfl
theorem ADR:AD (AB Try.f40 3) 4=[]:=by kernel_rfl
theorem ADV:Ac Try.prog 1 (.loop (AB Try.f40 3)) (CQ.loop 3):=AX Fq (Sh) (AA ADR trivial)
theorem Si:∀ v,Dm v=roundOf Try.prog LJ CQ 3 1 133 (AB Try.f40 2) Pb PX v:=by
 rintro⟨a0,a1,a2,a3,a4,a5,⟨⟩⟩
 kernel_rfl
theorem ADS:AD (AB Try.f40 2) 3=[]:=by kernel_rfl
theorem ADW:Ac Try.prog 1 (.loop (AB Try.f40 2)) (CQ.loop 2):=AX Fq (Si) (AA ADS trivial)
theorem Sj:∀ v,E2 v=roundOf Try.prog LJ CQ 2 1 133 (AB Try.f40 1) Pc PY v:=by
 rintro⟨a0,a1,a2,a3,a4,⟨⟩⟩
 kernel_rfl
theorem ADT:AD (AB Try.f40 1) 2=[]:=by kernel_rfl
theorem ADX:Ac Try.prog 1 (.loop (AB Try.f40 1)) (CQ.loop 1):=AX Fq (Sj) (AA ADT trivial)
theorem Sk:∀ v,B2 v=roundOf Try.prog LJ CQ 1 1 133 (AB Try.f40 0) Pd PZ v:=by
 rintro⟨a0,a1,a2,a3,a4,⟨⟩⟩
 kernel_rfl
theorem ADU:AD (AB Try.f40 0) 1=[(1,AB Try.f40 1),(2,AB Try.f40 2),(3,AB Try.f40 3)]:=by kernel_rfl
theorem ADY:Ac Try.prog 1 (.loop (AB Try.f40 0)) (CQ.loop 0):=AX Fq (Sk) (AA ADU ⟨ADX,ADW,ADV,trivial⟩)
theorem Za:∀ v,Hl v=AO Try.prog LJ CQ Try.f40 Ki Kh Kg v:=by
 rintro⟨a0,a1,a2,⟨⟩⟩
 kernel_rfl
theorem AHC:AD (AU Try.f40) 0=[(0,AB Try.f40 0)]:=by kernel_rfl
theorem V4:AP Try.prog 40 (AG 3 Ki Kh Kg HN):=AI Fq Try.func40 (by kernel_rfl) (by kernel_rfl) rfl (fun v=>(Pe v).trans (Za v)) (AA AHC ⟨ADY,trivial⟩)
def En:Env:=LJ.ext 40 false true (AG 3 Ki Kh Kg HN)
theorem DT:Ae Try.prog En:=Env.Ai Fq V4 ((by simp)) (fun _=>AH rfl rfl)
abbrev EJ:Hints:={ loop:=fun n=>match n with|0=>Ad 1 84 S1 Sx F9|1=>Ad 1 84 S0 Sw F8|2=>Ad 1 84 Sy Sv F7|_=>fun _ _ _=>none,fp:=fun n=>match n with|8=>[[],[],[],[],[],[],[0],[0],[],[],[0],[0],[0],[1],[0],[1]]|3=>[[],[],[],[],[],[],[0],[0],[],[],[0],[0],[],[],[]]|5=>[[],[],[],[],[],[],[0],[0],[],[],[0],[0],[],[]]|1=>[[],[],[],[],[],[],[0],[0],[],[],[0],[0],[0],[1],[0],[1]]|_=>[] }
theorem WE:∀ v,F7 v=roundOf Try.prog En EJ 3 1 84 (AB Try.f42 2) Sy Sv v:=by
 rintro⟨a0,a1,a2,a3,⟨⟩⟩
 kernel_rfl
theorem AHN:AD (AB Try.f42 2) 3=[]:=by kernel_rfl
theorem AHQ:Ac Try.prog 1 (.loop (AB Try.f42 2)) (EJ.loop 2):=AX DT (WE) (AA AHN trivial)
theorem WH:∀ v,F8 v=roundOf Try.prog En EJ 2 1 84 (AB Try.f42 1) S0 Sw v:=by
 rintro⟨a0,a1,a2,a3,⟨⟩⟩
 kernel_rfl
theorem AHO:AD (AB Try.f42 1) 2=[]:=by kernel_rfl
theorem AHR:Ac Try.prog 1 (.loop (AB Try.f42 1)) (EJ.loop 1):=AX DT (WH) (AA AHO trivial)
theorem WJ:∀ v,F9 v=roundOf Try.prog En EJ 1 1 84 (AB Try.f42 0) S1 Sx v:=by
 rintro⟨a0,a1,a2,a3,⟨⟩⟩
 kernel_rfl
theorem AHP:AD (AB Try.f42 0) 1=[(1,AB Try.f42 1),(2,AB Try.f42 2)]:=by kernel_rfl
theorem AHS:Ac Try.prog 1 (.loop (AB Try.f42 0)) (EJ.loop 0):=AX DT (WJ) (AA AHP ⟨AHR,AHQ,trivial⟩)
theorem AD0:∀ v,Jb v=AO Try.prog En EJ Try.f42 Nd Nc Nb v:=by
 rintro⟨a0,a1,a2,a3,⟨⟩⟩
 kernel_rfl
theorem ALv:AD (AU Try.f42) 0=[(0,AB Try.f42 0)]:=by kernel_rfl
theorem Zh:AP Try.prog 42 (AG 4 Nd Nc Nb Jc):=AI DT Try.func42 (by kernel_rfl) (by kernel_rfl) rfl (fun v=>(S2 v).trans (AD0 v)) (AA ALv ⟨AHS,trivial⟩)
def Dr:Env:=En.ext 42 false true (AG 4 Nd Nc Nb Jc)
theorem CZ:Ae Try.prog Dr:=Env.Ai DT Zh ((by simp)) (fun _=>AH rfl rfl)
abbrev Dz:Hints:={ loop:=fun n=>match n with|0=>Ad 1 168 ADs ADn Iv|1=>Ad 1 168 ADr ADm Iu|2=>Ad 1 168 ADq ADl It|3=>Ad 1 168 ADp ADk Is|4=>Ad 1 168 ADo ADj Ir|_=>fun _ _ _=>none,fp:=fun n=>match n with|3=>[[],[],[],[],[],[],[0],[0],[],[],[0],[0],[],[]]|5=>[[],[],[],[],[],[],[0],[0],[],[],[0],[0],[],[],[]]|18=>[[],[],[],[],[],[],[0],[0],[],[],[0],[0],[0],[1],[0],[1]]|13=>[[],[],[],[],[],[],[0],[0],[],[],[0],[0],[],[]]|15=>[[],[],[],[],[],[],[0],[0],[],[],[0],[0],[],[],[]]|21=>[[],[],[],[],[],[],[0],[0],[],[],[0],[0],[0],[1],[0],[1]]|10=>[[],[],[],[],[],[],[0],[0],[],[],[0],[0],[0],[1],[0],[1]]|8=>[[],[],[],[],[],[],[0],[0],[],[],[0],[0],[0],[1],[0],[1]]|1=>[[],[],[],[],[],[],[0],[0],[],[],[0],[0],[0],[1],[0],[1]]|_=>[] }
theorem ADa:∀ v,Ir v=roundOf Try.prog Dr Dz 5 1 168 (AB Try.f43 4) ADo ADj v:=by
 rintro⟨a0,a1,a2,a3,⟨⟩⟩
 kernel_rfl
theorem APP:AD (AB Try.f43 4) 5=[]:=by kernel_rfl
theorem APU:Ac Try.prog 1 (.loop (AB Try.f43 4)) (Dz.loop 4):=AX CZ (ADa) (AA APP trivial)
theorem ADc:∀ v,Is v=roundOf Try.prog Dr Dz 4 1 168 (AB Try.f43 3) ADp ADk v:=by
 rintro⟨a0,a1,a2,a3,⟨⟩⟩
 kernel_rfl
theorem APQ:AD (AB Try.f43 3) 4=[]:=by kernel_rfl
theorem APV:Ac Try.prog 1 (.loop (AB Try.f43 3)) (Dz.loop 3):=AX CZ (ADc) (AA APQ trivial)
theorem ADe:∀ v,It v=roundOf Try.prog Dr Dz 3 1 168 (AB Try.f43 2) ADq ADl v:=by
 rintro⟨a0,a1,a2,a3,⟨⟩⟩
 kernel_rfl
theorem APR:AD (AB Try.f43 2) 3=[(3,AB Try.f43 3),(4,AB Try.f43 4)]:=by kernel_rfl
theorem APW:Ac Try.prog 1 (.loop (AB Try.f43 2)) (Dz.loop 2):=AX CZ (ADe) (AA APR ⟨APV,APU,trivial⟩)
theorem ADf:∀ v,Iu v=roundOf Try.prog Dr Dz 2 1 168 (AB Try.f43 1) ADr ADm v:=by
 rintro⟨a0,a1,a2,a3,⟨⟩⟩
 kernel_rfl
theorem APS:AD (AB Try.f43 1) 2=[]:=by kernel_rfl
theorem APX:Ac Try.prog 1 (.loop (AB Try.f43 1)) (Dz.loop 1):=AX CZ (ADf) (AA APS trivial)
theorem ADh:∀ v,Iv v=roundOf Try.prog Dr Dz 1 1 168 (AB Try.f43 0) ADs ADn v:=by
 rintro⟨a0,a1,a2,a3,⟨⟩⟩
 kernel_rfl
theorem APT:AD (AB Try.f43 0) 1=[]:=by kernel_rfl
theorem APY:Ac Try.prog 1 (.loop (AB Try.f43 0)) (Dz.loop 0):=AX CZ (ADh) (AA APT trivial)
theorem ALs:∀ v,Qt v=AO Try.prog Dr Dz Try.f43 Ze Zd Zc v:=by
 rintro⟨a0,a1,a2,a3,⟨⟩⟩
 kernel_rfl
theorem ARz:AD (AU Try.f43) 0=[(0,AB Try.f43 0),(1,AB Try.f43 1),(2,AB Try.f43 2)]:=by kernel_rfl
theorem AHD:AP Try.prog 43 (AG 4 Ze Zd Zc Lo):=AI CZ Try.func43 (by kernel_rfl) (by kernel_rfl) rfl (fun v=>(ADt v).trans (ALs v)) (AA ARz ⟨APY,APX,APW,trivial⟩)
def ABi:Env:=Dr.ext 43 false true (AG 4 Ze Zd Zc Lo)
theorem Vc:Ae Try.prog ABi:=Env.Ai CZ AHD ((by simp)) (fun _=>AH rfl rfl)
abbrev AG8(self:(List Int×Int×Int×Int×Unit)→Option ((List Int×Unit))):Hints:={ loop:=fun n=>match n with|0=>Ad 1 134 AJ2 AJ1 (Ja self)|_=>fun _ _ _=>none,fp:=fun n=>match n with|17=>[[],[],[],[],[],[],[0],[0],[],[],[0],[0],[],[],[]]|_=>[] }
abbrev ZQ(self:(List Int×Int×Int×Int×Unit)→Option ((List Int×Unit))):Env:=ABi.ext 27 false true (AG 4 Sa SZ SY self)
theorem AG7(self:(List Int×Int×Int×Int×Unit)→Option ((List Int×Unit))):∀ v,Ja self v=roundOf Try.prog (ZQ self) (AG8 self) 1 1 134 (AB Try.f27 0) AJ2 AJ1 v:=by
 rintro⟨a0,a1,a2,a3,a4,a5,⟨⟩⟩
 kernel_rfl
theorem ARt:AD (AB Try.f27 0) 1=[]:=by kernel_rfl
theorem ARu(self:(List Int×Int×Int×Int×Unit)→Option ((List Int×Unit)))(hE:Ae Try.prog (ZQ self)):Ac Try.prog 1 (.loop (AB Try.f27 0)) ((AG8 self).loop 0):=AX hE (AG7 self) (AA ARt trivial)
theorem AO9(self:(List Int×Int×Int×Int×Unit)→Option ((List Int×Unit))):∀ v,ZP self v=AO Try.prog (ZQ self) (AG8 self) Try.f27 Sa SZ SY v:=by
 rintro⟨a0,a1,a2,a3,⟨⟩⟩
 kernel_rfl
theorem ATT:AD (AU Try.f27) 0=[(0,AB Try.f27 0)]:=by kernel_rfl
theorem AG9:∀ n,AP Try.prog 27 (AG 4 Sa SZ SY (F6 n)):=by
 intro n
 induction n with
 |zero=>exact Ph fun _=>rfl
 |succ n ih=>
  have hE:Ae Try.prog (ZQ (F6 n)):=Env.Ai Vc ih ((by simp)) (fun _=>AH rfl rfl)
  let self:=F6 n
  exact AI hE Try.func27 (by kernel_rfl) (by kernel_rfl) rfl (AO9 self) (AA ATT ⟨(ARu self hE),trivial⟩)
theorem ALp:AP Try.prog 27 (AG 4 Sa SZ SY APC):=by
 have e:APC=F6 100:=funext ARv
 rw[e]
 exact AG9 _
def AJb:Env:=ABi.ext 27 false true (AG 4 Sa SZ SY APC)
theorem X5:Ae Try.prog AJb:=Env.Ai Vc ALp ((by simp)) (fun _=>AH rfl rfl)
abbrev ARY:Hints:={  }
theorem ALO:∀ v,Yq v=AO Try.prog AJb ARY Try.f19 Yp Yo Yn v:=by
 rintro⟨a0,⟨⟩⟩
 kernel_rfl
theorem ARX:AD (AU Try.f19) 0=[]:=by kernel_rfl
theorem AGH:AP Try.prog 19 (AG 1 Yp Yo Yn AJo):=AI X5 Try.func19 (by kernel_rfl) (by kernel_rfl) rfl (fun v=>(AOW v).trans (ALO v)) (AA ARX trivial)
def RC:Env:=AJb.ext 19 false true (AG 1 Yp Yo Yn AJo)
theorem LH:Ae Try.prog RC:=Env.Ai X5 AGH ((by simp)) (fun _=>AH rfl rfl)
end
end Go.Pev
end
section
namespace Go.Pev
open Go.Proofs
noncomputable section
abbrev UD:Hints:={ loop:=fun n=>match n with|0=>Ad 0 26 Xn Xm OS|_=>fun _ _ _=>none,fp:=fun n=>match n with|6=>[[],[],[],[],[],[],[],[],[]]|_=>[] }
theorem AAx:∀ v,OS v=roundOf Try.prog RC UD 1 0 26 (AB Try.f26 0) Xn Xm v:=by
 rintro⟨a0,a1,a2,a3,⟨⟩⟩
 kernel_rfl
theorem ANH:AD (AB Try.f26 0) 1=[]:=by kernel_rfl
theorem ANI:Ac Try.prog 0 (.loop (AB Try.f26 0)) (UD.loop 0):=AX LH (AAx) (AA ANH trivial)
theorem AIo:∀ v,UE v=AO Try.prog RC UD Try.f26 UC UB UA v:=by
 rintro⟨a0,a1,⟨⟩⟩
 kernel_rfl
theorem AQm:AD (AU Try.f26) 0=[(0,AB Try.f26 0)]:=by kernel_rfl
theorem AE6:AP Try.prog 26 (AG 2 UC UB UA AAy):=AI LH Try.func26 (by kernel_rfl) (by kernel_rfl) rfl (fun v=>(ANJ v).trans (AIo v)) (AA AQm ⟨ANI,trivial⟩)
def Vk:Env:=RC.ext 26 true true (AG 2 UC UB UA AAy)
theorem QI:Ae Try.prog Vk:=Env.Ai LH AE6 (fun _=>AM rfl rfl) (fun _=>AH rfl rfl)
abbrev ASA:Hints:={  }
theorem AMO:∀ v,Z6 v=AO Try.prog Vk ASA Try.f17 Z5 Z4 Z3 v:=by
 rintro⟨a0,a1,⟨⟩⟩
 kernel_rfl
theorem AR9:AD (AU Try.f17) 0=[]:=by kernel_rfl
theorem AH1:AP Try.prog 17 (AG 2 Z5 Z4 Z3 AKH):=AI QI Try.func17 (by kernel_rfl) (by kernel_rfl) rfl (fun v=>(APv v).trans (AMO v)) (AA AR9 trivial)
def RD:Env:=Vk.ext 17 true true (AG 2 Z5 Z4 Z3 AKH)
theorem LK:Ae Try.prog RD:=Env.Ai QI AH1 (fun _=>AM rfl rfl) (fun _=>AH rfl rfl)
abbrev AJS:Hints:={ loop:=fun n=>match n with|0=>Ad 0 49 AKq AKp IB|_=>fun _ _ _=>none,fp:=fun n=>match n with|5=>[[],[],[],[],[],[0],[],[]]|8=>[[],[],[],[],[],[],[],[],[],[],[0],[],[],[],[],[]]|_=>[] }
theorem AJO:∀ v,IB v=roundOf Try.prog RD AJS 1 0 49 (AB Try.f28 0) AKq AKp v:=by
 rintro⟨a0,a1,a2,a3,a4,a5,a6,a7,⟨⟩⟩
 kernel_rfl
theorem ASu:AD (AB Try.f28 0) 1=[]:=by kernel_rfl
theorem ASv:Ac Try.prog 0 (.loop (AB Try.f28 0)) (AJS.loop 0):=AX LK (AJO) (AA ASu trivial)
theorem AQ8:∀ v,ABQ v=AO Try.prog RD AJS Try.f28 AJR AJQ AJP v:=by
 rintro⟨a0,a1,⟨⟩⟩
 kernel_rfl
theorem ATu:AD (AU Try.f28) 0=[(0,AB Try.f28 0)]:=by kernel_rfl
theorem ANk:AP Try.prog 28 (AG 3 AJR AJQ AJP ANl):=AI LK Try.func28 (by kernel_rfl) (by kernel_rfl) rfl (fun v=>(AKr v).trans (AQ8 v)) (AA ATu ⟨ASv,trivial⟩)
def AJg:Env:=RD.FK 28 2 25 (AG 3 AJR AJQ AJP ANl)
theorem YA:Ae Try.prog AJg:=Env.Ba LK ANk (AH rfl rfl)
abbrev APy:Hints:={  }
theorem AH3:∀ v,Lx v=AO Try.prog AJg APy Try.f20 TQ TP TO v:=by
 rintro⟨a0,a1,a2,⟨⟩⟩
 kernel_rfl
theorem APx:AD (AU Try.f20) 0=[]:=by kernel_rfl
theorem AEH:AP Try.prog 20 (AG 3 TQ TP TO Z8):=AI YA Try.func20 (by kernel_rfl) (by kernel_rfl) rfl (fun v=>(XW v).trans (AH3 v)) (AA APx trivial)
def Ve:Env:=AJg.ext 20 true true (AG 3 TQ TP TO Z8)
theorem QE:Ae Try.prog Ve:=Env.Ai YA AEH (fun _=>AM rfl rfl) (fun _=>AH rfl rfl)
abbrev ASF:Hints:={  }
theorem AMY:∀ v,Q0 v=AO Try.prog Ve ASF Try.f11 AAI AAH AAG v:=by
 rintro⟨a0,a1,a2,⟨⟩⟩
 kernel_rfl
theorem ASE:AD (AU Try.f11) 0=[]:=by kernel_rfl
theorem AH8:AP Try.prog 11 (AG 3 AAI AAH AAG Pk):=AI QE Try.func11 (by kernel_rfl) (by kernel_rfl) rfl (fun v=>(AEN v).trans (AMY v)) (AA ASE trivial)
def RE:Env:=Ve.ext 11 true true (AG 3 AAI AAH AAG Pk)
theorem LL:Ae Try.prog RE:=Env.Ai QE AH8 (fun _=>AM rfl rfl) (fun _=>AH rfl rfl)
abbrev AAD:Hints:={ loop:=fun n=>match n with|0=>Ad 0 66 AEK AEJ TS|_=>fun _ _ _=>none }
theorem AEI:∀ v,TS v=roundOf Try.prog RE AAD 1 0 66 (AB Try.f10 0) AEK AEJ v:=by
 rintro⟨a0,a1,a2,a3,a4,a5,a6,⟨⟩⟩
 kernel_rfl
theorem AP1:AD (AB Try.f10 0) 1=[]:=by kernel_rfl
theorem AP2:Ac Try.prog 0 (.loop (AB Try.f10 0)) (AAD.loop 0):=AX LL (AEI) (AA AP1 trivial)
theorem AMT:∀ v,AAE v=AO Try.prog RE AAD Try.f10 AAC AAB AAA v:=by
 rintro⟨a0,a1,a2,a3,⟨⟩⟩
 kernel_rfl
theorem ASC:AD (AU Try.f10) 0=[(0,AB Try.f10 0)]:=by kernel_rfl
theorem AH5:AP Try.prog 10 (AG 4 AAC AAB AAA AEL):=AI LL Try.func10 (by kernel_rfl) (by kernel_rfl) rfl (fun v=>(AP3 v).trans (AMT v)) (AA ASC ⟨AP2,trivial⟩)
def M5:Env:=RE.ext 10 true true (AG 4 AAC AAB AAA AEL)
theorem IL:Ae Try.prog M5:=Env.Ai LL AH5 (fun _=>AM rfl rfl) (fun _=>AH rfl rfl)
abbrev HQ:Hints:={ loop:=fun n=>match n with|0=>Ad 0 56 Th Tf Cx|1=>Ad 0 56 Tg Te CT|_=>fun _ _ _=>none,fp:=fun n=>match n with|10=>[[],[4],[4],[],[],[2],[],[3],[],[3]]|15=>[[],[],[],[],[4],[],[1,6],[],[],[],[],[4],[],[3,10],[],[]]|_=>[] }
theorem WU:∀ v,CT v=roundOf Try.prog M5 HQ 2 0 56 (AB Try.f8 1) Tg Te v:=by
 rintro⟨a0,a1,a2,a3,a4,⟨⟩⟩
 kernel_rfl
theorem AID:AD (AB Try.f8 1) 2=[]:=by kernel_rfl
theorem AIF:Ac Try.prog 0 (.loop (AB Try.f8 1)) (HQ.loop 1):=AX IL (WU) (AA AID trivial)
theorem WV:∀ v,Cx v=roundOf Try.prog M5 HQ 1 0 56 (AB Try.f8 0) Th Tf v:=by
 rintro⟨a0,a1,a2,a3,a4,a5,⟨⟩⟩
 kernel_rfl
theorem AIE:AD (AB Try.f8 0) 1=[]:=by kernel_rfl
theorem AIH:Ac Try.prog 0 (.loop (AB Try.f8 0)) (HQ.loop 0):=AX IL (WV) (AA AIE trivial)
theorem AET:∀ v,Jr v=AO Try.prog M5 HQ Try.f8 OF OE OD v:=by
 rintro⟨a0,⟨⟩⟩
 kernel_rfl
theorem AMg:AD (AU Try.f8) 0=[(0,AB Try.f8 0),(1,AB Try.f8 1)]:=by kernel_rfl
theorem AAR:AP Try.prog 8 (AG 1 OF OE OD Js):=AI IL Try.func8 (by kernel_rfl) (by kernel_rfl) rfl (fun v=>(Ti v).trans (AET v)) (AA AMg ⟨AIH,AIF,trivial⟩)
def O2:Env:=M5.ext 8 true true (AG 1 OF OE OD Js)
theorem M8:Ae Try.prog O2:=Env.Ai IL AAR (fun _=>AM rfl rfl) (fun _=>AH rfl rfl)
abbrev ANq:Hints:={  }
theorem AFh:∀ v,Om v=AO Try.prog O2 ANq Try.f5 Ol Oj Oi v:=by
 rintro⟨⟨⟩⟩
 kernel_rfl
theorem ANp:AD (AU Try.f5) 0=[]:=by kernel_rfl
theorem ABW:AP Try.prog 5 (AG 0 Ol Oj Oi G0):=AI M8 Try.func5 (by kernel_rfl) (by kernel_rfl) rfl (fun v=>(AJV v).trans (AFh v)) (AA ANp trivial)
def O9:Env:=O2.ext 5 true true (AG 0 Ol Oj Oi G0)
theorem ND:Ae Try.prog O9:=Env.Ai M8 ABW (fun _=>AM rfl rfl) (fun _=>AH rfl rfl)
abbrev AM5:Hints:={  }
theorem AEw:∀ v,Jw v=AO Try.prog O9 AM5 Try.f6 OP OO ON v:=by
 rintro⟨a0,⟨⟩⟩
 kernel_rfl
theorem AM4:AD (AU Try.f6) 0=[]:=by kernel_rfl
theorem AAp:AP Try.prog 6 (AG 1 OP OO ON Jx):=AI ND Try.func6 (by kernel_rfl) (by kernel_rfl) rfl (fun v=>(Tz v).trans (AEw v)) (AA AM4 trivial)
def J6:Env:=O9.ext 6 true true (AG 1 OP OO ON Jx)
theorem IQ:Ae Try.prog J6:=Env.Ai ND AAp (fun _=>AM rfl rfl) (fun _=>AH rfl rfl)
abbrev D2:Hints:={ loop:=fun n=>match n with|0=>Ad 0 108 KJ KH Bu|1=>Ad 0 108 KI KG Bt|_=>fun _ _ _=>none,fp:=fun n=>match n with|17=>[[0],[],[],[8],[8],[8],[],[],[8],[8],[8],[],[],[]]|_=>[] }
theorem OA:∀ v,Bt v=roundOf Try.prog J6 D2 2 0 108 (AB Try.f4 1) KI KG v:=by
 rintro⟨a0,a1,a2,a3,a4,a5,a6,a7,a8,a9,⟨⟩⟩
 kernel_rfl
theorem WQ:AD (AB Try.f4 1) 2=[]:=by kernel_rfl
theorem WS:Ac Try.prog 0 (.loop (AB Try.f4 1)) (D2.loop 1):=AX IQ (OA) (AA WQ trivial)
theorem OB:∀ v,Bu v=roundOf Try.prog J6 D2 1 0 108 (AB Try.f4 0) KJ KH v:=by
 rintro⟨a0,a1,a2,a3,a4,a5,a6,a7,a8,⟨⟩⟩
 kernel_rfl
theorem WR:AD (AB Try.f4 0) 1=[]:=by kernel_rfl
theorem WT:Ac Try.prog 0 (.loop (AB Try.f4 0)) (D2.loop 0):=AX IQ (OB) (AA WR trivial)
theorem TZ:∀ v,FX v=AO Try.prog J6 D2 Try.f4 H4 H3 H0 v:=by
 rintro⟨a0,a1,⟨⟩⟩
 kernel_rfl
theorem AAJ:AD (AU Try.f4) 0=[(0,AB Try.f4 0),(1,AB Try.f4 1)]:=by kernel_rfl
theorem QS:AP Try.prog 4 (AG 2 H4 H3 H0 EN):=AI IQ Try.func4 (by kernel_rfl) (by kernel_rfl) rfl (fun v=>(KK v).trans (TZ v)) (AA AAJ ⟨WT,WS,trivial⟩)
end
end Go.Pev
end
section

end
