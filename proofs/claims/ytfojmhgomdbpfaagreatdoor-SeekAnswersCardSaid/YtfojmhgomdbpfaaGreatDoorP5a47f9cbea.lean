/- A part of the proofs of this seat: G29cP7 G29cP8 G29cP9 G29cP10 G29cP11 G29cP12 G29cP13 G29cP. -/
import Derived.Test.YtfojmhgomdbpfaaGreatDoorPc604669c64
set_option linter.unusedVariables false
set_option linter.unusedSimpArgs false
set_option linter.unusedSectionVars false
set_option maxRecDepth 100000
section
namespace Go.Pev
open Go.Proofs
noncomputable section
abbrev Hh:Hints:={ loop:=fun n=>match n with|0=>Aa 0 129 AHm AHj HN|1=>Aa 0 129 AHl AHi Ci|2=>Aa 0 129 AHk AHh FU|_=>fun _ _ _=>none,fp:=fun n=>match n with|7=>[[],[],[0],[0],[],[],[],[],[0],[],[0],[0],[],[],[],[],[0],[],[0],[0],[],[],[]]|_=>[] }
theorem AJ0:∀ v,FU v=roundOf Tryz.prog F6 Hh 3 0 129 (AB Tryz.f127 2) AHk AHh v:=by
 rintro⟨a0,a1,a2,a3,a4,a5,a6,a7,a8,a9,a10,a11,a12,a13,a14,a15,a16,a17,a18,a19,a20,a21,a22,a23,a24,a25,a26,a27,⟨⟩⟩
 kernel_rfl
theorem Aai:AD (AB Tryz.f127 2) 3=[]:=by kernel_rfl
theorem Aal:AZ Tryz.prog 0 (.loop (AB Tryz.f127 2)) (Hh.loop 2):=AT EE (AJ0) (AA Aai trivial)
theorem AJ1:∀ v,Ci v=roundOf Tryz.prog F6 Hh 2 0 129 (AB Tryz.f127 1) AHl AHi v:=by
 rintro⟨a0,a1,a2,a3,⟨⟩⟩
 kernel_rfl
theorem Aaj:AD (AB Tryz.f127 1) 2=[(2,AB Tryz.f127 2)]:=by kernel_rfl
theorem Aam:AZ Tryz.prog 0 (.loop (AB Tryz.f127 1)) (Hh.loop 1):=AT EE (AJ1) (AA Aaj ⟨Aal,trivial⟩)
theorem AJ2:∀ v,HN v=roundOf Tryz.prog F6 Hh 1 0 129 (AB Tryz.f127 0) AHm AHj v:=by
 rintro⟨a0,a1,⟨⟩⟩
 kernel_rfl
theorem Aak:AD (AB Tryz.f127 0) 1=[(1,AB Tryz.f127 1)]:=by kernel_rfl
theorem Aan:AZ Tryz.prog 0 (.loop (AB Tryz.f127 0)) (Hh.loop 0):=AT EE (AJ2) (AA Aak ⟨Aam,trivial⟩)
theorem ATh:∀ v,RU v=AL 0 Tryz.prog F6 Hh Tryz.f127 AA2 AA1 AA0 v:=by
 rintro⟨a0,a1,⟨⟩⟩
 kernel_rfl
theorem Aen:AD (AQ Tryz.f127) 0=[(0,AB Tryz.f127 0)]:=by kernel_rfl
theorem AOV:AO Tryz.prog 127 (AF 0 2 AA2 AA1 AA0 AA3):=AG EE Tryz.func127 (by kernel_rfl) (by kernel_rfl) rfl (fun v=>(AHn v).trans (ATh v)) (AA Aen ⟨Aan,trivial⟩)
def Sw:Env:=F6.ext 127 true true (AF 0 2 AA2 AA1 AA0 AA3)
theorem N1:AW Tryz.prog Sw:=Env.Ac EE AOV (fun _=>AI rfl rfl) (fun _=>AH rfl rfl)
abbrev VH:Hints:={ loop:=fun n=>match n with|0=>Aa 0 19 ACX ACW ER|_=>fun _ _ _=>none }
theorem AGh:∀ v,ER v=roundOf Tryz.prog Sw VH 1 0 19 (AB Tryz.f68 0) ACX ACW v:=by
 rintro⟨a0,a1,a2,⟨⟩⟩
 kernel_rfl
theorem AVO:AD (AB Tryz.f68 0) 1=[]:=by kernel_rfl
theorem AVP:AZ Tryz.prog 0 (.loop (AB Tryz.f68 0)) (VH.loop 0):=AT N1 (AGh) (AA AVO trivial)
theorem APj:∀ v,OX v=AL 0 Tryz.prog Sw VH Tryz.f68 VG VF VE v:=by
 rintro⟨a0,a1,⟨⟩⟩
 kernel_rfl
theorem Aby:AD (AQ Tryz.f68) 0=[(0,AB Tryz.f68 0)]:=by kernel_rfl
theorem ALN:AO Tryz.prog 68 (AF 0 2 VG VF VE EH):=AG N1 Tryz.func68 (by kernel_rfl) (by kernel_rfl) rfl (fun v=>(ACY v).trans (APj v)) (AA Aby ⟨AVP,trivial⟩)
def O4:Env:=Sw.ext 68 true true (AF 0 2 VG VF VE EH)
theorem MJ:AW Tryz.prog O4:=Env.Ac N1 ALN (fun _=>AI rfl rfl) (fun _=>AH rfl rfl)
abbrev US:Hints:={ loop:=fun n=>match n with|0=>Aa 0 36 AB8 AB7 Db|_=>fun _ _ _=>none,fp:=fun n=>match n with|6=>[[],[],[],[],[],[],[],[],[],[],[],[],[],[],[],[],[],[],[],[],[],[],[]]|_=>[] }
theorem AGd:∀ v,Db v=roundOf Tryz.prog O4 US 1 0 36 (AB Tryz.f77 0) AB8 AB7 v:=by
 rintro⟨a0,a1,⟨⟩⟩
 kernel_rfl
theorem AUr:AD (AB Tryz.f77 0) 1=[]:=by kernel_rfl
theorem AUs:AZ Tryz.prog 0 (.loop (AB Tryz.f77 0)) (US.loop 0):=AT MJ (AGd) (AA AUr trivial)
theorem APW:∀ v,OQ v=AL 0 Tryz.prog O4 US Tryz.f77 UR UQ UP v:=by
 rintro⟨a0,⟨⟩⟩
 kernel_rfl
theorem Abi:AD (AQ Tryz.f77) 0=[(0,AB Tryz.f77 0)]:=by kernel_rfl
theorem AK5:AO Tryz.prog 77 (AF 0 1 UR UQ UP K5):=AG MJ Tryz.func77 (by kernel_rfl) (by kernel_rfl) rfl (fun v=>(AB9 v).trans (APW v)) (AA Abi ⟨AUs,trivial⟩)
def XU:Env:=O4.ext 77 true true (AF 0 1 UR UQ UP K5)
theorem S9:AW Tryz.prog XU:=Env.Ac MJ AK5 (fun _=>AI rfl rfl) (fun _=>AH rfl rfl)
abbrev Ahl:Hints:={ fp:=fun n=>match n with|4=>[[],[],[],[],[17],[],[],[],[19],[],[]]|_=>[] }
theorem AXQ:∀ v,SQ v=AL 0 Tryz.prog XU Ahl Tryz.f145 AEa AEZ AEY v:=by
 rintro⟨a0,a1,⟨⟩⟩
 kernel_rfl
theorem Ahk:AD (AQ Tryz.f145) 0=[]:=by kernel_rfl
theorem AR9:AO Tryz.prog 145 (AF 0 2 AEa AEZ AEY Qd):=AG S9 Tryz.func145 (by kernel_rfl) (by kernel_rfl) rfl (fun v=>(AI0 v).trans (AXQ v)) (AA Ahk trivial)
def TP:Env:=XU.ext 145 true true (AF 0 2 AEa AEZ AEY Qd)
theorem OA:AW Tryz.prog TP:=Env.Ac S9 AR9 (fun _=>AI rfl rfl) (fun _=>AH rfl rfl)
abbrev UZ:Hints:={ loop:=fun n=>match n with|0=>Aa 0 37 ACN ACL EO|_=>fun _ _ _=>none }
theorem AGf:∀ v,EO v=roundOf Tryz.prog TP UZ 1 0 37 (AB Tryz.f128 0) ACN ACL v:=by
 rintro⟨a0,a1,a2,⟨⟩⟩
 kernel_rfl
theorem AVH:AD (AB Tryz.f128 0) 1=[]:=by kernel_rfl
theorem AVI:AZ Tryz.prog 0 (.loop (AB Tryz.f128 0)) (UZ.loop 0):=AT OA (AGf) (AA AVH trivial)
theorem APg:∀ v,OU v=AL 0 Tryz.prog TP UZ Tryz.f128 UY UX UW v:=by
 rintro⟨a0,⟨⟩⟩
 kernel_rfl
theorem Abu:AD (AQ Tryz.f128) 0=[(0,AB Tryz.f128 0)]:=by kernel_rfl
theorem ALK:AO Tryz.prog 128 (AF 0 1 UY UX UW OV):=AG OA Tryz.func128 (by kernel_rfl) (by kernel_rfl) rfl (fun v=>(ACO v).trans (APg v)) (AA Abu ⟨AVI,trivial⟩)
def O2:Env:=TP.ext 128 true true (AF 0 1 UY UX UW OV)
theorem MG:AW Tryz.prog O2:=Env.Ac OA ALK (fun _=>AI rfl rfl) (fun _=>AH rfl rfl)
abbrev WK:Hints:={ loop:=fun n=>match n with|0=>Aa 0 27 ADr ADq Df|_=>fun _ _ _=>none,fp:=fun n=>match n with|6=>[[],[],[],[],[],[],[],[],[],[]]|_=>[] }
theorem AG1:∀ v,Df v=roundOf Tryz.prog O2 WK 1 0 27 (AB Tryz.f21 0) ADr ADq v:=by
 rintro⟨a0,a1,a2,⟨⟩⟩
 kernel_rfl
theorem AWk:AD (AB Tryz.f21 0) 1=[]:=by kernel_rfl
theorem AWl:AZ Tryz.prog 0 (.loop (AB Tryz.f21 0)) (WK.loop 0):=AT MG (AG1) (AA AWk trivial)
theorem ARV:∀ v,Oa v=AL 0 Tryz.prog O2 WK Tryz.f21 WJ WI WH v:=by
 rintro⟨a0,a1,⟨⟩⟩
 kernel_rfl
theorem Acx:AD (AQ Tryz.f21) 0=[(0,AB Tryz.f21 0)]:=by kernel_rfl
theorem AMH:AO Tryz.prog 21 (AF 0 2 WJ WI WH Ry):=AG MG Tryz.func21 (by kernel_rfl) (by kernel_rfl) rfl (fun v=>(ADs v).trans (ARV v)) (AA Acx ⟨AWl,trivial⟩)
def Kf:Env:=O2.ext 21 true true (AF 0 2 WJ WI WH Ry)
theorem HJ:AW Tryz.prog Kf:=Env.Ac MG AMH (fun _=>AI rfl rfl) (fun _=>AH rfl rfl)
abbrev KG:Hints:={ loop:=fun n=>match n with|0=>Aa 0 106 AB5 AB3 Cz|1=>Aa 0 106 AB4 AB2 Cy|_=>fun _ _ _=>none,fp:=fun n=>match n with|16=>[[],[],[],[],[0],[0],[]]|_=>[] }
theorem AGa:∀ v,Cy v=roundOf Tryz.prog Kf KG 2 0 106 (AB Tryz.f93 1) AB4 AB2 v:=by
 rintro⟨a0,a1,a2,a3,a4,a5,a6,a7,a8,a9,a10,a11,a12,a13,a14,a15,a16,a17,a18,a19,a20,a21,a22,a23,a24,a25,⟨⟩⟩
 kernel_rfl
theorem AUn:AD (AB Tryz.f93 1) 2=[]:=by kernel_rfl
theorem AUp:AZ Tryz.prog 0 (.loop (AB Tryz.f93 1)) (KG.loop 1):=AT HJ (AGa) (AA AUn trivial)
theorem AGb:∀ v,Cz v=roundOf Tryz.prog Kf KG 1 0 106 (AB Tryz.f93 0) AB5 AB3 v:=by
 rintro⟨a0,a1,a2,a3,a4,a5,⟨⟩⟩
 kernel_rfl
theorem AUo:AD (AB Tryz.f93 0) 1=[(1,AB Tryz.f93 1)]:=by kernel_rfl
theorem AUq:AZ Tryz.prog 0 (.loop (AB Tryz.f93 0)) (KG.loop 0):=AT HJ (AGb) (AA AUo ⟨AUp,trivial⟩)
theorem APV:∀ v,OP v=AL 0 Tryz.prog Kf KG Tryz.f93 UO UN UM v:=by
 rintro⟨a0,⟨⟩⟩
 kernel_rfl
theorem Abh:AD (AQ Tryz.f93) 0=[(0,AB Tryz.f93 0)]:=by kernel_rfl
theorem AK4:AO Tryz.prog 93 (AF 0 1 UO UN UM K4):=AG HJ Tryz.func93 (by kernel_rfl) (by kernel_rfl) rfl (fun v=>(AB6 v).trans (APV v)) (AA Abh ⟨AUq,trivial⟩)
def O1:Env:=Kf.ext 93 true true (AF 0 1 UO UN UM K4)
theorem MF:AW Tryz.prog O1:=Env.Ac HJ AK4 (fun _=>AI rfl rfl) (fun _=>AH rfl rfl)
abbrev VD:Hints:={ loop:=fun n=>match n with|0=>Aa 0 22 ACU ACT EP|_=>fun _ _ _=>none }
theorem AGg:∀ v,EP v=roundOf Tryz.prog O1 VD 1 0 22 (AB Tryz.f95 0) ACU ACT v:=by
 rintro⟨a0,a1,a2,a3,⟨⟩⟩
 kernel_rfl
theorem AVM:AD (AB Tryz.f95 0) 1=[]:=by kernel_rfl
theorem AVN:AZ Tryz.prog 0 (.loop (AB Tryz.f95 0)) (VD.loop 0):=AT MF (AGg) (AA AVM trivial)
theorem APi:∀ v,OW v=AL 0 Tryz.prog O1 VD Tryz.f95 VC VB VA v:=by
 rintro⟨a0,a1,⟨⟩⟩
 kernel_rfl
theorem Abx:AD (AQ Tryz.f95) 0=[(0,AB Tryz.f95 0)]:=by kernel_rfl
theorem ALM:AO Tryz.prog 95 (AF 0 2 VC VB VA G7):=AG MF Tryz.func95 (by kernel_rfl) (by kernel_rfl) rfl (fun v=>(ACV v).trans (APi v)) (AA Abx ⟨AVN,trivial⟩)
def O3:Env:=O1.ext 95 true true (AF 0 2 VC VB VA G7)
theorem MH:AW Tryz.prog O3:=Env.Ac MF ALM (fun _=>AI rfl rfl) (fun _=>AH rfl rfl)
abbrev ALI:Hints:={ loop:=fun n=>match n with|0=>Aa 0 38 APb APa Ht|_=>fun _ _ _=>none,fp:=fun n=>match n with|3=>[[],[],[],[],[],[],[],[],[],[],[],[],[0],[0],[],[]]|5=>[[],[],[],[],[3],[],[0],[5,6],[],[],[],[9],[]]|_=>[] }
theorem APZ:∀ v,Ht v=roundOf Tryz.prog O3 ALI 1 0 38 (AB Tryz.f157 0) APb APa v:=by
 rintro⟨a0,a1,a2,⟨⟩⟩
 kernel_rfl
theorem Afv:AD (AB Tryz.f157 0) 1=[]:=by kernel_rfl
theorem Afw:AZ Tryz.prog 0 (.loop (AB Tryz.f157 0)) (ALI.loop 0):=AT MH (APZ) (AA Afv trivial)
theorem Abs:∀ v,Z4 v=AL 0 Tryz.prog O3 ALI Tryz.f157 ALH ALG ALF v:=by
 rintro⟨a0,a1,⟨⟩⟩
 kernel_rfl
theorem AjS:AD (AQ Tryz.f157) 0=[(0,AB Tryz.f157 0)]:=by kernel_rfl
theorem AVD:AO Tryz.prog 157 (AF 0 2 ALH ALG ALF AIL):=AG MH Tryz.func157 (by kernel_rfl) (by kernel_rfl) rfl (fun v=>(APc v).trans (Abs v)) (AA AjS ⟨Afw,trivial⟩)
def ANp:Env:=O3.ext 157 true true (AF 0 2 ALH ALG ALF AIL)
theorem AFz:AW Tryz.prog ANp:=Env.Ac MH AVD (fun _=>AI rfl rfl) (fun _=>AH rfl rfl)
abbrev AN5:Hints:={ fp:=fun n=>match n with|1=>[[],[],[],[],[1],[],[],[],[],[3],[]]|_=>[] }
theorem AGJ:∀ v,Io v=AL 0 Tryz.prog ANp AN5 Tryz.f156 Mf Me Md v:=by
 rintro⟨a0,a1,⟨⟩⟩
 kernel_rfl
theorem AN4:AD (AQ Tryz.f156) 0=[]:=by kernel_rfl
theorem AAQ:AO Tryz.prog 156 (AF 0 2 Mf Me Md Ec):=AG AFz Tryz.func156 (by kernel_rfl) (by kernel_rfl) rfl (fun v=>(RD v).trans (AGJ v)) (AA AN4 trivial)
def Ny:Env:=ANp.ext 156 true true (AF 0 2 Mf Me Md Ec)
theorem Nx:AW Tryz.prog Ny:=Env.Ac AFz AAQ (fun _=>AI rfl rfl) (fun _=>AH rfl rfl)
abbrev Ag6:Hints:={ fp:=fun n=>match n with|13=>[[0],[0],[],[],[],[],[102],[],[110,100],[],[3],[]]|11=>[[],[0],[0],[],[],[],[],[87,96],[],[60],[99,60],[]]|7=>[[0],[],[],[0],[],[],[],[]]|5=>[[0],[],[],[0],[],[],[],[]]|_=>[] }
theorem AWq:∀ v,H6 v=AL 0 Tryz.prog Ny Ag6 Tryz.f141 ADy ADx ADw v:=by
 rintro⟨a0,a1,a2,⟨⟩⟩
 kernel_rfl
theorem Ag5:AD (AQ Tryz.f141) 0=[]:=by kernel_rfl
theorem ARY:AO Tryz.prog 141 (AF 0 3 ADy ADx ADw NQ):=AG Nx Tryz.func141 (by kernel_rfl) (by kernel_rfl) rfl (fun v=>(KR v).trans (AWq v)) (AA Ag5 trivial)
def TL:Env:=Ny.ext 141 true true (AF 0 3 ADy ADx ADw NQ)
theorem N8:AW Tryz.prog TL:=Env.Ac Nx ARY (fun _=>AI rfl rfl) (fun _=>AH rfl rfl)
abbrev ABk:Hints:={ loop:=fun n=>match n with|0=>Aa 0 26 AIA AH9 FW|_=>fun _ _ _=>none,fp:=fun n=>match n with|6=>[[],[],[],[],[],[],[],[],[]]|_=>[] }
theorem AK1:∀ v,FW v=roundOf Tryz.prog TL ABk 1 0 26 (AB Tryz.f17 0) AIA AH9 v:=by
 rintro⟨a0,a1,a2,⟨⟩⟩
 kernel_rfl
theorem AbX:AD (AB Tryz.f17 0) 1=[]:=by kernel_rfl
theorem AbY:AZ Tryz.prog 0 (.loop (AB Tryz.f17 0)) (ABk.loop 0):=AT N8 (AK1) (AA AbX trivial)
theorem AUc:∀ v,Rd v=AL 0 Tryz.prog TL ABk Tryz.f17 ABj ABi ABh v:=by
 rintro⟨a0,a1,⟨⟩⟩
 kernel_rfl
theorem Aff:AD (AQ Tryz.f17) 0=[(0,AB Tryz.f17 0)]:=by kernel_rfl
theorem APG:AO Tryz.prog 17 (AF 0 2 ABj ABi ABh M0):=AG N8 Tryz.func17 (by kernel_rfl) (by kernel_rfl) rfl (fun v=>(AIB v).trans (AUc v)) (AA Aff ⟨AbY,trivial⟩)
def AFv:Env:=TL.ext 17 true true (AF 0 2 ABj ABi ABh M0)
theorem Y1:AW Tryz.prog AFv:=Env.Ac N8 APG (fun _=>AI rfl rfl) (fun _=>AH rfl rfl)
end
end Go.Pev
end
section
namespace Go.Pev
open Go.Proofs
noncomputable section
abbrev Alz:Hints:={  }
theorem Aio:∀ v,AYj v=AL 0 Tryz.prog AFv Alz Tryz.f58 Aey Aex Aew v:=by
 rintro⟨a0,a1,⟨⟩⟩
 kernel_rfl
theorem Aly:AD (AQ Tryz.f58) 0=[]:=by kernel_rfl
theorem Aev:AO Tryz.prog 58 (AF 0 2 Aey Aex Aew tof):=AG Y1 Tryz.func58 (by kernel_rfl) (by kernel_rfl) rfl (fun v=>(Aez v).trans (Aio v)) (AA Aly trivial)
def AaL:Env:=AFv.ext 58 true true (AF 0 2 Aey Aex Aew tof)
theorem AFq:AW Tryz.prog AaL:=Env.Ac Y1 Aev (fun _=>AI rfl rfl) (fun _=>AH rfl rfl)
abbrev Tx:Hints:={ loop:=fun n=>match n with|0=>Aa 0 49 ABD ABC EN|_=>fun _ _ _=>none,fp:=fun n=>match n with|6=>[[],[],[],[],[],[],[],[],[],[],[],[],[0],[0],[],[],[],[],[],[],[],[],[],[],[],[],[],[],[],[],[0],[0],[],[]]|_=>[] }
theorem AGO:∀ v,EN v=roundOf Tryz.prog AaL Tx 1 0 49 (AB Tryz.f140 0) ABD ABC v:=by
 rintro⟨a0,a1,a2,a3,⟨⟩⟩
 kernel_rfl
theorem ATo:AD (AB Tryz.f140 0) 1=[]:=by kernel_rfl
theorem ATp:AZ Tryz.prog 0 (.loop (AB Tryz.f140 0)) (Tx.loop 0):=AT AFq (AGO) (AA ATo trivial)
theorem AOm:∀ v,OK v=AL 0 Tryz.prog AaL Tx Tryz.f140 Tw Tv Tu v:=by
 rintro⟨a0,a1,⟨⟩⟩
 kernel_rfl
theorem Aax:AD (AQ Tryz.f140) 0=[(0,AB Tryz.f140 0)]:=by kernel_rfl
theorem AKJ:AO Tryz.prog 140 (AF 0 2 Tw Tv Tu RX):=AG AFq Tryz.func140 (by kernel_rfl) (by kernel_rfl) rfl (fun v=>(ABE v).trans (AOm v)) (AA Aax ⟨ATp,trivial⟩)
def Oy:Env:=AaL.ext 140 true true (AF 0 2 Tw Tv Tu RX)
theorem L7:AW Tryz.prog Oy:=Env.Ac AFq AKJ (fun _=>AI rfl rfl) (fun _=>AH rfl rfl)
abbrev WO:Hints:={ loop:=fun n=>match n with|0=>Aa 0 48 ADu ADt ET|_=>fun _ _ _=>none,fp:=fun n=>match n with|8=>[[0],[],[],[],[],[],[],[],[],[],[],[],[],[],[],[],[15],[]]|_=>[] }
theorem AG2:∀ v,ET v=roundOf Tryz.prog Oy WO 1 0 48 (AB Tryz.f126 0) ADu ADt v:=by
 rintro⟨a0,a1,a2,a3,a4,a5,⟨⟩⟩
 kernel_rfl
theorem AWn:AD (AB Tryz.f126 0) 1=[]:=by kernel_rfl
theorem AWo:AZ Tryz.prog 0 (.loop (AB Tryz.f126 0)) (WO.loop 0):=AT L7 (AG2) (AA AWn trivial)
theorem ARW:∀ v,Oc v=AL 0 Tryz.prog Oy WO Tryz.f126 WN WM WL v:=by
 rintro⟨a0,a1,⟨⟩⟩
 kernel_rfl
theorem Acy:AD (AQ Tryz.f126) 0=[(0,AB Tryz.f126 0)]:=by kernel_rfl
theorem AMI:AO Tryz.prog 126 (AF 0 2 WN WM WL Rz):=AG L7 Tryz.func126 (by kernel_rfl) (by kernel_rfl) rfl (fun v=>(ADv v).trans (ARW v)) (AA Acy ⟨AWo,trivial⟩)
def Xc:Env:=Oy.ext 126 true true (AF 0 2 WN WM WL Rz)
theorem TK:AW Tryz.prog Xc:=Env.Ac L7 AMI (fun _=>AI rfl rfl) (fun _=>AH rfl rfl)
abbrev AlT:Hints:={  }
theorem Agm:∀ v,ALv v=AL 0 Tryz.prog Xc AlT Tryz.f92 AWC AWB AWA v:=by
 rintro⟨a0,a1,⟨⟩⟩
 kernel_rfl
theorem AlS:AD (AQ Tryz.f92) 0=[]:=by kernel_rfl
theorem AcS:AO Tryz.prog 92 (AF 0 2 AWC AWB AWA Agn):=AG TK Tryz.func92 (by kernel_rfl) (by kernel_rfl) rfl (fun v=>(AZW v).trans (Agm v)) (AA AlS trivial)
def ANt:Env:=Xc.ext 92 true true (AF 0 2 AWC AWB AWA Agn)
theorem XX:AW Tryz.prog ANt:=Env.Ac TK AcS (fun _=>AI rfl rfl) (fun _=>AH rfl rfl)
abbrev Tq:Hints:={ loop:=fun n=>match n with|0=>Aa 0 47 AAy AAx EM|_=>fun _ _ _=>none,fp:=fun n=>match n with|6=>[[],[0],[0],[],[],[],[],[0],[0],[],[],[],[],[],[],[3,4],[]]|_=>[] }
theorem AGN:∀ v,EM v=roundOf Tryz.prog ANt Tq 1 0 47 (AB Tryz.f51 0) AAy AAx v:=by
 rintro⟨a0,a1,a2,a3,a4,⟨⟩⟩
 kernel_rfl
theorem ATd:AD (AB Tryz.f51 0) 1=[]:=by kernel_rfl
theorem ATe:AZ Tryz.prog 0 (.loop (AB Tryz.f51 0)) (Tq.loop 0):=AT XX (AGN) (AA ATd trivial)
theorem AOU:∀ v,OH v=AL 0 Tryz.prog ANt Tq Tryz.f51 Tp To Tn v:=by
 rintro⟨a0,a1,⟨⟩⟩
 kernel_rfl
theorem Aag:AD (AQ Tryz.f51) 0=[(0,AB Tryz.f51 0)]:=by kernel_rfl
theorem AJz:AO Tryz.prog 51 (AF 0 2 Tp To Tn RT):=AG XX Tryz.func51 (by kernel_rfl) (by kernel_rfl) rfl (fun v=>(AAz v).trans (AOU v)) (AA Aag ⟨ATe,trivial⟩)
def XQ:Env:=ANt.ext 51 true true (AF 0 2 Tp To Tn RT)
theorem Sv:AW Tryz.prog XQ:=Env.Ac XX AJz (fun _=>AI rfl rfl) (fun _=>AH rfl rfl)
abbrev AXS:Hints:={ fp:=fun n=>match n with|3=>[[0],[0],[0],[],[],[12],[],[],[3],[]]|_=>[] }
theorem AMm:∀ v,Lh v=AL 0 Tryz.prog XQ AXS Tryz.f66 Qg Qf Qe v:=by
 rintro⟨a0,a1,⟨⟩⟩
 kernel_rfl
theorem AXR:AD (AQ Tryz.f66) 0=[]:=by kernel_rfl
theorem AHD:AO Tryz.prog 66 (AF 0 2 Qg Qf Qe Nb):=AG Sv Tryz.func66 (by kernel_rfl) (by kernel_rfl) rfl (fun v=>(Ye v).trans (AMm v)) (AA AXR trivial)
def Q8:Env:=XQ.ext 66 true true (AF 0 2 Qg Qf Qe Nb)
theorem Pa:AW Tryz.prog Q8:=Env.Ac Sv AHD (fun _=>AI rfl rfl) (fun _=>AH rfl rfl)
abbrev Ac1:Hints:={ fp:=fun n=>match n with|3=>[[0],[0],[0],[],[],[12],[],[],[3],[]]|_=>[] }
theorem ARZ:∀ v,HT v=AL 0 Tryz.prog Q8 Ac1 Tryz.f57 WS WR WQ v:=by
 rintro⟨a0,a1,⟨⟩⟩
 kernel_rfl
theorem Ac0:AD (AQ Tryz.f57) 0=[]:=by kernel_rfl
theorem AMJ:AO Tryz.prog 57 (AF 0 2 WS WR WQ LP):=AG Pa Tryz.func57 (by kernel_rfl) (by kernel_rfl) rfl (fun v=>(LO v).trans (ARZ v)) (AA Ac0 trivial)
def Xd:Env:=Q8.ext 57 true true (AF 0 2 WS WR WQ LP)
theorem TM:AW Tryz.prog Xd:=Env.Ac Pa AMJ (fun _=>AI rfl rfl) (fun _=>AH rfl rfl)
abbrev AlV:Hints:={  }
theorem Ago:∀ v,ALw v=AL 0 Tryz.prog Xd AlV Tryz.f67 AWF AWE AWD v:=by
 rintro⟨a0,a1,⟨⟩⟩
 kernel_rfl
theorem AlU:AD (AQ Tryz.f67) 0=[]:=by kernel_rfl
theorem AcU:AO Tryz.prog 67 (AF 0 2 AWF AWE AWD Agp):=AG TM Tryz.func67 (by kernel_rfl) (by kernel_rfl) rfl (fun v=>(AZX v).trans (Ago v)) (AA AlU trivial)
def AiY:Env:=Xd.ext 67 true true (AF 0 2 AWF AWE AWD Agp)
theorem AeR:AW Tryz.prog AiY:=Env.Ac TM AcU (fun _=>AI rfl rfl) (fun _=>AH rfl rfl)
theorem AiF : (Tryz.f64.name == "runtime.NumGoroutine") = false := by kernel_rfl
theorem AM7:AGI Tryz.prog Tryz.f64 43 3 (.int .i64) where
 body:=by kernel_rfl
 nt:=by kernel_rfl
 res:=by kernel_rfl
 d:=⟨by kernel_rfl,by kernel_rfl,by kernel_rfl,by kernel_rfl,by kernel_rfl,by kernel_rfl,by kernel_rfl,by kernel_rfl⟩
 g:=⟨by kernel_rfl,by kernel_rfl,by kernel_rfl,by kernel_rfl,by kernel_rfl,by kernel_rfl,by kernel_rfl,by kernel_rfl⟩
 o00:=by kernel_rfl
 o10:=by kernel_rfl
 o11:=by kernel_rfl
 o20:=by kernel_rfl
 o30:=by kernel_rfl
 o31:=by kernel_rfl
 o32:=by kernel_rfl
 o33:=by kernel_rfl
 sl:=by kernel_rfl
 z:=by kernel_rfl
 by1:=by kernel_rfl
def AGD:Env:=AiY.ext 64 true true (HV 3 (.int .i64))
theorem ZC:AW Tryz.prog AGD:=Env.Ac AeR (AiE AM7 Tryz.func64 AiF) (fun _=>MX _ _) (fun _=>(MX _ _).AmJ)
abbrev Ai2:Hints:={ fp:=fun n=>match n with|1=>[[0],[0],[2],[2],[],[0],[0],[2],[2],[],[],[20],[]]|_=>[] }
theorem AbF:∀ v,Z0 v=AL 0 Tryz.prog AGD Ai2 Tryz.f60 AKi AKh AKg v:=by
 rintro⟨a0,a1,⟨⟩⟩
 kernel_rfl
theorem Ai1:AD (AQ Tryz.f60) 0=[]:=by kernel_rfl
theorem AUG:AO Tryz.prog 60 (AF 0 2 AKi AKh AKg BO):=AG ZC Tryz.func60 (by kernel_rfl) (by kernel_rfl) rfl (fun v=>(AOz v).trans (AbF v)) (AA Ai1 trivial)
def S4:Env:=AGD.ext 60 true true (AF 0 2 AKi AKh AKg BO)
theorem MA:AW Tryz.prog S4:=Env.Ac ZC AUG (fun _=>AI rfl rfl) (fun _=>AH rfl rfl)
abbrev AD8:Hints:={ loop:=fun n=>match n with|0=>Aa 1 53 AZo AZm AZk|1=>Aa 1 53 AZn AZl AZj|_=>fun _ _ _=>none,fp:=fun n=>match n with|4=>[[],[],[],[],[],[],[],[0],[0],[],[],[],[0],[0],[],[],[]]|6=>[[],[],[],[],[],[],[],[],[0],[0],[],[],[0],[0],[0],[1],[0],[1]]|_=>[] }
theorem AW6:∀ v,AZj v=roundOf Tryz.prog S4 AD8 2 1 53 (AB Tryz.f115 1) AZn AZl v:=by
 rintro⟨a0,a1,a2,a3,a4,⟨⟩⟩
 kernel_rfl
theorem Aj3:AD (AB Tryz.f115 1) 2=[]:=by kernel_rfl
theorem Aj5:AZ Tryz.prog 1 (.loop (AB Tryz.f115 1)) (AD8.loop 1):=AT MA (AW6) (AA Aj3 trivial)
theorem AW7:∀ v,AZk v=roundOf Tryz.prog S4 AD8 1 1 53 (AB Tryz.f115 0) AZo AZm v:=by
 rintro⟨a0,a1,a2,a3,⟨⟩⟩
 kernel_rfl
theorem Aj4:AD (AB Tryz.f115 0) 1=[(1,AB Tryz.f115 1)]:=by kernel_rfl
theorem Aj6:AZ Tryz.prog 1 (.loop (AB Tryz.f115 0)) (AD8.loop 0):=AT MA (AW7) (AA Aj4 ⟨Aj5,trivial⟩)
theorem AhF:∀ v,AhG v=AL 1 Tryz.prog S4 AD8 Tryz.f115 AXA AW9 AW8 v:=by
 rintro⟨a0,a1,a2,⟨⟩⟩
 kernel_rfl
theorem Ale:AD (AQ Tryz.f115) 0=[(0,AB Tryz.f115 0)]:=by kernel_rfl
theorem AdA:AO Tryz.prog 115 (AF 1 4 AXA AW9 AW8 Alf):=AG MA Tryz.func115 (by kernel_rfl) (by kernel_rfl) rfl (fun v=>(Aj7 v).trans (AhF v)) (AA Ale ⟨Aj6,trivial⟩)
def ANw:Env:=S4.CD 115 3 60 (AF 1 4 AXA AW9 AW8 Alf)
theorem Xf:AW Tryz.prog ANw:=Env.Ay MA AdA (AH rfl rfl)
abbrev AKr:Hints:={ loop:=fun n=>match n with|0=>Aa 1 82 AO7 AO6 AO5|_=>fun _ _ _=>none,fp:=fun n=>match n with|6=>[[],[],[],[],[],[],[],[],[],[],[],[],[0],[0],[],[],[],[],[0],[0],[0],[1],[0],[1]]|5=>[[],[],[],[],[],[0],[0],[],[],[],[],[0],[0],[],[],[]]|3=>[[],[],[],[],[],[],[],[],[],[],[0],[0],[],[],[],[],[],[0],[0],[],[],[]]|_=>[] }
theorem AO4:∀ v,AO5 v=roundOf Tryz.prog ANw AKr 1 1 82 (AB Tryz.f135 0) AO7 AO6 v:=by
 rintro⟨a0,a1,a2,a3,⟨⟩⟩
 kernel_rfl
theorem AfU:AD (AB Tryz.f135 0) 1=[]:=by kernel_rfl
theorem AfV:AZ Tryz.prog 1 (.loop (AB Tryz.f135 0)) (AKr.loop 0):=AT Xf (AO4) (AA AfU trivial)
theorem AbI:∀ v,AYz v=AL 1 Tryz.prog ANw AKr Tryz.f135 AKq AKp AKo v:=by
 rintro⟨a0,a1,a2,a3,⟨⟩⟩
 kernel_rfl
theorem Ai8:AD (AQ Tryz.f135) 0=[(0,AB Tryz.f135 0)]:=by kernel_rfl
theorem AUP:AO Tryz.prog 135 (AF 1 5 AKq AKp AKo AfX):=AG Xf Tryz.func135 (by kernel_rfl) (by kernel_rfl) rfl (fun v=>(AfW v).trans (AbI v)) (AA Ai8 ⟨AfV,trivial⟩)
def S6:Env:=ANw.CD 135 4 60 (AF 1 5 AKq AKp AKo AfX)
theorem MD:AW Tryz.prog S6:=Env.Ay Xf AUP (AH rfl rfl)
end
end Go.Pev
end
section
namespace Go.Pev
open Go.Proofs
noncomputable section
abbrev SM:Hints:={ loop:=fun n=>match n with|0=>Aa 1 60 ARz ARx ARv|1=>Aa 1 60 ARy ARw ARt|_=>fun _ _ _=>none,fp:=fun n=>match n with|10=>[[],[],[],[],[],[],[],[],[],[],[0],[0],[],[],[0],[0],[0],[1],[0],[1]]|_=>[] }
theorem ARs:∀ v,ARt v=roundOf Tryz.prog S6 SM 2 1 60 (AB Tryz.f116 1) ARy ARw v:=by
 rintro⟨a0,a1,a2,a3,⟨⟩⟩
 kernel_rfl
theorem AhX:AD (AB Tryz.f116 1) 2=[]:=by kernel_rfl
theorem AhZ:AZ Tryz.prog 1 (.loop (AB Tryz.f116 1)) (SM.loop 1):=AT MD (ARs) (AA AhX trivial)
theorem ARu:∀ v,ARv v=roundOf Tryz.prog S6 SM 1 1 60 (AB Tryz.f116 0) ARz ARx v:=by
 rintro⟨a0,a1,a2,a3,a4,⟨⟩⟩
 kernel_rfl
theorem AhY:AD (AB Tryz.f116 0) 1=[]:=by kernel_rfl
theorem Aha:AZ Tryz.prog 1 (.loop (AB Tryz.f116 0)) (SM.loop 0):=AT MD (ARu) (AA AhY trivial)
theorem AdM:∀ v,AZt v=AL 1 Tryz.prog S6 SM Tryz.f116 AMc AMb AMa v:=by
 rintro⟨a0,a1,a2,⟨⟩⟩
 kernel_rfl
theorem AkA:AD (AQ Tryz.f116) 0=[(0,AB Tryz.f116 0),(1,AB Tryz.f116 1)]:=by kernel_rfl
theorem AXH:AO Tryz.prog 116 (AF 1 4 AMc AMb AMa Ahc):=AG MD Tryz.func116 (by kernel_rfl) (by kernel_rfl) rfl (fun v=>(Ahb v).trans (AdM v)) (AA AkA ⟨Aha,AhZ,trivial⟩)
def AAL:Env:=S6.CD 116 3 60 (AF 1 4 AMc AMb AMa Ahc)
theorem Q7:AW Tryz.prog AAL:=Env.Ay MD AXH (AH rfl rfl)
abbrev AFT:Hints:={ loop:=fun n=>match n with|0=>Aa 1 67 AJE AJD AJC|_=>fun _ _ _=>none,fp:=fun n=>match n with|10=>[[],[],[],[],[],[],[],[],[],[],[0],[0],[],[],[0],[0],[0],[1],[0],[1]]|_=>[] }
theorem ANN:∀ v,AJC v=roundOf Tryz.prog AAL AFT 1 1 67 (AB Tryz.f117 0) AJE AJD v:=by
 rintro⟨a0,a1,a2,a3,a4,a5,⟨⟩⟩
 kernel_rfl
theorem Ad6:AD (AB Tryz.f117 0) 1=[]:=by kernel_rfl
theorem Ad7:AZ Tryz.prog 1 (.loop (AB Tryz.f117 0)) (AFT.loop 0):=AT Q7 (ANN) (AA Ad6 trivial)
theorem AYB:∀ v,ASt v=AL 1 Tryz.prog AAL AFT Tryz.f117 AFS AFR AFQ v:=by
 rintro⟨a0,a1,a2,⟨⟩⟩
 kernel_rfl
theorem AiJ:AD (AQ Tryz.f117) 0=[(0,AB Tryz.f117 0)]:=by kernel_rfl
theorem ASs:AO Tryz.prog 117 (AF 1 4 AFS AFR AFQ AYC):=AG Q7 Tryz.func117 (by kernel_rfl) (by kernel_rfl) rfl (fun v=>(Ad8 v).trans (AYB v)) (AA AiJ ⟨Ad7,trivial⟩)
def AGF:Env:=AAL.CD 117 3 60 (AF 1 4 AFS AFR AFQ AYC)
theorem ZE:AW Tryz.prog AGF:=Env.Ay Q7 ASs (AH rfl rfl)
abbrev AcM:Hints:={ fp:=fun n=>match n with|1=>[[],[],[],[0],[0],[],[],[0],[0],[],[]]|_=>[] }
theorem AQ5:∀ v,AIb v=AL 2 Tryz.prog AGF AcM Tryz.f155 VV VU VT v:=by
 rintro⟨a0,a1,a2,a3,⟨⟩⟩
 kernel_rfl
theorem AcL:AD (AQ Tryz.f155) 0=[]:=by kernel_rfl
theorem ALp:AO Tryz.prog 155 (AF 2 5 VV VU VT ALq):=AG ZE Tryz.func155 (by kernel_rfl) (by kernel_rfl) rfl (fun v=>(AV2 v).trans (AQ5 v)) (AA AcL trivial)
def XW:Env:=AGF.CD 155 4 60 (AF 2 5 VV VU VT ALq)
theorem TD:AW Tryz.prog XW:=Env.Ay ZE ALp (AH rfl rfl)
abbrev Acg:Hints:={  }
theorem ARF:∀ v,AIe v=AL 2 Tryz.prog XW Acg Tryz.f139 Vu Vt Vs v:=by
 rintro⟨a0,a1,a2,a3,a4,⟨⟩⟩
 kernel_rfl
theorem Acf:AD (AQ Tryz.f139) 0=[]:=by kernel_rfl
theorem AL3:AO Tryz.prog 139 (AF 2 6 Vu Vt Vs AL4):=AG TD Tryz.func139 (by kernel_rfl) (by kernel_rfl) rfl (fun v=>(AWU v).trans (ARF v)) (AA Acf trivial)
def XZ:Env:=XW.CD 139 5 60 (AF 2 6 Vu Vt Vs AL4)
theorem TF:AW Tryz.prog XZ:=Env.Ay TD AL3 (AH rfl rfl)
abbrev Ack:Hints:={  }
theorem ARH:∀ v,AIg v=AL 2 Tryz.prog XZ Ack Tryz.f138 WA Vz Vy v:=by
 rintro⟨a0,a1,a2,⟨⟩⟩
 kernel_rfl
theorem Acj:AD (AQ Tryz.f138) 0=[]:=by kernel_rfl
theorem AL7:AO Tryz.prog 138 (AF 2 4 WA Vz Vy AL8):=AG TF Tryz.func138 (by kernel_rfl) (by kernel_rfl) rfl (fun v=>(AWX v).trans (ARH v)) (AA Acj trivial)
def Xb:Env:=XZ.CD 138 3 60 (AF 2 4 WA Vz Vy AL8)
theorem TH:AW Tryz.prog Xb:=Env.Ay TF AL7 (AH rfl rfl)
abbrev Af3:Hints:={  }
theorem AVT:∀ v,APn v=AL 1 Tryz.prog Xb Af3 Tryz.f118 ACf ACe ACd v:=by
 rintro⟨a0,a1,a2,⟨⟩⟩
 kernel_rfl
theorem Af2:AD (AQ Tryz.f118) 0=[]:=by kernel_rfl
theorem APm:AO Tryz.prog 118 (AF 1 4 ACf ACe ACd AVU):=AG TH Tryz.func118 (by kernel_rfl) (by kernel_rfl) rfl (fun v=>(Ab1 v).trans (AVT v)) (AA Af2 trivial)
def TB:Env:=Xb.CD 118 3 60 (AF 1 4 ACf ACe ACd AVU)
theorem N6:AW Tryz.prog TB:=Env.Ay TH APm (AH rfl rfl)
abbrev AU3:Hints:={ loop:=fun n=>match n with|0=>Aa 1 34 AZC AZB AZA|_=>fun _ _ _=>none,fp:=fun n=>match n with|3=>[[],[],[],[],[],[],[0],[0],[],[],[0],[0],[0],[1],[0],[1]]|_=>[] }
theorem AUz:∀ v,AZA v=roundOf Tryz.prog TB AU3 1 1 34 (AB Tryz.f119 0) AZC AZB v:=by
 rintro⟨a0,a1,a2,⟨⟩⟩
 kernel_rfl
theorem AjP:AD (AB Tryz.f119 0) 1=[]:=by kernel_rfl
theorem AjQ:AZ Tryz.prog 1 (.loop (AB Tryz.f119 0)) (AU3.loop 0):=AT N6 (AUz) (AA AjP trivial)
theorem Afp:∀ v,Afq v=AL 1 Tryz.prog TB AU3 Tryz.f119 AU2 AU1 AU0 v:=by
 rintro⟨a0,a1,a2,⟨⟩⟩
 kernel_rfl
theorem AlG:AD (AQ Tryz.f119) 0=[(0,AB Tryz.f119 0)]:=by kernel_rfl
theorem Abn:AO Tryz.prog 119 (AF 1 4 AU2 AU1 AU0 AlH):=AG N6 Tryz.func119 (by kernel_rfl) (by kernel_rfl) rfl (fun v=>(AjR v).trans (Afp v)) (AA AlG ⟨AjQ,trivial⟩)
def Q5:Env:=TB.CD 119 3 60 (AF 1 4 AU2 AU1 AU0 AlH)
theorem Hc:AW Tryz.prog Q5:=Env.Ay N6 Abn (AH rfl rfl)
abbrev C2:Hints:={ loop:=fun n=>match n with|0=>Aa 1 141 YS YO YK|1=>Aa 1 141 YR YN YJ|2=>Aa 1 141 YQ YM YI|3=>Aa 1 141 YP YL YH|_=>fun _ _ _=>none,fp:=fun n=>match n with|11=>[[],[],[],[],[],[],[],[],[0],[0],[],[],[0],[0],[0],[1],[0],[1]]|5=>[[],[],[],[],[],[],[],[0],[0],[],[],[],[0],[0],[],[],[],[]]|17=>[[],[],[],[],[],[],[],[],[0],[0],[],[],[0],[0],[0],[1],[0],[1]]|16=>[[],[],[],[0],[0],[],[],[],[0],[0],[],[],[]]|23=>[[],[],[],[],[],[],[],[],[0],[0],[],[],[0],[0],[0],[1],[0],[1]]|22=>[[],[],[],[0],[0],[],[],[],[0],[0],[],[],[]]|_=>[] }
theorem AC0:∀ v,YH v=roundOf Tryz.prog Q5 C2 4 1 141 (AB Tryz.f120 3) YP YL v:=by
 rintro⟨a0,a1,a2,a3,a4,a5,⟨⟩⟩
 kernel_rfl
theorem AQN:AD (AB Tryz.f120 3) 4=[]:=by kernel_rfl
theorem AQR:AZ Tryz.prog 1 (.loop (AB Tryz.f120 3)) (C2.loop 3):=AT Hc (AC0) (AA AQN trivial)
theorem AC1:∀ v,YI v=roundOf Tryz.prog Q5 C2 3 1 141 (AB Tryz.f120 2) YQ YM v:=by
 rintro⟨a0,a1,a2,a3,a4,a5,⟨⟩⟩
 kernel_rfl
theorem AQO:AD (AB Tryz.f120 2) 3=[]:=by kernel_rfl
theorem AQS:AZ Tryz.prog 1 (.loop (AB Tryz.f120 2)) (C2.loop 2):=AT Hc (AC1) (AA AQO trivial)
theorem AC2:∀ v,YJ v=roundOf Tryz.prog Q5 C2 2 1 141 (AB Tryz.f120 1) YR YN v:=by
 rintro⟨a0,a1,a2,a3,a4,⟨⟩⟩
 kernel_rfl
theorem AQP:AD (AB Tryz.f120 1) 2=[]:=by kernel_rfl
theorem AQT:AZ Tryz.prog 1 (.loop (AB Tryz.f120 1)) (C2.loop 1):=AT Hc (AC2) (AA AQP trivial)
theorem AC3:∀ v,YK v=roundOf Tryz.prog Q5 C2 1 1 141 (AB Tryz.f120 0) YS YO v:=by
 rintro⟨a0,a1,a2,a3,a4,⟨⟩⟩
 kernel_rfl
theorem AQQ:AD (AB Tryz.f120 0) 1=[(1,AB Tryz.f120 1),(2,AB Tryz.f120 2),(3,AB Tryz.f120 3)]:=by kernel_rfl
theorem AQU:AZ Tryz.prog 1 (.loop (AB Tryz.f120 0)) (C2.loop 0):=AT Hc (AC3) (AA AQQ ⟨AQT,AQS,AQR,trivial⟩)
theorem ALa:∀ v,AC4 v=AL 1 Tryz.prog Q5 C2 Tryz.f120 QD QC QB v:=by
 rintro⟨a0,a1,a2,⟨⟩⟩
 kernel_rfl
theorem AVg:AD (AQ Tryz.f120) 0=[(0,AB Tryz.f120 0)]:=by kernel_rfl
theorem AGo:AO Tryz.prog 120 (AF 1 4 QD QC QB AC5):=AG Hc Tryz.func120 (by kernel_rfl) (by kernel_rfl) rfl (fun v=>(AQV v).trans (ALa v)) (AA AVg ⟨AQU,trivial⟩)
def F9:Env:=Q5.CD 120 3 60 (AF 1 4 QD QC QB AC5)
theorem EG:AW Tryz.prog F9:=Env.Ay Hc AGo (AH rfl rfl)
abbrev Fb:Hints:={ loop:=fun n=>match n with|0=>Aa 1 90 ADO ADL ADI|1=>Aa 1 90 ADN ADK ADH|2=>Aa 1 90 ADM ADJ ADG|_=>fun _ _ _=>none,fp:=fun n=>match n with|8=>[[],[],[],[],[],[],[0],[0],[],[],[0],[0],[0],[1],[0],[1]]|3=>[[],[],[],[],[],[],[],[0],[0],[],[],[0],[0],[],[],[],[]]|5=>[[],[],[],[],[],[],[],[0],[0],[],[],[0],[0],[],[],[]]|1=>[[],[],[],[],[],[],[0],[0],[],[],[0],[0],[0],[1],[0],[1]]|_=>[] }
theorem AGu:∀ v,ADG v=roundOf Tryz.prog F9 Fb 3 1 90 (AB Tryz.f121 2) ADM ADJ v:=by
 rintro⟨a0,a1,a2,a3,⟨⟩⟩
 kernel_rfl
theorem AVq:AD (AB Tryz.f121 2) 3=[]:=by kernel_rfl
theorem AVt:AZ Tryz.prog 1 (.loop (AB Tryz.f121 2)) (Fb.loop 2):=AT EG (AGu) (AA AVq trivial)
theorem AGv:∀ v,ADH v=roundOf Tryz.prog F9 Fb 2 1 90 (AB Tryz.f121 1) ADN ADK v:=by
 rintro⟨a0,a1,a2,a3,⟨⟩⟩
 kernel_rfl
theorem AVr:AD (AB Tryz.f121 1) 2=[]:=by kernel_rfl
theorem AVu:AZ Tryz.prog 1 (.loop (AB Tryz.f121 1)) (Fb.loop 1):=AT EG (AGv) (AA AVr trivial)
theorem AGw:∀ v,ADI v=roundOf Tryz.prog F9 Fb 1 1 90 (AB Tryz.f121 0) ADO ADL v:=by
 rintro⟨a0,a1,a2,a3,⟨⟩⟩
 kernel_rfl
theorem AVs:AD (AB Tryz.f121 0) 1=[(1,AB Tryz.f121 1),(2,AB Tryz.f121 2)]:=by kernel_rfl
theorem AVv:AZ Tryz.prog 1 (.loop (AB Tryz.f121 0)) (Fb.loop 0):=AT EG (AGw) (AA AVs ⟨AVu,AVt,trivial⟩)
theorem AQc:∀ v,AIU v=AL 1 Tryz.prog F9 Fb Tryz.f121 VP VO VN v:=by
 rintro⟨a0,a1,a2,a3,⟨⟩⟩
 kernel_rfl
theorem AcE:AD (AQ Tryz.f121) 0=[(0,AB Tryz.f121 0)]:=by kernel_rfl
theorem ALe:AO Tryz.prog 121 (AF 1 5 VP VO VN ALf):=AG EG Tryz.func121 (by kernel_rfl) (by kernel_rfl) rfl (fun v=>(AVw v).trans (AQc v)) (AA AcE ⟨AVv,trivial⟩)
def Ew:Env:=F9.CD 121 4 60 (AF 1 5 VP VO VN ALf)
theorem DF:AW Tryz.prog Ew:=Env.Ay EG ALe (AH rfl rfl)
abbrev E2:Hints:={ loop:=fun n=>match n with|0=>Aa 1 178 AQw AQr AQm|1=>Aa 1 178 AQv AQq AQk|2=>Aa 1 178 AQu AQp AQi|3=>Aa 1 178 AQt AQo AQg|4=>Aa 1 178 AQs AQn AQe|_=>fun _ _ _=>none,fp:=fun n=>match n with|3=>[[],[],[],[],[],[],[],[0],[0],[],[],[0],[0],[],[],[]]|5=>[[],[],[],[],[],[],[],[0],[0],[],[],[0],[0],[],[],[],[]]|18=>[[],[],[],[],[],[],[0],[0],[],[],[0],[0],[0],[1],[0],[1]]|13=>[[],[],[],[],[],[],[],[0],[0],[],[],[0],[0],[],[],[]]|15=>[[],[],[],[],[],[],[],[0],[0],[],[],[0],[0],[],[],[],[]]|21=>[[],[],[],[],[],[],[0],[0],[],[],[0],[0],[0],[1],[0],[1]]|10=>[[],[],[],[],[],[],[0],[0],[],[],[0],[0],[0],[1],[0],[1]]|8=>[[],[],[],[],[],[],[0],[0],[],[],[0],[0],[0],[1],[0],[1]]|1=>[[],[],[],[],[],[],[0],[0],[],[],[0],[0],[0],[1],[0],[1]]|_=>[] }
theorem AQd:∀ v,AQe v=roundOf Tryz.prog Ew E2 5 1 178 (AB Tryz.f122 4) AQs AQn v:=by
 rintro⟨a0,a1,a2,a3,⟨⟩⟩
 kernel_rfl
theorem AgM:AD (AB Tryz.f122 4) 5=[]:=by kernel_rfl
theorem AgR:AZ Tryz.prog 1 (.loop (AB Tryz.f122 4)) (E2.loop 4):=AT DF (AQd) (AA AgM trivial)
theorem AQf:∀ v,AQg v=roundOf Tryz.prog Ew E2 4 1 178 (AB Tryz.f122 3) AQt AQo v:=by
 rintro⟨a0,a1,a2,a3,⟨⟩⟩
 kernel_rfl
theorem AgN:AD (AB Tryz.f122 3) 4=[]:=by kernel_rfl
theorem AgS:AZ Tryz.prog 1 (.loop (AB Tryz.f122 3)) (E2.loop 3):=AT DF (AQf) (AA AgN trivial)
theorem AQh:∀ v,AQi v=roundOf Tryz.prog Ew E2 3 1 178 (AB Tryz.f122 2) AQu AQp v:=by
 rintro⟨a0,a1,a2,a3,⟨⟩⟩
 kernel_rfl
theorem AgO:AD (AB Tryz.f122 2) 3=[(3,AB Tryz.f122 3),(4,AB Tryz.f122 4)]:=by kernel_rfl
theorem AgT:AZ Tryz.prog 1 (.loop (AB Tryz.f122 2)) (E2.loop 2):=AT DF (AQh) (AA AgO ⟨AgS,AgR,trivial⟩)
theorem AQj:∀ v,AQk v=roundOf Tryz.prog Ew E2 2 1 178 (AB Tryz.f122 1) AQv AQq v:=by
 rintro⟨a0,a1,a2,a3,⟨⟩⟩
 kernel_rfl
theorem AgP:AD (AB Tryz.f122 1) 2=[]:=by kernel_rfl
theorem AgU:AZ Tryz.prog 1 (.loop (AB Tryz.f122 1)) (E2.loop 1):=AT DF (AQj) (AA AgP trivial)
theorem AQl:∀ v,AQm v=roundOf Tryz.prog Ew E2 1 1 178 (AB Tryz.f122 0) AQw AQr v:=by
 rintro⟨a0,a1,a2,a3,⟨⟩⟩
 kernel_rfl
theorem AgQ:AD (AB Tryz.f122 0) 1=[]:=by kernel_rfl
theorem AgV:AZ Tryz.prog 1 (.loop (AB Tryz.f122 0)) (E2.loop 0):=AT DF (AQl) (AA AgQ trivial)
theorem AcF:∀ v,AZO v=AL 1 Tryz.prog Ew E2 Tryz.f122 ALi ALh ALg v:=by
 rintro⟨a0,a1,a2,a3,⟨⟩⟩
 kernel_rfl
theorem Aje:AD (AQ Tryz.f122) 0=[(0,AB Tryz.f122 0),(1,AB Tryz.f122 1),(2,AB Tryz.f122 2)]:=by kernel_rfl
theorem AVx:AO Tryz.prog 122 (AF 1 5 ALi ALh ALg AgX):=AG DF Tryz.func122 (by kernel_rfl) (by kernel_rfl) rfl (fun v=>(AgW v).trans (AcF v)) (AA Aje ⟨AgV,AgU,AgT,trivial⟩)
def ANr:Env:=Ew.CD 122 4 60 (AF 1 5 ALi ALh ALg AgX)
theorem AF3:AW Tryz.prog ANr:=Env.Ay DF AVx (AH rfl rfl)
abbrev AVc(self:(List (Int×Int×Unit)×Int×Int×Int×Unit)→Option ((List (Int×Int×Unit)×Unit))):Hints:={ loop:=fun n=>match n with|0=>Aa 1 148 AZM AZL (AZK self)|_=>fun _ _ _=>none,fp:=fun n=>match n with|17=>[[],[],[],[],[],[],[],[0],[0],[],[],[0],[0],[],[],[],[]]|_=>[] }
abbrev ALU(self:(List (Int×Int×Unit)×Int×Int×Int×Unit)→Option ((List (Int×Int×Unit)×Unit))):Env:=ANr.ext 88 false true (AF 1 5 ACs ACr ACq self)
theorem AVb(self:(List (Int×Int×Unit)×Int×Int×Int×Unit)→Option ((List (Int×Int×Unit)×Unit))):∀ v,AZK self v=roundOf Tryz.prog (ALU self) (AVc self) 1 1 148 (AB Tryz.f88 0) AZM AZL v:=by
 rintro⟨a0,a1,a2,a3,a4,a5,⟨⟩⟩
 kernel_rfl
theorem AjZ:AD (AB Tryz.f88 0) 1=[]:=by kernel_rfl
theorem Aja(self:(List (Int×Int×Unit)×Int×Int×Int×Unit)→Option ((List (Int×Int×Unit)×Unit)))(hE:AW Tryz.prog (ALU self)):AZ Tryz.prog 1 (.loop (AB Tryz.f88 0)) ((AVc self).loop 0):=AT hE (AVb self) (AA AjZ trivial)
theorem Af8(self:(List (Int×Int×Unit)×Int×Int×Int×Unit)→Option ((List (Int×Int×Unit)×Unit))):∀ v,AlN self v=AL 1 Tryz.prog (ALU self) (AVc self) Tryz.f88 ACs ACr ACq v:=by
 rintro⟨a0,a1,a2,a3,⟨⟩⟩
 kernel_rfl
theorem AlM:AD (AQ Tryz.f88) 0=[(0,AB Tryz.f88 0)]:=by kernel_rfl
theorem AVd:∀ n,AO Tryz.prog 88 (AF 1 5 ACs ACr ACq (ACt n)):=by
 intro n
 induction n with
 |zero=>exact YV fun _=>rfl
 |succ n ih=>
  have hE:AW Tryz.prog (ALU (ACt n)):=Env.Ac AF3 ih ((by simp)) (fun _=>AH rfl rfl)
  let self:=ACt n
  exact AG hE Tryz.func88 (by kernel_rfl) (by kernel_rfl) rfl (Af8 self) (AA AlM ⟨(Aja self hE),trivial⟩)
theorem AcA:AO Tryz.prog 88 (AF 1 5 ACs ACr ACq Ajc):=by
 have e:Ajc=ACt 100:=funext Ajb
 rw[e]
 exact AVd _
def AYc:Env:=ANr.CD 88 4 60 (AF 1 5 ACs ACr ACq Ajc)
theorem AJR:AW Tryz.prog AYc:=Env.Ay AF3 AcA (AH rfl rfl)
abbrev Ai0:Hints:={  }
theorem AbB:∀ v,AYs v=AL 1 Tryz.prog AYc Ai0 Tryz.f59 AKc AKb AKa v:=by
 rintro⟨a0,⟨⟩⟩
 kernel_rfl
theorem Aiz:AD (AQ Tryz.f59) 0=[]:=by kernel_rfl
theorem AUB:AO Tryz.prog 59 (AF 1 2 AKc AKb AKa AHx):=AG AJR Tryz.func59 (by kernel_rfl) (by kernel_rfl) rfl (fun v=>(AfN v).trans (AbB v)) (AA Aiz trivial)
def ANn:Env:=AYc.CD 59 1 60 (AF 1 2 AKc AKb AKa AHx)
theorem AFt:AW Tryz.prog ANn:=Env.Ay AJR AUB (AH rfl rfl)
end
end Go.Pev
end
section
namespace Go.Pev
open Go.Proofs
noncomputable section
abbrev AiD:Hints:={  }
theorem AXz:∀ v,AFD v=AL 0 Tryz.prog ANn AiD Tryz.f75 AFC AFB AFA v:=by
 rintro⟨a0,a1,⟨⟩⟩
 kernel_rfl
theorem AiC:AD (AQ Tryz.f75) 0=[]:=by kernel_rfl
theorem ASd:AO Tryz.prog 75 (AF 0 2 AFC AFB AFA AM6):=AG AFt Tryz.func75 (by kernel_rfl) (by kernel_rfl) rfl (fun v=>(Adr v).trans (AXz v)) (AA AiC trivial)
def AGC:Env:=ANn.ext 75 true true (AF 0 2 AFC AFB AFA AM6)
theorem ZB:AW Tryz.prog AGC:=Env.Ac AFt ASd (fun _=>AI rfl rfl) (fun _=>AH rfl rfl)
abbrev Ak1:Hints:={  }
theorem AeT:∀ v,ATK v=AL 0 Tryz.prog AGC Ak1 Tryz.f98 ATJ ATI ATH v:=by
 rintro⟨a0,⟨⟩⟩
 kernel_rfl
theorem Ak0:AD (AQ Tryz.f98) 0=[]:=by kernel_rfl
theorem AaT:AO Tryz.prog 98 (AF 0 1 ATJ ATI ATH Aic):=AG ZB Tryz.func98 (by kernel_rfl) (by kernel_rfl) rfl (fun v=>(Aib v).trans (AeT v)) (AA Ak0 trivial)
def AYW:Env:=AGC.ext 98 true true (AF 0 1 ATJ ATI ATH Aic)
theorem AJL:AW Tryz.prog AYW:=Env.Ac ZB AaT (fun _=>AI rfl rfl) (fun _=>AH rfl rfl)
abbrev Adz:Hints:={  }
theorem ASm:∀ v,XB v=AL 0 Tryz.prog AYW Adz Tryz.f74 XA W9 W8 v:=by
 rintro⟨a0,⟨⟩⟩
 kernel_rfl
theorem Ady:AD (AQ Tryz.f74) 0=[]:=by kernel_rfl
theorem ANI:AO Tryz.prog 74 (AF 0 1 XA W9 W8 AAE):=AG AJL Tryz.func74 (by kernel_rfl) (by kernel_rfl) rfl (fun v=>(AX7 v).trans (ASm v)) (AA Ady trivial)
def Xk:Env:=AYW.ext 74 true true (AF 0 1 XA W9 W8 AAE)
theorem TU:AW Tryz.prog Xk:=Env.Ac AJL ANI (fun _=>AI rfl rfl) (fun _=>AH rfl rfl)
abbrev Aeb:Hints:={  }
theorem ATO:∀ v,AAa v=AL 0 Tryz.prog Xk Aeb Tryz.f71 AAZ AAY AAX v:=by
 rintro⟨a0,⟨⟩⟩
 kernel_rfl
theorem Aea:AD (AQ Tryz.f71) 0=[]:=by kernel_rfl
theorem AOK:AO Tryz.prog 71 (AF 0 1 AAZ AAY AAX AJn):=AG TU Tryz.func71 (by kernel_rfl) (by kernel_rfl) rfl (fun v=>(AaY v).trans (ATO v)) (AA Aea trivial)
def AFl:Env:=Xk.ext 71 true true (AF 0 1 AAZ AAY AAX AJn)
theorem Yu:AW Tryz.prog AFl:=Env.Ac TU AOK (fun _=>AI rfl rfl) (fun _=>AH rfl rfl)
theorem ATW:Tryz.f70.body.isSome=true:=by kernel_rfl
theorem ATV : (Tryz.f70.name == "runtime.NumGoroutine") = false := by kernel_rfl
theorem ATU:loops (AQ Tryz.f70)=0:=by kernel_rfl
def HG:Env:=AFl.ext 70 false false (DJ Tryz.prog AFl {} Tryz.f70)
theorem Gy:AW Tryz.prog HG:=Env.Ac Yu (Cs Yu Tryz.func70 ATW ATV ATU) (by simp) (by simp)
abbrev Jl:Hints:={ loop:=fun n=>match n with|0=>Aa 0 19 NY NX H9|_=>fun _ _ _=>none }
theorem SC:∀ v,H9 v=roundOf Tryz.prog HG Jl 1 0 19 (AB Tryz.f91 0) NY NX v:=by
 rintro⟨a0,a1,a2,⟨⟩⟩
 kernel_rfl
theorem AEI:AD (AB Tryz.f91 0) 1=[]:=by kernel_rfl
theorem AEJ:AZ Tryz.prog 0 (.loop (AB Tryz.f91 0)) (Jl.loop 0):=AT Gy (SC) (AA AEI trivial)
theorem ZU:∀ v,Jm v=AL 0 Tryz.prog HG Jl Tryz.f91 Jk Jj Ji v:=by
 rintro⟨a0,⟨⟩⟩
 kernel_rfl
theorem AG6:AD (AQ Tryz.f91) 0=[(0,AB Tryz.f91 0)]:=by kernel_rfl
theorem WZ:AO Tryz.prog 91 (AF 0 2 Jk Jj Ji I6):=AG Gy Tryz.func91 (by kernel_rfl) (by kernel_rfl) rfl (fun v=>(AEK v).trans (ZU v)) (AA AG6 ⟨AEJ,trivial⟩)
def J4:Env:=HG.CD 91 1 70 (AF 0 2 Jk Jj Ji I6)
theorem Kg:AW Tryz.prog J4:=Env.Ay Gy WZ (AH rfl rfl)
abbrev AE0:Hints:={  }
theorem Wz:∀ v,IQ v=AL 0 Tryz.prog J4 AE0 Tryz.f73 IP IN IM v:=by
 rintro⟨a0,⟨⟩⟩
 kernel_rfl
theorem AEz:AD (AQ Tryz.f73) 0=[]:=by kernel_rfl
theorem Sc:AO Tryz.prog 73 (AF 0 2 IP IN IM HE):=AG Kg Tryz.func73 (by kernel_rfl) (by kernel_rfl) rfl (fun v=>(Ze v).trans (Wz v)) (AA AEz trivial)
def Ih:Env:=J4.CD 73 1 70 (AF 0 2 IP IN IM HE)
theorem JS:AW Tryz.prog Ih:=Env.Ay Kg Sc (AH rfl rfl)
abbrev J8:Hints:={ loop:=fun n=>match n with|0=>Aa 0 78 AAf AAd Pg|1=>Aa 0 78 AAe AAc Ko|_=>fun _ _ _=>none,fp:=fun n=>match n with|12=>[[2],[2],[],[],[],[],[],[10],[10],[8],[9,12]]|5=>[[],[],[],[],[],[],[],[],[37]]|_=>[] }
def OG:Env:={ Ih with keep:=false,rows:=false,arrs:=true }
theorem Kp:AW Tryz.prog OG:=JS
theorem AGL:∀ v,Ko v=roundOf Tryz.prog OG J8 2 0 78 (AB Tryz.f39 1) AAe AAc v:=by
 rintro⟨a0,a1,a2,a3,a4,a5,a6,a7,a8,a9,a10,⟨⟩⟩
 kernel_rfl
theorem ATP:AD (AB Tryz.f39 1) 2=[]:=by kernel_rfl
theorem ATR:AZ Tryz.prog 0 (.loop (AB Tryz.f39 1)) (J8.loop 1):=AT Kp (AGL) (AA ATP trivial)
theorem AGM:∀ v,Pg v=roundOf Tryz.prog OG J8 1 0 78 (AB Tryz.f39 0) AAf AAd v:=by
 rintro⟨a0,a1,a2,a3,a4,a5,a6,a7,⟨⟩⟩
 kernel_rfl
theorem ATQ:AD (AB Tryz.f39 0) 1=[(1,AB Tryz.f39 1)]:=by kernel_rfl
theorem ATS:AZ Tryz.prog 0 (.loop (AB Tryz.f39 0)) (J8.loop 0):=AT Kp (AGM) (AA ATQ ⟨ATR,trivial⟩)
theorem AOM:∀ v,Tk v=AL 0 Tryz.prog OG J8 Tryz.f39 Tj Ti Th v:=by
 rintro⟨a0,a1,⟨⟩⟩
 kernel_rfl
theorem AaZ:AD (AQ Tryz.f39) 0=[(0,AB Tryz.f39 0)]:=by kernel_rfl
theorem AJr:AO Tryz.prog 39 (AF 0 2 Tj Ti Th RN):=AG Kp Tryz.func39 (by kernel_rfl) (by kernel_rfl) rfl (fun v=>(ATT v).trans (AOM v)) (AA AaZ ⟨ATS,trivial⟩)
def Ox:Env:=Ih.ext 39 true true (AF 0 2 Tj Ti Th RN)
theorem L4:AW Tryz.prog Ox:=Env.Ac JS AJr (fun _=>AI rfl rfl) (fun _=>AH rfl rfl)
abbrev Ml:Hints:={ loop:=fun n=>match n with|0=>Aa 0 28 RL RJ Km|_=>fun _ _ _=>none }
theorem ZJ:∀ v,Km v=roundOf Tryz.prog Ox Ml 1 0 28 (AB Tryz.f40 0) RL RJ v:=by
 rintro⟨a0,a1,a2,a3,a4,⟨⟩⟩
 kernel_rfl
theorem AJo:AD (AB Tryz.f40 0) 1=[]:=by kernel_rfl
theorem AJp:AZ Tryz.prog 0 (.loop (AB Tryz.f40 0)) (Ml.loop 0):=AT L4 (ZJ) (AA AJo trivial)
theorem AGK:∀ v,Mm v=AL 0 Tryz.prog Ox Ml Tryz.f40 Mk Mj Mi v:=by
 rintro⟨a0,a1,⟨⟩⟩
 kernel_rfl
theorem AOL:AD (AQ Tryz.f40) 0=[(0,AB Tryz.f40 0)]:=by kernel_rfl
theorem AAb:AO Tryz.prog 40 (AF 0 2 Mk Mj Mi OF):=AG L4 Tryz.func40 (by kernel_rfl) (by kernel_rfl) rfl (fun v=>(AJq v).trans (AGK v)) (AA AOL ⟨AJp,trivial⟩)
def JM:Env:=Ox.ext 40 true true (AF 0 2 Mk Mj Mi OF)
theorem IY:AW Tryz.prog JM:=Env.Ac L4 AAb (fun _=>AI rfl rfl) (fun _=>AH rfl rfl)
abbrev AEj:Hints:={ loop:=fun n=>match n with|0=>Aa 0 26 AI4 AI3 Wm|_=>fun _ _ _=>none,fp:=fun n=>match n with|6=>[[],[],[],[],[],[],[],[],[]]|_=>[] }
theorem AMs:∀ v,Wm v=roundOf Tryz.prog JM AEj 1 0 26 (AB Tryz.f146 0) AI4 AI3 v:=by
 rintro⟨a0,a1,a2,a3,⟨⟩⟩
 kernel_rfl
theorem Adg:AD (AB Tryz.f146 0) 1=[]:=by kernel_rfl
theorem Adh:AZ Tryz.prog 0 (.loop (AB Tryz.f146 0)) (AEj.loop 0):=AT IY (AMs) (AA Adg trivial)
theorem AXX:∀ v,AEk v=AL 0 Tryz.prog JM AEj Tryz.f146 AEi AEh AEg v:=by
 rintro⟨a0,a1,⟨⟩⟩
 kernel_rfl
theorem Ahw:AD (AQ Tryz.f146) 0=[(0,AB Tryz.f146 0)]:=by kernel_rfl
theorem ASL:AO Tryz.prog 146 (AF 0 2 AEi AEh AEg Wn):=AG IY Tryz.func146 (by kernel_rfl) (by kernel_rfl) rfl (fun v=>(Adi v).trans (AXX v)) (AA Ahw ⟨Adh,trivial⟩)
def TQ:Env:=JM.ext 146 true true (AF 0 2 AEi AEh AEg Wn)
theorem OB:AW Tryz.prog TQ:=Env.Ac IY ASL (fun _=>AI rfl rfl) (fun _=>AH rfl rfl)
abbrev Wr:Hints:={ loop:=fun n=>match n with|0=>Aa 0 32 AEm AEl Qi|_=>fun _ _ _=>none }
theorem AHE:∀ v,Qi v=roundOf Tryz.prog TQ Wr 1 0 32 (AB Tryz.f147 0) AEm AEl v:=by
 rintro⟨a0,a1,a2,a3,⟨⟩⟩
 kernel_rfl
theorem AXZ:AD (AB Tryz.f147 0) 1=[]:=by kernel_rfl
theorem AXa:AZ Tryz.prog 0 (.loop (AB Tryz.f147 0)) (Wr.loop 0):=AT OB (AHE) (AA AXZ trivial)
theorem ASM:∀ v,Ws v=AL 0 Tryz.prog TQ Wr Tryz.f147 Wq Wp Wo v:=by
 rintro⟨a0,a1,⟨⟩⟩
 kernel_rfl
theorem Adj:AD (AQ Tryz.f147) 0=[(0,AB Tryz.f147 0)]:=by kernel_rfl
theorem AMt:AO Tryz.prog 147 (AF 0 3 Wq Wp Wo AAC):=AG OB Tryz.func147 (by kernel_rfl) (by kernel_rfl) rfl (fun v=>(AXb v).trans (ASM v)) (AA Adj ⟨AXa,trivial⟩)
def Xh:Env:=TQ.CD 147 2 146 (AF 0 3 Wq Wp Wo AAC)
theorem TS:AW Tryz.prog Xh:=Env.Ay OB AMt (AH rfl rfl)
abbrev AeV:Hints:={  }
theorem ATL:∀ v,AAW v=AL 0 Tryz.prog Xh AeV Tryz.f129 AAV AAU AAT v:=by
 rintro⟨a0,a1,⟨⟩⟩
 kernel_rfl
theorem AeU:AD (AQ Tryz.f129) 0=[]:=by kernel_rfl
theorem AOA:AO Tryz.prog 129 (AF 0 2 AAV AAU AAT AJi):=AG TS Tryz.func129 (by kernel_rfl) (by kernel_rfl) rfl (fun v=>(AaU v).trans (ATL v)) (AA AeU trivial)
def AFj:Env:=Xh.ext 129 true true (AF 0 2 AAV AAU AAT AJi)
theorem Yt:AW Tryz.prog AFj:=Env.Ac TS AOA (fun _=>AI rfl rfl) (fun _=>AH rfl rfl)
end
end Go.Pev
end
section
namespace Go.Pev
open Go.Proofs
noncomputable section
abbrev AaW:Hints:={  }
theorem AOB:∀ v,Tg v=AL 0 Tryz.prog AFj AaW Tryz.f99 Tf Te Td v:=by
 rintro⟨a0,⟨⟩⟩
 kernel_rfl
theorem AaV:AD (AQ Tryz.f99) 0=[]:=by kernel_rfl
theorem AJj:AO Tryz.prog 99 (AF 0 1 Tf Te Td Zu):=AG Yt Tryz.func99 (by kernel_rfl) (by kernel_rfl) rfl (fun v=>(ATM v).trans (AOB v)) (AA AaV trivial)
def XP:Env:=AFj.ext 99 true true (AF 0 1 Tf Te Td Zu)
theorem Sr:AW Tryz.prog XP:=Env.Ac Yt AJj (fun _=>AI rfl rfl) (fun _=>AH rfl rfl)
theorem AlA:Tryz.f100.body.isSome=true:=by kernel_rfl
theorem Ak9 : (Tryz.f100.name == "runtime.NumGoroutine") = false := by kernel_rfl
theorem Ak8:loops (AQ Tryz.f100)=0:=by kernel_rfl
def S2:Env:=XP.ext 100 false false (DJ Tryz.prog XP {} Tryz.f100)
theorem N3:AW Tryz.prog S2:=Env.Ac Sr (Cs Sr Tryz.func100 AlA Ak9 Ak8) (by simp) (by simp)
abbrev Jq:Hints:={ loop:=fun n=>match n with|0=>Aa 0 19 Na NZ IA|_=>fun _ _ _=>none }
theorem SD:∀ v,IA v=roundOf Tryz.prog S2 Jq 1 0 19 (AB Tryz.f91 0) Na NZ v:=by
 rintro⟨a0,a1,a2,⟨⟩⟩
 kernel_rfl
theorem AEL:AD (AB Tryz.f91 0) 1=[]:=by kernel_rfl
theorem AEM:AZ Tryz.prog 0 (.loop (AB Tryz.f91 0)) (Jq.loop 0):=AT N3 (SD) (AA AEL trivial)
theorem ZV:∀ v,Jr v=AL 0 Tryz.prog S2 Jq Tryz.f91 Jp Jo Jn v:=by
 rintro⟨a0,⟨⟩⟩
 kernel_rfl
theorem AG7:AD (AQ Tryz.f91) 0=[(0,AB Tryz.f91 0)]:=by kernel_rfl
theorem Wa:AO Tryz.prog 91 (AF 0 2 Jp Jo Jn I7):=AG N3 Tryz.func91 (by kernel_rfl) (by kernel_rfl) rfl (fun v=>(AEN v).trans (ZV v)) (AA AG7 ⟨AEM,trivial⟩)
def J5:Env:=S2.CD 91 1 100 (AF 0 2 Jp Jo Jn I7)
theorem Kh:AW Tryz.prog J5:=Env.Ay N3 Wa (AH rfl rfl)
abbrev AE2:Hints:={  }
theorem W0:∀ v,IV v=AL 0 Tryz.prog J5 AE2 Tryz.f73 IU IT IS v:=by
 rintro⟨a0,⟨⟩⟩
 kernel_rfl
theorem AE1:AD (AQ Tryz.f73) 0=[]:=by kernel_rfl
theorem Sd:AO Tryz.prog 73 (AF 0 2 IU IT IS HF):=AG Kh Tryz.func73 (by kernel_rfl) (by kernel_rfl) rfl (fun v=>(Zf v).trans (W0 v)) (AA AE1 trivial)
def Ii:Env:=J5.CD 73 1 100 (AF 0 2 IU IT IS HF)
theorem JT:AW Tryz.prog Ii:=Env.Ay Kh Sd (AH rfl rfl)
abbrev Hp:Hints:={ loop:=fun n=>match n with|0=>Aa 0 100 AH8 AH5 UE|1=>Aa 0 100 AH7 AH4 UD|2=>Aa 0 100 AH6 AH3 UC|_=>fun _ _ _=>none,fp:=fun n=>match n with|17=>[[],[],[0],[0],[],[],[0],[0],[],[]]|_=>[] }
def Mz:Env:={ Ii with keep:=false,rows:=true,arrs:=false }
theorem Is:AW Tryz.prog Mz:=JT
theorem AKx:∀ v,UC v=roundOf Tryz.prog Mz Hp 3 0 100 (AB Tryz.f76 2) AH6 AH3 v:=by
 rintro⟨a0,a1,a2,a3,a4,a5,a6,a7,a8,a9,⟨⟩⟩
 kernel_rfl
theorem AbQ:AD (AB Tryz.f76 2) 3=[]:=by kernel_rfl
theorem AbT:AZ Tryz.prog 0 (.loop (AB Tryz.f76 2)) (Hp.loop 2):=AT Is (AKx) (AA AbQ trivial)
theorem AKy:∀ v,UD v=roundOf Tryz.prog Mz Hp 2 0 100 (AB Tryz.f76 1) AH7 AH4 v:=by
 rintro⟨a0,a1,a2,a3,a4,a5,⟨⟩⟩
 kernel_rfl
theorem AbR:AD (AB Tryz.f76 1) 2=[(2,AB Tryz.f76 2)]:=by kernel_rfl
theorem AbU:AZ Tryz.prog 0 (.loop (AB Tryz.f76 1)) (Hp.loop 1):=AT Is (AKy) (AA AbR ⟨AbT,trivial⟩)
theorem AKz:∀ v,UE v=roundOf Tryz.prog Mz Hp 1 0 100 (AB Tryz.f76 0) AH8 AH5 v:=by
 rintro⟨a0,a1,a2,a3,a4,a5,a6,a7,⟨⟩⟩
 kernel_rfl
theorem AbS:AD (AB Tryz.f76 0) 1=[]:=by kernel_rfl
theorem AbV:AZ Tryz.prog 0 (.loop (AB Tryz.f76 0)) (Hp.loop 0):=AT Is (AKz) (AA AbS trivial)
theorem AUb:∀ v,ABf v=AL 0 Tryz.prog Mz Hp Tryz.f76 ABe ABd ABc v:=by
 rintro⟨a0,a1,⟨⟩⟩
 kernel_rfl
theorem Afd:AD (AQ Tryz.f76) 0=[(0,AB Tryz.f76 0),(1,AB Tryz.f76 1)]:=by kernel_rfl
theorem APE:AO Tryz.prog 76 (AF 0 2 ABe ABd ABc AK0):=AG Is Tryz.func76 (by kernel_rfl) (by kernel_rfl) rfl (fun v=>(AbW v).trans (AUb v)) (AA Afd ⟨AbV,AbU,trivial⟩)
def S7:Env:=Ii.ext 76 true true (AF 0 2 ABe ABd ABc AK0)
theorem N4:AW Tryz.prog S7:=Env.Ac JT APE (fun _=>AI rfl rfl) (fun _=>AH rfl rfl)
abbrev ACj:Hints:={ loop:=fun n=>match n with|0=>Aa 0 29 AIS AIR VI|_=>fun _ _ _=>none }
theorem ALO:∀ v,VI v=roundOf Tryz.prog S7 ACj 1 0 29 (AB Tryz.f42 0) AIS AIR v:=by
 rintro⟨a0,a1,a2,a3,a4,a5,a6,⟨⟩⟩
 kernel_rfl
theorem Ab3:AD (AB Tryz.f42 0) 1=[]:=by kernel_rfl
theorem Ab4:AZ Tryz.prog 0 (.loop (AB Tryz.f42 0)) (ACj.loop 0):=AT N4 (ALO) (AA Ab3 trivial)
theorem AVV:∀ v,ACk v=AL 0 Tryz.prog S7 ACj Tryz.f42 ACi ACh ACg v:=by
 rintro⟨a0,a1,⟨⟩⟩
 kernel_rfl
theorem Af4:AD (AQ Tryz.f42) 0=[(0,AB Tryz.f42 0)]:=by kernel_rfl
theorem APp:AO Tryz.prog 42 (AF 0 2 ACi ACh ACg ALP):=AG N4 Tryz.func42 (by kernel_rfl) (by kernel_rfl) rfl (fun v=>(Ab5 v).trans (AVV v)) (AA Af4 ⟨Ab4,trivial⟩)
def AF1:Env:=S7.ext 42 true true (AF 0 2 ACi ACh ACg ALP)
theorem Y5:AW Tryz.prog AF1:=Env.Ac N4 APp (fun _=>AI rfl rfl) (fun _=>AH rfl rfl)
abbrev Pz:Hints:={ loop:=fun n=>match n with|0=>Aa 0 108 AY5 AY2 Ir|1=>Aa 0 108 AY4 AY1 Iq|2=>Aa 0 108 AY3 AY0 GG|_=>fun _ _ _=>none,fp:=fun n=>match n with|19=>[[],[0],[0],[0],[],[],[0],[0],[0],[],[4],[6],[6],[6],[6],[],[],[5,8],[5]]|6=>[[0],[0],[10],[10],[10],[],[],[],[],[],[],[],[20,22],[]]|_=>[] }
def ABX:Env:={ AF1 with keep:=false,rows:=true,arrs:=true }
theorem OM:AW Tryz.prog ABX:=Y5
theorem AUS:∀ v,GG v=roundOf Tryz.prog ABX Pz 3 0 108 (AB Tryz.f27 2) AY3 AY0 v:=by
 rintro⟨a0,a1,a2,a3,a4,a5,a6,a7,a8,a9,a10,a11,a12,a13,a14,a15,a16,⟨⟩⟩
 kernel_rfl
theorem AjC:AD (AB Tryz.f27 2) 3=[]:=by kernel_rfl
theorem AjF:AZ Tryz.prog 0 (.loop (AB Tryz.f27 2)) (Pz.loop 2):=AT OM (AUS) (AA AjC trivial)
theorem AUT:∀ v,Iq v=roundOf Tryz.prog ABX Pz 2 0 108 (AB Tryz.f27 1) AY4 AY1 v:=by
 rintro⟨a0,a1,a2,a3,a4,a5,a6,a7,⟨⟩⟩
 kernel_rfl
theorem AjD:AD (AB Tryz.f27 1) 2=[(2,AB Tryz.f27 2)]:=by kernel_rfl
theorem AjG:AZ Tryz.prog 0 (.loop (AB Tryz.f27 1)) (Pz.loop 1):=AT OM (AUT) (AA AjD ⟨AjF,trivial⟩)
theorem AUU:∀ v,Ir v=roundOf Tryz.prog ABX Pz 1 0 108 (AB Tryz.f27 0) AY5 AY2 v:=by
 rintro⟨a0,a1,a2,a3,a4,a5,a6,a7,a8,a9,⟨⟩⟩
 kernel_rfl
theorem AjE:AD (AB Tryz.f27 0) 1=[]:=by kernel_rfl
theorem AjH:AZ Tryz.prog 0 (.loop (AB Tryz.f27 0)) (Pz.loop 0):=AT OM (AUU) (AA AjE trivial)
theorem Afa:∀ v,T7 v=AVX 0 Tryz.prog ABX Pz Tryz.f27 AUX AUW AUV v:=by
 rintro⟨a0,a1,a2,⟨⟩⟩
 kernel_rfl
theorem AlC:AD (AQ Tryz.f27) 0=[(0,AB Tryz.f27 0),(1,AB Tryz.f27 1)]:=by kernel_rfl
theorem AbL:AO Tryz.prog 27 (ARC 0 3 AUX AUW AUV seen):=AiM OM Tryz.func27 (by kernel_rfl) (by kernel_rfl) rfl (fun v=>(Z1 v).trans (Afa v)) (AA AlC ⟨AjH,AjG,trivial⟩)
def AYa:Env:=AF1.ext 27 false false (ARC 0 3 AUX AUW AUV seen)
theorem AJP:AW Tryz.prog AYa:=Env.Ac Y5 AbL ((by simp)) (by simp)
abbrev AbE:Hints:={ fp:=fun n=>match n with|1=>[[],[0],[0],[0],[4],[4],[2],[],[0],[0],[0],[4],[4],[2],[],[],[]]|_=>[] }
theorem AOx:∀ v,OL v=AL 2 Tryz.prog AYa AbE Tryz.f32 T6 T5 T4 v:=by
 rintro⟨a0,a1,a2,a3,a4,⟨⟩⟩
 kernel_rfl
theorem AbD:AD (AQ Tryz.f32) 0=[]:=by kernel_rfl
theorem AKf:AO Tryz.prog 32 (AF 2 2 T6 T5 T4 Kx):=AG AJP Tryz.func32 (by kernel_rfl) (by kernel_rfl) rfl (fun v=>(ABS v).trans (AOx v)) (AA AbD trivial)
def XS:Env:=AYa.ext 32 false true (AF 2 2 T6 T5 T4 Kx)
theorem S3:AW Tryz.prog XS:=Env.Ac AJP AKf ((by simp)) (fun _=>AH rfl rfl)
abbrev AUF:Hints:={  }
theorem AKe:∀ v,Kw v=AL 2 Tryz.prog XS AUF Tryz.f41 Px Pw Pv v:=by
 rintro⟨a0,a1,a2,a3,a4,⟨⟩⟩
 kernel_rfl
theorem AUE:AD (AQ Tryz.f41) 0=[]:=by kernel_rfl
theorem AGS:AO Tryz.prog 41 (AF 2 2 Px Pw Pv Ho):=AG S3 Tryz.func41 (by kernel_rfl) (by kernel_rfl) rfl (fun v=>(Xx v).trans (AKe v)) (AA AUE trivial)
def Q3:Env:=XS.ext 41 false true (AF 2 2 Px Pw Pv Ho)
theorem PZ:AW Tryz.prog Q3:=Env.Ac S3 AGS ((by simp)) (fun _=>AH rfl rfl)
theorem AOw:Tryz.f65.body.isSome=true:=by kernel_rfl
theorem AOv : (Tryz.f65.name == "runtime.NumGoroutine") = false := by kernel_rfl
theorem AOu:loops (AQ Tryz.f65)=0:=by kernel_rfl
def GW:Env:=Q3.ext 65 false false (DJ Tryz.prog Q3 {} Tryz.f65)
theorem F7:AW Tryz.prog GW:=Env.Ac PZ (Cs PZ Tryz.func65 AOw AOv AOu) (by simp) (by simp)
abbrev Jh:Hints:={ loop:=fun n=>match n with|0=>Aa 4 19 NU NT Bw|_=>fun _ _ _=>none }
theorem R9:∀ v,Bw v=roundOf Tryz.prog GW Jh 1 4 19 (AB Tryz.f91 0) NU NT v:=by
 rintro⟨a0,a1,a2,a3,a4,a5,a6,⟨⟩⟩
 kernel_rfl
theorem AEG:AD (AB Tryz.f91 0) 1=[]:=by kernel_rfl
theorem AEH:AZ Tryz.prog 4 (.loop (AB Tryz.f91 0)) (Jh.loop 0):=AT F7 (R9) (AA AEG trivial)
theorem ZT:∀ v,GO v=AL 4 Tryz.prog GW Jh Tryz.f91 Jg Jf Je v:=by
 rintro⟨a0,a1,a2,a3,a4,⟨⟩⟩
 kernel_rfl
theorem AG5:AD (AQ Tryz.f91) 0=[(0,AB Tryz.f91 0)]:=by kernel_rfl
theorem WX:AO Tryz.prog 91 (AF 4 2 Jg Jf Je I2):=AG F7 Tryz.func91 (by kernel_rfl) (by kernel_rfl) rfl (fun v=>(NV v).trans (ZT v)) (AA AG5 ⟨AEH,trivial⟩)
def GX:Env:=GW.CD 91 1 65 (AF 4 2 Jg Jf Je I2)
theorem GB:AW Tryz.prog GX:=Env.Ay F7 WX (AH rfl rfl)
abbrev Jx:Hints:={ loop:=fun n=>match n with|0=>Aa 4 42 Nj Ni Cq|_=>fun _ _ _=>none }
theorem SX:∀ v,Cq v=roundOf Tryz.prog GX Jx 1 4 42 (AB Tryz.f63 0) Nj Ni v:=by
 rintro⟨a0,a1,a2,a3,a4,a5,a6,⟨⟩⟩
 kernel_rfl
theorem AEs:AD (AB Tryz.f63 0) 1=[]:=by kernel_rfl
theorem AEt:AZ Tryz.prog 4 (.loop (AB Tryz.f63 0)) (Jx.loop 0):=AT GB (SX) (AA AEs trivial)
theorem Zc:∀ v,GR v=AL 4 Tryz.prog GX Jx Tryz.f63 Jw Jv Ju v:=by
 rintro⟨a0,a1,a2,a3,a4,⟨⟩⟩
 kernel_rfl
theorem AHG:AD (AQ Tryz.f63) 0=[(0,AB Tryz.f63 0)]:=by kernel_rfl
theorem Wv:AO Tryz.prog 63 (AF 4 2 Jw Jv Ju JF):=AG GB Tryz.func63 (by kernel_rfl) (by kernel_rfl) rfl (fun v=>(Nk v).trans (Zc v)) (AA AHG ⟨AEt,trivial⟩)
def J6:Env:=GX.CD 63 1 65 (J9 (AF 4 2 Jw Jv Ju JF))
theorem Kj:AW Tryz.prog J6:=Env.Ay GB (Xs Wv) (AYn rfl rfl)
end
end Go.Pev
end
section
namespace Go.Pev
open Go.Proofs
noncomputable section
abbrev AUD:Hints:={  }
theorem AKd:∀ v,Kv v=AL 2 Tryz.prog J6 AUD Tryz.f30 Pu Pt Ps v:=by
 rintro⟨a0,a1,a2,a3,⟨⟩⟩
 kernel_rfl
theorem AUC:AD (AQ Tryz.f30) 0=[]:=by kernel_rfl
theorem AGR:AO Tryz.prog 30 (AF 2 1 Pu Pt Ps Hn):=AG Kj Tryz.func30 (by kernel_rfl) (by kernel_rfl) rfl (fun v=>(Xw v).trans (AKd v)) (AA AUC trivial)
def Ia:Env:=J6.ext 30 false true (AF 2 1 Pu Pt Ps Hn)
theorem GV:AW Tryz.prog Ia:=Env.Ac Kj AGR ((by simp)) (fun _=>AH rfl rfl)
abbrev ABT:Hints:={ loop:=fun n=>match n with|0=>Aa 2 48 AYw AYu Ky|1=>Aa 2 48 AYv AYt Ip|_=>fun _ _ _=>none,fp:=fun n=>match n with|9=>[[],[8],[4],[],[5],[],[5]]|_=>[] }
theorem AUH:∀ v,Ip v=roundOf Tryz.prog Ia ABT 2 2 48 (AB Tryz.f29 1) AYv AYt v:=by
 rintro⟨a0,a1,a2,a3,a4,a5,a6,a7,a8,a9,a10,a11,⟨⟩⟩
 kernel_rfl
theorem Ai3:AD (AB Tryz.f29 1) 2=[]:=by kernel_rfl
theorem Ai5:AZ Tryz.prog 2 (.loop (AB Tryz.f29 1)) (ABT.loop 1):=AT GV (AUH) (AA Ai3 trivial)
theorem AUI:∀ v,Ky v=roundOf Tryz.prog Ia ABT 1 2 48 (AB Tryz.f29 0) AYw AYu v:=by
 rintro⟨a0,a1,a2,a3,a4,a5,a6,a7,a8,⟨⟩⟩
 kernel_rfl
theorem Ai4:AD (AB Tryz.f29 0) 1=[(1,AB Tryz.f29 1)]:=by kernel_rfl
theorem Ai6:AZ Tryz.prog 2 (.loop (AB Tryz.f29 0)) (ABT.loop 0):=AT GV (AUI) (AA Ai4 ⟨Ai5,trivial⟩)
theorem AfO:∀ v,AKj v=AL 2 Tryz.prog Ia ABT Tryz.f29 AUL AUK AUJ v:=by
 rintro⟨a0,a1,a2,a3,a4,⟨⟩⟩
 kernel_rfl
theorem AlB:AD (AQ Tryz.f29) 0=[(0,AB Tryz.f29 0)]:=by kernel_rfl
theorem AbG:AO Tryz.prog 29 (AF 2 2 AUL AUK AUJ AUM):=AG GV Tryz.func29 (by kernel_rfl) (by kernel_rfl) rfl (fun v=>(AYx v).trans (AfO v)) (AA AlB ⟨Ai6,trivial⟩)
def AYZ:Env:=Ia.ext 29 false true (AF 2 2 AUL AUK AUJ AUM)
theorem AJO:AW Tryz.prog AYZ:=Env.Ac GV AbG ((by simp)) (fun _=>AH rfl rfl)
theorem Aiw:Tryz.f31.body.isSome=true:=by kernel_rfl
theorem Aiv : (Tryz.f31.name == "runtime.NumGoroutine") = false := by kernel_rfl
theorem Aiu:loops (AQ Tryz.f31)=0:=by kernel_rfl
def Oz:Env:=AYZ.ext 31 false false (DJ Tryz.prog AYZ {} Tryz.f31)
theorem L8:AW Tryz.prog Oz:=Env.Ac AJO (Cs AJO Tryz.func31 Aiw Aiv Aiu) (by simp) (by simp)
abbrev La:Hints:={ loop:=fun n=>match n with|0=>Aa 4 19 PM PL CB|_=>fun _ _ _=>none }
theorem Wc:∀ v,CB v=roundOf Tryz.prog Oz La 1 4 19 (AB Tryz.f38 0) PM PL v:=by
 rintro⟨a0,a1,a2,a3,a4,a5,a6,⟨⟩⟩
 kernel_rfl
theorem AG8:AD (AB Tryz.f38 0) 1=[]:=by kernel_rfl
theorem AG9:AZ Tryz.prog 4 (.loop (AB Tryz.f38 0)) (La.loop 0):=AT L8 (Wc) (AA AG8 trivial)
theorem AEP:∀ v,HB v=AL 4 Tryz.prog Oz La Tryz.f38 LZ LY LX v:=by
 rintro⟨a0,a1,a2,a3,a4,⟨⟩⟩
 kernel_rfl
theorem AMV:AD (AQ Tryz.f38) 0=[(0,AB Tryz.f38 0)]:=by kernel_rfl
theorem ZY:AO Tryz.prog 38 (AF 4 2 LZ LY LX Lb):=AG L8 Tryz.func38 (by kernel_rfl) (by kernel_rfl) rfl (fun v=>(PN v).trans (AEP v)) (AA AMV ⟨AG9,trivial⟩)
def HK:Env:=Oz.CD 38 1 31 (AF 4 2 LZ LY LX Lb)
theorem Gz:AW Tryz.prog HK:=Env.Ay L8 ZY (AH rfl rfl)
abbrev Ls:Hints:={ loop:=fun n=>match n with|0=>Aa 4 42 PW PV DO|_=>fun _ _ _=>none }
theorem Ww:∀ v,DO v=roundOf Tryz.prog HK Ls 1 4 42 (AB Tryz.f28 0) PW PV v:=by
 rintro⟨a0,a1,a2,a3,a4,a5,a6,⟨⟩⟩
 kernel_rfl
theorem AHH:AD (AB Tryz.f28 0) 1=[]:=by kernel_rfl
theorem AHI:AZ Tryz.prog 4 (.loop (AB Tryz.f28 0)) (Ls.loop 0):=AT Gz (Ww) (AA AHH trivial)
theorem AEu:∀ v,HD v=AL 4 Tryz.prog HK Ls Tryz.f28 Lr Lq Lp v:=by
 rintro⟨a0,a1,a2,a3,a4,⟨⟩⟩
 kernel_rfl
theorem AMx:AD (AQ Tryz.f28) 0=[(0,AB Tryz.f28 0)]:=by kernel_rfl
theorem Zd:AO Tryz.prog 28 (AF 4 2 Lr Lq Lp IK):=AG Gz Tryz.func28 (by kernel_rfl) (by kernel_rfl) rfl (fun v=>(PX v).trans (AEu v)) (AA AMx ⟨AHI,trivial⟩)
def MN:Env:=HK.CD 28 1 31 (J9 (AF 4 2 Lr Lq Lp IK))
theorem Ma:AW Tryz.prog MN:=Env.Ay Gz (Xs Zd) (AYn rfl rfl)
abbrev Ak7:Hints:={ fp:=fun n=>match n with|4=>[[10],[10],[1000005,3,5],[1000005,3,13,5],[],[1000005,21,11,3,5],[],[]]|_=>[] }
theorem AfJ:∀ v,ABR v=AL 0 Tryz.prog MN Ak7 Tryz.f11 AT9 AT8 AT7 v:=by
 rintro⟨a0,a1,a2,⟨⟩⟩
 kernel_rfl
theorem Ak6:AD (AQ Tryz.f11) 0=[]:=by kernel_rfl
theorem Aa8:AO Tryz.prog 11 (AF 0 3 AT9 AT8 AT7 AKW):=AG Ma Tryz.func11 (by kernel_rfl) (by kernel_rfl) rfl (fun v=>(AKV v).trans (AfJ v)) (AA Ak6 trivial)
def AYY:Env:=MN.ext 11 true true (AF 0 3 AT9 AT8 AT7 AKW)
theorem AJN:AW Tryz.prog AYY:=Env.Ac Ma Aa8 (fun _=>AI rfl rfl) (fun _=>AH rfl rfl)
abbrev AfH:Hints:={  }
theorem AT5:∀ v,Ms v=AL 0 Tryz.prog AYY AfH Tryz.f13 ABQ ABP ABO v:=by
 rintro⟨a0,a1,a2,a3,⟨⟩⟩
 kernel_rfl
theorem AfG:AD (AQ Tryz.f13) 0=[]:=by kernel_rfl
theorem AOs:AO Tryz.prog 13 (AF 0 4 ABQ ABP ABO Mt):=AG AJN Tryz.func13 (by kernel_rfl) (by kernel_rfl) rfl (fun v=>(T3 v).trans (AT5 v)) (AA AfG trivial)
def S0:Env:=AYY.ext 13 true true (AF 0 4 ABQ ABP ABO Mt)
theorem N2:AW Tryz.prog S0:=Env.Ac AJN AOs (fun _=>AI rfl rfl) (fun _=>AH rfl rfl)
abbrev Lf:Hints:={ loop:=fun n=>match n with|0=>Aa 2 19 PQ PO Cd|_=>fun _ _ _=>none }
theorem Wd:∀ v,Cd v=roundOf Tryz.prog S0 Lf 1 2 19 (AB Tryz.f38 0) PQ PO v:=by
 rintro⟨a0,a1,a2,a3,a4,a5,a6,⟨⟩⟩
 kernel_rfl
theorem AHA:AD (AB Tryz.f38 0) 1=[]:=by kernel_rfl
theorem AHB:AZ Tryz.prog 2 (.loop (AB Tryz.f38 0)) (Lf.loop 0):=AT N2 (Wd) (AA AHA trivial)
theorem AEQ:∀ v,HC v=AL 2 Tryz.prog S0 Lf Tryz.f38 Le Ld Lc v:=by
 rintro⟨a0,a1,a2,a3,a4,⟨⟩⟩
 kernel_rfl
theorem AMW:AD (AQ Tryz.f38) 0=[(0,AB Tryz.f38 0)]:=by kernel_rfl
theorem ZZ:AO Tryz.prog 38 (AF 2 2 Le Ld Lc IF):=AG N2 Tryz.func38 (by kernel_rfl) (by kernel_rfl) rfl (fun v=>(PR v).trans (AEQ v)) (AA AMW ⟨AHB,trivial⟩)
def HL:Env:=S0.CD 38 1 32 (AF 2 2 Le Ld Lc IF)
theorem G0:AW Tryz.prog HL:=Env.Ay N2 ZZ (AH rfl rfl)
abbrev AKU:Hints:={ loop:=fun n=>match n with|0=>Aa 0 66 AOr AOq GZ|_=>fun _ _ _=>none,fp:=fun n=>match n with|11=>[[],[],[6],[6],[0],[1],[0],[1]]|_=>[] }
theorem AOp:∀ v,GZ v=roundOf Tryz.prog HL AKU 1 0 66 (AB Tryz.f15 0) AOr AOq v:=by
 rintro⟨a0,a1,a2,a3,a4,a5,a6,a7,a8,a9,⟨⟩⟩
 kernel_rfl
theorem AfE:AD (AB Tryz.f15 0) 1=[]:=by kernel_rfl
theorem AfF:AZ Tryz.prog 0 (.loop (AB Tryz.f15 0)) (AKU.loop 0):=AT G0 (AOp) (AA AfE trivial)
theorem Aa6:∀ v,RY v=AL 0 Tryz.prog HL AKU Tryz.f15 AKT AKS AKR v:=by
 rintro⟨a0,a1,a2,⟨⟩⟩
 kernel_rfl
theorem Ait:AD (AQ Tryz.f15) 0=[(0,AB Tryz.f15 0)]:=by kernel_rfl
theorem AT2:AO Tryz.prog 15 (AF 0 3 AKT AKS AKR Mr):=AG G0 Tryz.func15 (by kernel_rfl) (by kernel_rfl) rfl (fun v=>(ABN v).trans (Aa6 v)) (AA Ait ⟨AfF,trivial⟩)
def AAJ:Env:=HL.ext 15 true true (AF 0 3 AKT AKS AKR Mr)
theorem Q2:AW Tryz.prog AAJ:=Env.Ac G0 AT2 (fun _=>AI rfl rfl) (fun _=>AH rfl rfl)
abbrev ABJ:Hints:={ loop:=fun n=>match n with|0=>Aa 0 65 AHv AHu T2|_=>fun _ _ _=>none,fp:=fun n=>match n with|4=>[[],[4],[4],[4],[],[4],[4],[4],[],[],[12],[],[],[],[3]]|_=>[] }
theorem AKM:∀ v,T2 v=roundOf Tryz.prog AAJ ABJ 1 0 65 (AB Tryz.f18 0) AHv AHu v:=by
 rintro⟨a0,a1,a2,a3,a4,a5,a6,a7,a8,a9,a10,⟨⟩⟩
 kernel_rfl
theorem Aa0:AD (AB Tryz.f18 0) 1=[]:=by kernel_rfl
theorem Aa1:AZ Tryz.prog 0 (.loop (AB Tryz.f18 0)) (ABJ.loop 0):=AT Q2 (AKM) (AA Aa0 trivial)
theorem ATu:∀ v,ABK v=AL 0 Tryz.prog AAJ ABJ Tryz.f18 ABI ABH ABG v:=by
 rintro⟨a0,a1,a2,a3,⟨⟩⟩
 kernel_rfl
theorem AfD:AD (AQ Tryz.f18) 0=[(0,AB Tryz.f18 0)]:=by kernel_rfl
theorem AOo:AO Tryz.prog 18 (AF 0 4 ABI ABH ABG AKN):=AG Q2 Tryz.func18 (by kernel_rfl) (by kernel_rfl) rfl (fun v=>(Aa2 v).trans (ATu v)) (AA AfD ⟨Aa1,trivial⟩)
def AFs:Env:=AAJ.ext 18 true true (AF 0 4 ABI ABH ABG AKN)
theorem Yz:AW Tryz.prog AFs:=Env.Ac Q2 AOo (fun _=>AI rfl rfl) (fun _=>AH rfl rfl)
abbrev AeF:Hints:={  }
theorem ASw:∀ v,HY v=AL 0 Tryz.prog AFs AeF Tryz.f33 XH XG XF v:=by
 rintro⟨a0,a1,⟨⟩⟩
 kernel_rfl
theorem AeE:AD (AQ Tryz.f33) 0=[]:=by kernel_rfl
theorem ANU:AO Tryz.prog 33 (AF 0 2 XH XG XF D2):=AG Yz Tryz.func33 (by kernel_rfl) (by kernel_rfl) rfl (fun v=>(Lv v).trans (ASw v)) (AA AeE trivial)
def Xn:Env:=AFs.ext 33 true true (AF 0 2 XH XG XF D2)
theorem TW:AW Tryz.prog Xn:=Env.Ac Yz ANU (fun _=>AI rfl rfl) (fun _=>AH rfl rfl)
abbrev Aer:Hints:={  }
theorem ATj:∀ v,RW v=AL 0 Tryz.prog Xn Aer Tryz.f34 AA9 AA8 AA7 v:=by
 rintro⟨a0,a1,a2,⟨⟩⟩
 kernel_rfl
theorem Aeq:AD (AQ Tryz.f34) 0=[]:=by kernel_rfl
theorem AOX:AO Tryz.prog 34 (AF 0 3 AA9 AA8 AA7 Hj):=AG TW Tryz.func34 (by kernel_rfl) (by kernel_rfl) rfl (fun v=>(AHp v).trans (ATj v)) (AA Aeq trivial)
def AFp:Env:=Xn.ext 34 true true (AF 0 3 AA9 AA8 AA7 Hj)
theorem Yy:AW Tryz.prog AFp:=Env.Ac TW AOX (fun _=>AI rfl rfl) (fun _=>AH rfl rfl)
end
end Go.Pev
end
section
namespace Go.Pev
open Go.Proofs
noncomputable section
abbrev AQy:Hints:={  }
theorem AGy:∀ v,Iv v=AL 0 Tryz.prog AFp AQy Tryz.f69 NJ NI NH v:=by
 rintro⟨a0,a1,⟨⟩⟩
 kernel_rfl
theorem AQx:AD (AQ Tryz.f69) 0=[]:=by kernel_rfl
theorem ADR:AO Tryz.prog 69 (AF 0 2 NJ NI NH HS):=AG Yy Tryz.func69 (by kernel_rfl) (by kernel_rfl) rfl (fun v=>(Rr v).trans (AGy v)) (AA AQx trivial)
def JP:Env:=AFp.ext 69 true true (AF 0 2 NJ NI NH HS)
theorem Ic:AW Tryz.prog JP:=Env.Ac Yy ADR (fun _=>AI rfl rfl) (fun _=>AH rfl rfl)
abbrev QJ:Hints:={ loop:=fun n=>match n with|0=>Aa 0 42 YX YW De|_=>fun _ _ _=>none }
theorem ADY:∀ v,De v=roundOf Tryz.prog JP QJ 1 0 42 (AB Tryz.f45 0) YX YW v:=by
 rintro⟨a0,a1,a2,a3,a4,⟨⟩⟩
 kernel_rfl
theorem ARI:AD (AB Tryz.f45 0) 1=[]:=by kernel_rfl
theorem ARJ:AZ Tryz.prog 0 (.loop (AB Tryz.f45 0)) (QJ.loop 0):=AT Ic (ADY) (AA ARI trivial)
theorem AMA:∀ v,LL v=AL 0 Tryz.prog JP QJ Tryz.f45 QI QH QG v:=by
 rintro⟨a0,a1,a2,⟨⟩⟩
 kernel_rfl
theorem AWY:AD (AQ Tryz.f45) 0=[(0,AB Tryz.f45 0)]:=by kernel_rfl
theorem AGz:AO Tryz.prog 45 (AF 0 3 QI QH QG NN):=AG Ic Tryz.func45 (by kernel_rfl) (by kernel_rfl) rfl (fun v=>(YY v).trans (AMA v)) (AA AWY ⟨ARJ,trivial⟩)
def MK:Env:=JP.ext 45 true true (AF 0 3 QI QH QG NN)
theorem J2:AW Tryz.prog MK:=Env.Ac Ic AGz (fun _=>AI rfl rfl) (fun _=>AH rfl rfl)
abbrev Qz:Hints:={ loop:=fun n=>match n with|0=>Aa 0 47 Yr Yq Ct|_=>fun _ _ _=>none,fp:=fun n=>match n with|5=>[[],[],[],[],[0],[0],[],[],[0],[],[],[],[],[],[],[]]|_=>[] }
theorem AFg:∀ v,Ct v=roundOf Tryz.prog MK Qz 1 0 47 (AB Tryz.f37 0) Yr Yq v:=by
 rintro⟨a0,a1,a2,a3,a4,a5,a6,⟨⟩⟩
 kernel_rfl
theorem AS8:AD (AB Tryz.f37 0) 1=[]:=by kernel_rfl
theorem AS9:AZ Tryz.prog 0 (.loop (AB Tryz.f37 0)) (Qz.loop 0):=AT J2 (AFg) (AA AS8 trivial)
theorem ANg:∀ v,L3 v=AL 0 Tryz.prog MK Qz Tryz.f37 Qy Qx Qw v:=by
 rintro⟨a0,a1,a2,a3,⟨⟩⟩
 kernel_rfl
theorem AYS:AD (AQ Tryz.f37) 0=[(0,AB Tryz.f37 0)]:=by kernel_rfl
theorem AHU:AO Tryz.prog 37 (AF 0 4 Qy Qx Qw IX):=AG J2 Tryz.func37 (by kernel_rfl) (by kernel_rfl) rfl (fun v=>(Ys v).trans (ANg v)) (AA AYS ⟨AS9,trivial⟩)
def MP:Env:=MK.ext 37 true true (AF 0 4 Qy Qx Qw IX)
theorem J7:AW Tryz.prog MP:=Env.Ac J2 AHU (fun _=>AI rfl rfl) (fun _=>AH rfl rfl)
abbrev AYK:Hints:={ loop:=fun n=>match n with|0=>Aa 0 48 AaB AaA Lu|_=>fun _ _ _=>none }
theorem AYG:∀ v,Lu v=roundOf Tryz.prog MP AYK 1 0 48 (AB Tryz.f36 0) AaB AaA v:=by
 rintro⟨a0,a1,a2,a3,a4,a5,⟨⟩⟩
 kernel_rfl
theorem AkU:AD (AB Tryz.f36 0) 1=[]:=by kernel_rfl
theorem AkV:AZ Tryz.prog 0 (.loop (AB Tryz.f36 0)) (AYK.loop 0):=AT J7 (AYG) (AA AkU trivial)
theorem AiK:∀ v,ANQ v=AL 0 Tryz.prog MP AYK Tryz.f36 AYJ AYI AYH v:=by
 rintro⟨a0,a1,a2,⟨⟩⟩
 kernel_rfl
theorem Alr:AD (AQ Tryz.f36) 0=[(0,AB Tryz.f36 0)]:=by kernel_rfl
theorem AeB:AO Tryz.prog 36 (AF 0 3 AYJ AYI AYH AYL):=AG J7 Tryz.func36 (by kernel_rfl) (by kernel_rfl) rfl (fun v=>(AaC v).trans (AiK v)) (AA Alr ⟨AkV,trivial⟩)
def ANz:Env:=MP.ext 36 true true (AF 0 3 AYJ AYI AYH AYL)
theorem Xm:AW Tryz.prog ANz:=Env.Ac J7 AeB (fun _=>AI rfl rfl) (fun _=>AH rfl rfl)
abbrev ALm:Hints:={ loop:=fun n=>match n with|0=>Aa 0 38 AQ2 AQ1 Hz|_=>fun _ _ _=>none,fp:=fun n=>match n with|5=>[[],[],[],[],[],[],[],[],[],[],[],[],[],[],[],[],[]]|_=>[] }
theorem AQ0:∀ v,Hz v=roundOf Tryz.prog ANz ALm 1 0 38 (AB Tryz.f35 0) AQ2 AQ1 v:=by
 rintro⟨a0,a1,a2,a3,⟨⟩⟩
 kernel_rfl
theorem Aga:AD (AB Tryz.f35 0) 1=[]:=by kernel_rfl
theorem Agb:AZ Tryz.prog 0 (.loop (AB Tryz.f35 0)) (ALm.loop 0):=AT Xm (AQ0) (AA Aga trivial)
theorem AcI:∀ v,Z5 v=AL 0 Tryz.prog ANz ALm Tryz.f35 ALl ALk ALj v:=by
 rintro⟨a0,a1,⟨⟩⟩
 kernel_rfl
theorem Ajh:AD (AQ Tryz.f35) 0=[(0,AB Tryz.f35 0)]:=by kernel_rfl
theorem AVy:AO Tryz.prog 35 (AF 0 2 ALl ALk ALj AIZ):=AG Xm Tryz.func35 (by kernel_rfl) (by kernel_rfl) rfl (fun v=>(AQ3 v).trans (AcI v)) (AA Ajh ⟨Agb,trivial⟩)
def ANs:Env:=ANz.ext 35 true true (AF 0 2 ALl ALk ALj AIZ)
theorem AF4:AW Tryz.prog ANs:=Env.Ac Xm AVy (fun _=>AI rfl rfl) (fun _=>AH rfl rfl)
abbrev Akh:Hints:={  }
theorem AeN:∀ v,Sp v=AL 0 Tryz.prog ANs Akh Tryz.f12 ANe ANd ANc v:=by
 rintro⟨a0,a1,a2,⟨⟩⟩
 kernel_rfl
theorem Akg:AD (AQ Tryz.f12) 0=[]:=by kernel_rfl
theorem AYR:AO Tryz.prog 12 (AF 0 3 ANe ANd ANc AFf):=AG AF4 Tryz.func12 (by kernel_rfl) (by kernel_rfl) rfl (fun v=>(AFe v).trans (AeN v)) (AA Akg trivial)
def AN1:Env:=ANs.ext 12 true true (AF 0 3 ANe ANd ANc AFf)
theorem AGH:AW Tryz.prog AN1:=Env.Ac AF4 AYR (fun _=>AI rfl rfl) (fun _=>AH rfl rfl)
abbrev Abc:Hints:={ fp:=fun n=>match n with|4=>[[0],[0],[0],[],[],[],[],[],[],[],[18],[],[]]|_=>[] }
theorem APP:∀ v,KE v=AL 0 Tryz.prog AN1 Abc Tryz.f14 UI UH UG v:=by
 rintro⟨a0,a1,a2,a3,⟨⟩⟩
 kernel_rfl
theorem Abb:AD (AQ Tryz.f14) 0=[]:=by kernel_rfl
theorem AK2:AO Tryz.prog 14 (AF 0 4 UI UH UG K0):=AG AGH Tryz.func14 (by kernel_rfl) (by kernel_rfl) rfl (fun v=>(P6 v).trans (APP v)) (AA Abb trivial)
def O0:Env:=AN1.ext 14 true true (AF 0 4 UI UH UG K0)
theorem ME:AW Tryz.prog O0:=Env.Ac AGH AK2 (fun _=>AI rfl rfl) (fun _=>AH rfl rfl)
abbrev ABb:Hints:={ loop:=fun n=>match n with|0=>Aa 0 71 AH2 AH1 Ef|_=>fun _ _ _=>none,fp:=fun n=>match n with|14=>[[],[22],[22],[4],[5],[4],[5]]|12=>[[0],[0],[],[],[],[],[],[6],[],[14],[]]|_=>[] }
theorem AKv:∀ v,Ef v=roundOf Tryz.prog O0 ABb 1 0 71 (AB Tryz.f16 0) AH2 AH1 v:=by
 rintro⟨a0,a1,a2,a3,a4,a5,a6,a7,a8,a9,a10,a11,a12,a13,a14,a15,⟨⟩⟩
 kernel_rfl
theorem AbN:AD (AB Tryz.f16 0) 1=[]:=by kernel_rfl
theorem AbO:AZ Tryz.prog 0 (.loop (AB Tryz.f16 0)) (ABb.loop 0):=AT ME (AKv) (AA AbN trivial)
theorem AUZ:∀ v,Mw v=AL 0 Tryz.prog O0 ABb Tryz.f16 ABa ABZ ABY v:=by
 rintro⟨a0,a1,a2,⟨⟩⟩
 kernel_rfl
theorem Afc:AD (AQ Tryz.f16) 0=[(0,AB Tryz.f16 0)]:=by kernel_rfl
theorem APB:AO Tryz.prog 16 (AF 0 3 ABa ABZ ABY P2):=AG ME Tryz.func16 (by kernel_rfl) (by kernel_rfl) rfl (fun v=>(UA v).trans (AUZ v)) (AA Afc ⟨AbO,trivial⟩)
def AFu:Env:=O0.ext 16 true true (AF 0 3 ABa ABZ ABY P2)
theorem Y0:AW Tryz.prog AFu:=Env.Ac ME APB (fun _=>AI rfl rfl) (fun _=>AH rfl rfl)
abbrev AeK:Hints:={  }
theorem AS3:∀ v,XL v=AL 0 Tryz.prog AFu AeK Tryz.f9 XK XJ XI v:=by
 rintro⟨⟨⟩⟩
 kernel_rfl
theorem AeJ:AD (AQ Tryz.f9) 0=[]:=by kernel_rfl
theorem ANb:AO Tryz.prog 9 (AF 0 0 XK XJ XI JK):=AG Y0 Tryz.func9 (by kernel_rfl) (by kernel_rfl) rfl (fun v=>(AYP v).trans (AS3 v)) (AA AeJ trivial)
def Xo:Env:=AFu.ext 9 true true (AF 0 0 XK XJ XI JK)
theorem TX:AW Tryz.prog Xo:=Env.Ac Y0 ANb (fun _=>AI rfl rfl) (fun _=>AH rfl rfl)
abbrev AdT:Hints:={  }
theorem AR5:∀ v,Oh v=AL 0 Tryz.prog Xo AdT Tryz.f10 Wh Wg Wf v:=by
 rintro⟨a0,⟨⟩⟩
 kernel_rfl
theorem AdS:AD (AQ Tryz.f10) 0=[]:=by kernel_rfl
theorem AMi:AO Tryz.prog 10 (AF 0 1 Wh Wg Wf Oi):=AG TX Tryz.func10 (by kernel_rfl) (by kernel_rfl) rfl (fun v=>(AER v).trans (AR5 v)) (AA AdS trivial)
def AJX:Env:=Xo.ext 10 true true (AF 0 1 Wh Wg Wf Oi)
theorem ANx:AW Tryz.prog AJX:=Env.Ac TX AMi (fun _=>AI rfl rfl) (fun _=>AH rfl rfl)
abbrev AGV:Hints:={  }
theorem ZQ:∀ v,GH v=AL 0 Tryz.prog AJX AGV Tryz.f3 JZ JY JX v:=by
 rintro⟨a0,a1,⟨⟩⟩
 kernel_rfl
theorem AGU:AD (AQ Tryz.f3) 0=[]:=by kernel_rfl
theorem T9:AO Tryz.prog 3 (AF 0 2 JZ JY JX Ee):=AG ANx Tryz.func3 (by kernel_rfl) (by kernel_rfl) rfl (fun v=>(Mv v).trans (ZQ v)) (AA AGU trivial)
end
end Go.Pev
end
section

end
