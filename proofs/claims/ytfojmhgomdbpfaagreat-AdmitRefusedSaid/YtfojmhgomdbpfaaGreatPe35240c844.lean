/- A part of the proofs of this seat: G26dP11 G26dP12 G26dP13 G26dP14 G26dP PevReach. -/
import Derived.Test.YtfojmhgomdbpfaaGreatPf60e44725d
import Derived.SizedLaws
set_option linter.unusedVariables false
set_option linter.unusedSimpArgs false
set_option linter.unusedSectionVars false
set_option maxRecDepth 100000
section
namespace Go.Pev
open Go.Proofs
noncomputable section
theorem Akr : (Tryz.f212.name == "runtime.NumGoroutine") = false := by kernel_rfl
theorem AOI:Ls Tryz.prog Tryz.f212 104 4 .bool where
 body:=by kernel_rfl
 nt:=by kernel_rfl
 res:=by kernel_rfl
 d:=⟨by kernel_rfl,by kernel_rfl,by kernel_rfl,by kernel_rfl,by kernel_rfl,by kernel_rfl,by kernel_rfl,by kernel_rfl⟩
 g:=⟨by kernel_rfl,by kernel_rfl,by kernel_rfl,by kernel_rfl,by kernel_rfl,by kernel_rfl,by kernel_rfl,by kernel_rfl⟩
 o00:=by kernel_rfl
 o10:=by kernel_rfl
 o11:=by kernel_rfl
 o20:=by kernel_rfl
 o30:=by kernel_rfl
 o31:=by kernel_rfl
 o32:=by kernel_rfl
 o33:=by kernel_rfl
 sl:=by kernel_rfl
 z:=by kernel_rfl
 by1:=by kernel_rfl
def AU8:Env:=AKG.ext 212 true true (El 4 .bool)
theorem AU7:AX Tryz.prog AU8:=Env.AZ API (AFI AOI Tryz.func212 Akr) (fun _=>CR _ _) (fun _=>(CR _ _).Alj)
theorem Akq : (Tryz.f198.name == "runtime.NumGoroutine") = false := by kernel_rfl
theorem AOH:Ls Tryz.prog Tryz.f198 76 41 (.slice (.int .i64)) where
 body:=by kernel_rfl
 nt:=by kernel_rfl
 res:=by kernel_rfl
 d:=⟨by kernel_rfl,by kernel_rfl,by kernel_rfl,by kernel_rfl,by kernel_rfl,by kernel_rfl,by kernel_rfl,by kernel_rfl⟩
 g:=⟨by kernel_rfl,by kernel_rfl,by kernel_rfl,by kernel_rfl,by kernel_rfl,by kernel_rfl,by kernel_rfl,by kernel_rfl⟩
 o00:=by kernel_rfl
 o10:=by kernel_rfl
 o11:=by kernel_rfl
 o20:=by kernel_rfl
 o30:=by kernel_rfl
 o31:=by kernel_rfl
 o32:=by kernel_rfl
 o33:=by kernel_rfl
 sl:=by kernel_rfl
 z:=by kernel_rfl
 by1:=by kernel_rfl
def AU6:Env:=AU8.ext 198 true true (El 41 (.slice (.int .i64)))
theorem AU5:AX Tryz.prog AU6:=Env.AZ AU7 (AFI AOH Tryz.func198 Akq) (fun _=>CR _ _) (fun _=>(CR _ _).Alj)
theorem Anc : (Tryz.f207.name == "runtime.NumGoroutine") = false := by kernel_rfl
theorem AT8:AKH Tryz.prog Tryz.f207 41 3 1 where
 body:=by kernel_rfl
 nt:=by kernel_rfl
 res:=by kernel_rfl
 d:=⟨by kernel_rfl,by kernel_rfl,by kernel_rfl,by kernel_rfl,by kernel_rfl,by kernel_rfl,by kernel_rfl,by kernel_rfl⟩
 g:=⟨by kernel_rfl,by kernel_rfl,by kernel_rfl,by kernel_rfl,by kernel_rfl,by kernel_rfl,by kernel_rfl,by kernel_rfl⟩
 o00:=by kernel_rfl
 o10:=by kernel_rfl
 o11:=by kernel_rfl
 o12:=by kernel_rfl
 o13:=by kernel_rfl
 o14:=by kernel_rfl
 o15:=by kernel_rfl
 o16:=by kernel_rfl
 sl:=by kernel_rfl
 sz:=by kernel_rfl
def APJ:Env:=AU6.ext 207 true true (NA 1)
theorem AGV:AX Tryz.prog APJ:=Env.AZ AU5 (Anb AT8 Tryz.func207 Anc) (fun _=>M9 _) (fun _=>(M9 _).Alj)
abbrev Ag8:Hints:={ fp:=fun n=>match n with|11=>[[0],[0],[],[12],[12],[],[],[],[],[12],[12],[],[],[],[31,38],[0],[1]]|10=>[[12],[12],[12],[],[],[],[]]|6=>[[12],[],[0],[0],[],[],[12],[12],[],[],[]]|_=>[] }
theorem AVY:∀ v,Qn v=AK 0 Tryz.prog APJ Ag8 Tryz.f206 AAn AAm AAl v:=by
 rintro⟨a0,a1,⟨⟩⟩
 kernel_rfl
theorem Ag7:AD (AQ Tryz.f206) 0=[]:=by kernel_rfl
theorem AP0:AO Tryz.prog 206 (AF 0 2 AAn AAm AAl AAo):=AH AGV Tryz.func206 (by kernel_rfl) (by kernel_rfl) rfl (fun v=>(AIA v).trans (AVY v)) (AA Ag7 trivial)
def SZ:Env:=APJ.ext 206 true true (AF 0 2 AAn AAm AAl AAo)
theorem NM:AX Tryz.prog SZ:=Env.AZ AGV AP0 (fun _=>AI rfl rfl) (fun _=>AG rfl rfl)
abbrev PH:Hints:={ loop:=fun n=>match n with|0=>Ab 1 32 XV XU DL|_=>fun _ _ _=>none }
theorem AAq:∀ v,DL v=roundOf Tryz.prog SZ PH 1 1 32 (AB Tryz.f213 0) XV XU v:=by
 rintro⟨a0,a1,⟨⟩⟩
 kernel_rfl
theorem AP2:AD (AB Tryz.f213 0) 1=[]:=by kernel_rfl
theorem AP3:Aa Tryz.prog 1 (.loop (AB Tryz.f213 0)) (PH.loop 0):=AT NM (AAq) (AA AP2 trivial)
theorem AK1:∀ v,KS v=AK 1 Tryz.prog SZ PH Tryz.f213 PG PF PE v:=by
 rintro⟨a0,a1,⟨⟩⟩
 kernel_rfl
theorem AVZ:AD (AQ Tryz.f213) 0=[(0,AB Tryz.f213 0)]:=by kernel_rfl
theorem AGi:AO Tryz.prog 213 (AF 1 2 PG PF PE MH):=AH NM Tryz.func213 (by kernel_rfl) (by kernel_rfl) rfl (fun v=>(XW v).trans (AK1 v)) (AA AVZ ⟨AP3,trivial⟩)
def LW:Env:=SZ.ext 213 false true (AF 1 2 PG PF PE MH)
theorem JQ:AX Tryz.prog LW:=Env.AZ NM AGi ((by simp)) (fun _=>AG rfl rfl)
abbrev AVe:Hints:={ loop:=fun n=>match n with|0=>Ab 0 67 Aab Aaa KT|_=>fun _ _ _=>none,fp:=fun n=>match n with|12=>[[0],[0],[0],[8],[8],[1000005,3],[7],[],[]]|7=>[[0],[0],[],[0],[0],[],[0],[1],[0],[1]]|5=>[[12],[],[0],[0],[],[],[12],[12],[],[],[],[0],[0],[12],[12],[],[],[]]|_=>[] }
theorem AVa:∀ v,KT v=roundOf Tryz.prog LW AVe 1 0 67 (AB Tryz.f208 0) Aab Aaa v:=by
 rintro⟨a0,a1,a2,a3,a4,a5,a6,a7,a8,⟨⟩⟩
 kernel_rfl
theorem Aln:AD (AB Tryz.f208 0) 1=[]:=by kernel_rfl
theorem Alo:Aa Tryz.prog 0 (.loop (AB Tryz.f208 0)) (AVe.loop 0):=AT JQ (AVa) (AA Aln trivial)
theorem AhA:∀ v,AK2 v=AK 0 Tryz.prog LW AVe Tryz.f208 AVd AVc AVb v:=by
 rintro⟨a0,a1,⟨⟩⟩
 kernel_rfl
theorem AoD:AD (AQ Tryz.f208) 0=[(0,AB Tryz.f208 0)]:=by kernel_rfl
theorem Aci:AO Tryz.prog 208 (AF 0 2 AVd AVc AVb AhB):=AH JQ Tryz.func208 (by kernel_rfl) (by kernel_rfl) rfl (fun v=>(Aac v).trans (AhA v)) (AA AoD ⟨Alo,trivial⟩)
def AaL:Env:=LW.ext 208 true true (AF 0 2 AVd AVc AVb AhB)
theorem AJ5:AX Tryz.prog AaL:=Env.AZ JQ Aci (fun _=>AI rfl rfl) (fun _=>AG rfl rfl)
abbrev AZ1:Hints:={  }
theorem AOa:∀ v,LQ v=AK 0 Tryz.prog AaL AZ1 Tryz.f203 QL QK QJ v:=by
 rintro⟨a0,⟨⟩⟩
 kernel_rfl
theorem AZ0:AD (AQ Tryz.f203) 0=[]:=by kernel_rfl
theorem AHr:AO Tryz.prog 203 (AF 0 1 QL QK QJ J8):=AH AJ5 Tryz.func203 (by kernel_rfl) (by kernel_rfl) rfl (fun v=>(YR v).trans (AOa v)) (AA AZ0 trivial)
def Qb:Env:=AaL.ext 203 true true (AF 0 1 QL QK QJ J8)
theorem O9:AX Tryz.prog Qb:=Env.AZ AJ5 AHr (fun _=>AI rfl rfl) (fun _=>AG rfl rfl)
abbrev Akt:Hints:={ fp:=fun n=>match n with|1=>[[],[],[],[],[0],[0],[],[],[],[],[0],[0],[],[],[],[],[],[],[],[0],[],[],[],[0],[0],[0],[0],[],[],[],[],[],[],[],[],[],[]]|_=>[] }
theorem AZw:∀ v,SA v=AK 0 Tryz.prog Qb Akt Tryz.f204 AFP AFO AFN v:=by
 rintro⟨a0,a1,⟨⟩⟩
 kernel_rfl
theorem Aks:AD (AQ Tryz.f204) 0=[]:=by kernel_rfl
theorem AUJ:AO Tryz.prog 204 (AF 0 2 AFP AFO AFN AFQ):=AH O9 Tryz.func204 (by kernel_rfl) (by kernel_rfl) rfl (fun v=>(AJo v).trans (AZw v)) (AA Aks trivial)
def NY:Env:=Qb.ext 204 true true (AF 0 2 AFP AFO AFN AFQ)
theorem I7:AX Tryz.prog NY:=Env.AZ O9 AUJ (fun _=>AI rfl rfl) (fun _=>AG rfl rfl)
abbrev My:Hints:={ loop:=fun n=>match n with|0=>Ab 0 67 AJl AJj F9|1=>Ab 0 67 AJk AJi Ek|_=>fun _ _ _=>none }
theorem AN8:∀ v,Ek v=roundOf Tryz.prog NY My 2 0 67 (AB Tryz.f197 1) AJk AJi v:=by
 rintro⟨a0,a1,a2,a3,a4,a5,a6,a7,a8,a9,a10,a11,a12,a13,⟨⟩⟩
 kernel_rfl
theorem Afx:AD (AB Tryz.f197 1) 2=[]:=by kernel_rfl
theorem Afz:Aa Tryz.prog 0 (.loop (AB Tryz.f197 1)) (My.loop 1):=AT I7 (AN8) (AA Afx trivial)
theorem AN9:∀ v,F9 v=roundOf Tryz.prog NY My 1 0 67 (AB Tryz.f197 0) AJl AJj v:=by
 rintro⟨a0,a1,a2,a3,a4,a5,a6,a7,a8,a9,a10,⟨⟩⟩
 kernel_rfl
theorem Afy:AD (AB Tryz.f197 0) 1=[(1,AB Tryz.f197 1)]:=by kernel_rfl
theorem Af0:Aa Tryz.prog 0 (.loop (AB Tryz.f197 0)) (My.loop 0):=AT I7 (AN9) (AA Afy ⟨Afz,trivial⟩)
theorem AZc:∀ v,Ry v=AK 0 Tryz.prog NY My Tryz.f197 AE4 AE3 AE2 v:=by
 rintro⟨a0,⟨⟩⟩
 kernel_rfl
theorem Akm:AD (AQ Tryz.f197) 0=[(0,AB Tryz.f197 0)]:=by kernel_rfl
theorem ATy:AO Tryz.prog 197 (AF 0 1 AE4 AE3 AE2 AE5):=AH I7 Tryz.func197 (by kernel_rfl) (by kernel_rfl) rfl (fun v=>(AJm v).trans (AZc v)) (AA Akm ⟨Af0,trivial⟩)
def AGU:Env:=NY.ext 197 true true (AF 0 1 AE4 AE3 AE2 AE5)
theorem Yo:AX Tryz.prog AGU:=Env.AZ I7 ATy (fun _=>AI rfl rfl) (fun _=>AG rfl rfl)
abbrev Ak6:Hints:={  }
def AUT:Env:={ AGU with keep:=true }
theorem AUS:AX Tryz.prog AUT:=Yo
theorem AZ3:∀ v,SC v=AK 0 Tryz.prog AUT Ak6 Tryz.f173 AFY AFX AFW v:=by
 rintro⟨a0,a1,a2,⟨⟩⟩
 kernel_rfl
theorem Ak5:AD (AQ Tryz.f173) 0=[]:=by kernel_rfl
theorem AUR:AO Tryz.prog 173 (AF 0 3 AFY AFX AFW AFZ):=AH AUS Tryz.func173 (by kernel_rfl) (by kernel_rfl) rfl (fun v=>(AJq v).trans (AZ3 v)) (AA Ak5 trivial)
def S9:Env:=AGU.ext 173 true true (AF 0 3 AFY AFX AFW AFZ)
theorem NZ:AX Tryz.prog S9:=Env.AZ Yo AUR (fun _=>AI rfl rfl) (fun _=>AG rfl rfl)
abbrev AOW:Hints:={ loop:=fun n=>match n with|0=>Ab 0 18 AUM AUL Hy|_=>fun _ _ _=>none }
theorem AUK:∀ v,Hy v=roundOf Tryz.prog S9 AOW 1 0 18 (AB Tryz.f191 0) AUM AUL v:=by
 rintro⟨a0,a1,a2,a3,⟨⟩⟩
 kernel_rfl
theorem Aku:AD (AB Tryz.f191 0) 1=[]:=by kernel_rfl
theorem Akv:Aa Tryz.prog 0 (.loop (AB Tryz.f191 0)) (AOW.loop 0):=AT NZ (AUK) (AA Aku trivial)
theorem AgH:∀ v,Zr v=AK 0 Tryz.prog S9 AOW Tryz.f191 AOV AOU AOT v:=by
 rintro⟨a0,⟨⟩⟩
 kernel_rfl
theorem Ane:AD (AQ Tryz.f191) 0=[(0,AB Tryz.f191 0)]:=by kernel_rfl
theorem AZx:AO Tryz.prog 191 (AF 0 1 AOV AOU AOT AUO):=AH NZ Tryz.func191 (by kernel_rfl) (by kernel_rfl) rfl (fun v=>(AUN v).trans (AgH v)) (AA Ane ⟨Akv,trivial⟩)
def APK:Env:=S9.ext 191 true true (AF 0 1 AOV AOU AOT AUO)
theorem AGW:AX Tryz.prog APK:=Env.AZ NZ AZx (fun _=>AI rfl rfl) (fun _=>AG rfl rfl)
abbrev Af6:Hints:={  }
theorem AT7:∀ v,OA v=AK 2 Tryz.prog APK Af6 Tryz.f199 Wc Wb Wa v:=by
 rintro⟨a0,a1,a2,a3,a4,a5,a6,a7,a8,a9,a10,a11,⟨⟩⟩
 kernel_rfl
theorem Af5:AD (AQ Tryz.f199) 0=[]:=by kernel_rfl
theorem AOF:AO Tryz.prog 199 (AF 2 2 Wc Wb Wa OB):=AH AGW Tryz.func199 (by kernel_rfl) (by kernel_rfl) rfl (fun v=>(AFG v).trans (AT7 v)) (AA Af5 trivial)
def XN:Env:=APK.ext 199 false true (AF 2 2 Wc Wb Wa OB)
theorem S8:AX Tryz.prog XN:=Env.AZ AGW AOF ((by simp)) (fun _=>AG rfl rfl)
end
end Go.Pev
end
section
namespace Go.Pev
open Go.Proofs
noncomputable section
abbrev Ak2:Hints:={ fp:=fun n=>match n with|9=>[[],[0],[0],[0],[0],[],[],[],[2],[3]]|6=>[[],[0],[0],[0],[0],[],[],[],[],[],[2],[3]]|1=>[[],[0],[0],[0],[0],[],[2],[2],[],[0],[0],[0],[0],[],[2],[2],[],[]]|_=>[] }
theorem AZz:∀ v,SB v=AK 2 Tryz.prog XN Ak2 Tryz.f200 AFT AFS AFR v:=by
 rintro⟨a0,a1,a2,a3,a4,a5,a6,a7,a8,a9,a10,a11,a12,⟨⟩⟩
 kernel_rfl
theorem Ak1:AD (AQ Tryz.f200) 0=[]:=by kernel_rfl
theorem AUQ:AO Tryz.prog 200 (AF 2 3 AFT AFS AFR AFU):=AH S8 Tryz.func200 (by kernel_rfl) (by kernel_rfl) rfl (fun v=>(AJp v).trans (AZz v)) (AA Ak1 trivial)
def AGX:Env:=XN.ext 200 false true (AF 2 3 AFT AFS AFR AFU)
theorem Yp:AX Tryz.prog AGX:=Env.AZ S8 AUQ ((by simp)) (fun _=>AG rfl rfl)
abbrev ApI:Hints:={ fp:=fun n=>match n with|9=>[[],[],[0],[0],[0],[0],[],[0],[0],[0],[0],[],[],[],[],[],[0],[0],[0],[1],[],[]]|6=>[[],[0],[0],[0],[0],[],[],[0],[0],[0],[0],[],[2],[2],[],[],[],[],[28],[2],[3,30]]|3=>[[],[],[0],[0],[0],[0],[],[0],[0],[0],[0],[],[],[],[],[],[],[0],[0],[0],[1],[],[],[]]|1=>[[],[0],[0],[0],[0],[],[0],[0],[0],[0],[]]|_=>[] }
theorem Ang:∀ v,Abw v=AK 2 Tryz.prog AGX ApI Tryz.f201 Akz Aky Akx v:=by
 rintro⟨a0,a1,a2,a3,a4,a5,a6,a7,a8,a9,a10,a11,⟨⟩⟩
 kernel_rfl
theorem ApH:AD (AQ Tryz.f201) 0=[]:=by kernel_rfl
theorem Akw:AO Tryz.prog 201 (AF 2 2 Akz Aky Akx cgo):=AH Yp Tryz.func201 (by kernel_rfl) (by kernel_rfl) rfl (fun v=>(Ak0 v).trans (Ang v)) (AA ApH trivial)
def AlT:Env:=AGX.ext 201 false true (AF 2 2 Akz Aky Akx cgo)
theorem AU9:AX Tryz.prog AlT:=Env.AZ Yp Akw ((by simp)) (fun _=>AG rfl rfl)
abbrev AnX:Hints:={ fp:=fun n=>match n with|18=>[[],[14],[14],[14],[],[14],[14],[14],[3],[5],[]]|14=>[[],[14],[14],[14],[],[14],[14],[14],[3],[5],[]]|_=>[] }
theorem Afw:∀ v,Zq v=AK 0 Tryz.prog AlT AnX Tryz.f190 AN6 AN5 AN4 v:=by
 rintro⟨a0,a1,a2,⟨⟩⟩
 kernel_rfl
theorem AnW:AD (AQ Tryz.f190) 0=[]:=by kernel_rfl
theorem AZa:AO Tryz.prog 190 (AF 0 3 AN6 AN5 AN4 ATv):=AH AU9 Tryz.func190 (by kernel_rfl) (by kernel_rfl) rfl (fun v=>(ATu v).trans (Afw v)) (AA AnW trivial)
def APH:Env:=AlT.ext 190 true true (AF 0 3 AN6 AN5 AN4 ATv)
theorem AGT:AX Tryz.prog APH:=Env.AZ AU9 AZa (fun _=>AI rfl rfl) (fun _=>AG rfl rfl)
abbrev AnN:Hints:={ fp:=fun n=>match n with|3=>[[],[],[12],[],[0],[0],[0],[14],[],[3,16],[0],[0],[1],[0],[0],[1]]|_=>[] }
theorem Afc:∀ v,Zn v=AK 1 Tryz.prog APH AnN Tryz.f174 ANk ANj ANi v:=by
 rintro⟨a0,a1,a2,a3,a4,a5,a6,a7,a8,a9,⟨⟩⟩
 kernel_rfl
theorem AnM:AD (AQ Tryz.f174) 0=[]:=by kernel_rfl
theorem AZA:AO Tryz.prog 174 (AF 1 3 ANk ANj ANi AJa):=AH AGT Tryz.func174 (by kernel_rfl) (by kernel_rfl) rfl (fun v=>(ATe v).trans (Afc v)) (AA AnM trivial)
def S2:Env:=APH.ext 174 false true (AF 1 3 ANk ANj ANi AJa)
theorem Ln:AX Tryz.prog S2:=Env.AZ AGT AZA ((by simp)) (fun _=>AG rfl rfl)
abbrev J4:Hints:={ loop:=fun n=>match n with|0=>Ab 1 41 AEi AEg Cx|1=>Ab 1 41 AEh AEf CK|_=>fun _ _ _=>none }
theorem AHT:∀ v,CK v=roundOf Tryz.prog S2 J4 2 1 41 (AB Tryz.f175 1) AEh AEf v:=by
 rintro⟨a0,a1,a2,a3,a4,a5,a6,a7,a8,a9,a10,⟨⟩⟩
 kernel_rfl
theorem AZB:AD (AB Tryz.f175 1) 2=[]:=by kernel_rfl
theorem AZD:Aa Tryz.prog 1 (.loop (AB Tryz.f175 1)) (J4.loop 1):=AT Ln (AHT) (AA AZB trivial)
theorem AHU:∀ v,Cx v=roundOf Tryz.prog S2 J4 1 1 41 (AB Tryz.f175 0) AEi AEg v:=by
 rintro⟨a0,a1,a2,a3,a4,a5,a6,a7,a8,⟨⟩⟩
 kernel_rfl
theorem AZC:AD (AB Tryz.f175 0) 1=[(1,AB Tryz.f175 1)]:=by kernel_rfl
theorem AZE:Aa Tryz.prog 1 (.loop (AB Tryz.f175 0)) (J4.loop 0):=AT Ln (AHU) (AA AZC ⟨AZD,trivial⟩)
theorem ATg:∀ v,N5 v=AK 1 Tryz.prog S2 J4 Tryz.f175 Vy Vx Vw v:=by
 rintro⟨a0,a1,a2,a3,a4,a5,a6,a7,⟨⟩⟩
 kernel_rfl
theorem Afd:AD (AQ Tryz.f175) 0=[(0,AB Tryz.f175 0)]:=by kernel_rfl
theorem ANl:AO Tryz.prog 175 (AF 1 1 Vy Vx Vw Rr):=AH Ln Tryz.func175 (by kernel_rfl) (by kernel_rfl) rfl (fun v=>(AEj v).trans (ATg v)) (AA Afd ⟨AZE,trivial⟩)
def OO:Env:=S2.ext 175 false true (AF 1 1 Vy Vx Vw Rr)
theorem Lo:AX Tryz.prog OO:=Env.AZ Ln ANl ((by simp)) (fun _=>AG rfl rfl)
abbrev AEd:Hints:={ loop:=fun n=>match n with|0=>Ab 0 71 AJX AJW Ei|_=>fun _ _ _=>none,fp:=fun n=>match n with|11=>[[],[2],[2],[2],[],[2],[2],[2],[],[1],[],[]]|14=>[[],[2],[2],[2],[],[2],[2],[2],[],[1],[],[]]|_=>[] }
theorem ANh:∀ v,Ei v=roundOf Tryz.prog OO AEd 1 0 71 (AB Tryz.f155 0) AJX AJW v:=by
 rintro⟨a0,a1,a2,a3,a4,a5,a6,a7,a8,a9,a10,a11,a12,a13,a14,⟨⟩⟩
 kernel_rfl
theorem Afa:AD (AB Tryz.f155 0) 1=[]:=by kernel_rfl
theorem Afb:Aa Tryz.prog 0 (.loop (AB Tryz.f155 0)) (AEd.loop 0):=AT Lo (ANh) (AA Afa trivial)
theorem AY9:∀ v,Rq v=AK 0 Tryz.prog OO AEd Tryz.f155 AEc AEb AEa v:=by
 rintro⟨a0,a1,a2,a3,⟨⟩⟩
 kernel_rfl
theorem Akb:AD (AQ Tryz.f155) 0=[(0,AB Tryz.f155 0)]:=by kernel_rfl
theorem ATd:AO Tryz.prog 155 (AF 0 4 AEc AEb AEa AEe):=AH Lo Tryz.func155 (by kernel_rfl) (by kernel_rfl) rfl (fun v=>(AJY v).trans (AY9 v)) (AA Akb ⟨Afb,trivial⟩)
def S1:Env:=OO.ext 155 true true (AF 0 4 AEc AEb AEa AEe)
theorem NX:AX Tryz.prog S1:=Env.AZ Lo ATd (fun _=>AI rfl rfl) (fun _=>AG rfl rfl)
abbrev WC:Hints:={ loop:=fun n=>match n with|0=>Ab 0 48 AEo AEn EP|_=>fun _ _ _=>none }
theorem AHV:∀ v,EP v=roundOf Tryz.prog S1 WC 1 0 48 (AB Tryz.f156 0) AEo AEn v:=by
 rintro⟨a0,a1,a2,a3,a4,a5,a6,a7,a8,a9,a10,⟨⟩⟩
 kernel_rfl
theorem AZI:AD (AB Tryz.f156 0) 1=[]:=by kernel_rfl
theorem AZJ:Aa Tryz.prog 0 (.loop (AB Tryz.f156 0)) (WC.loop 0):=AT NX (AHV) (AA AZI trivial)
theorem ATk:∀ v,N6 v=AK 0 Tryz.prog S1 WC Tryz.f156 WB WA Vz v:=by
 rintro⟨a0,a1,⟨⟩⟩
 kernel_rfl
theorem Afh:AD (AQ Tryz.f156) 0=[(0,AB Tryz.f156 0)]:=by kernel_rfl
theorem ANp:AO Tryz.prog 156 (AF 0 2 WB WA Vz Ru):=AH NX Tryz.func156 (by kernel_rfl) (by kernel_rfl) rfl (fun v=>(AEp v).trans (ATk v)) (AA Afh ⟨AZJ,trivial⟩)
def XJ:Env:=S1.ext 156 true true (AF 0 2 WB WA Vz Ru)
theorem S4:AX Tryz.prog XJ:=Env.AZ NX ANp (fun _=>AI rfl rfl) (fun _=>AG rfl rfl)
abbrev AkG:Hints:={  }
theorem AYq:∀ v,Rh v=AK 0 Tryz.prog XJ AkG Tryz.f154 AEB AEA AD9 v:=by
 rintro⟨a0,⟨⟩⟩
 kernel_rfl
theorem AkF:AD (AQ Tryz.f154) 0=[]:=by kernel_rfl
theorem ATK:AO Tryz.prog 154 (AF 0 1 AEB AEA AD9 AEC):=AH S4 Tryz.func154 (by kernel_rfl) (by kernel_rfl) rfl (fun v=>(AJJ v).trans (AYq v)) (AA AkF trivial)
def NV:Env:=XJ.ext 154 true true (AF 0 1 AEB AEA AD9 AEC)
theorem I4:AX Tryz.prog NV:=Env.AZ S4 ATK (fun _=>AI rfl rfl) (fun _=>AG rfl rfl)
abbrev Ms:Hints:={ loop:=fun n=>match n with|0=>Ab 0 70 AJN AJL Fz|1=>Ab 0 70 AJM AJK Fy|_=>fun _ _ _=>none }
theorem ANT:∀ v,Fy v=roundOf Tryz.prog NV Ms 2 0 70 (AB Tryz.f139 1) AJM AJK v:=by
 rintro⟨a0,a1,a2,a3,a4,a5,a6,a7,a8,⟨⟩⟩
 kernel_rfl
theorem AfF:AD (AB Tryz.f139 1) 2=[]:=by kernel_rfl
theorem AfH:Aa Tryz.prog 0 (.loop (AB Tryz.f139 1)) (Ms.loop 1):=AT I4 (ANT) (AA AfF trivial)
theorem ANU:∀ v,Fz v=roundOf Tryz.prog NV Ms 1 0 70 (AB Tryz.f139 0) AJN AJL v:=by
 rintro⟨a0,a1,a2,a3,a4,⟨⟩⟩
 kernel_rfl
theorem AfG:AD (AB Tryz.f139 0) 1=[(1,AB Tryz.f139 1)]:=by kernel_rfl
theorem AfI:Aa Tryz.prog 0 (.loop (AB Tryz.f139 0)) (Ms.loop 0):=AT I4 (ANU) (AA AfG ⟨AfH,trivial⟩)
theorem AYt:∀ v,Jz v=AK 0 Tryz.prog NV Ms Tryz.f139 AEG AEF AEE v:=by
 rintro⟨a0,a1,⟨⟩⟩
 kernel_rfl
theorem AkH:AD (AQ Tryz.f139) 0=[(0,AB Tryz.f139 0)]:=by kernel_rfl
theorem ATM:AO Tryz.prog 139 (AF 0 2 AEG AEF AEE CO):=AH I4 Tryz.func139 (by kernel_rfl) (by kernel_rfl) rfl (fun v=>(N3 v).trans (AYt v)) (AA AkH ⟨AfI,trivial⟩)
def AGN:Env:=NV.ext 139 true true (AF 0 2 AEG AEF AEE CO)
theorem Yk:AX Tryz.prog AGN:=Env.AZ I4 ATM (fun _=>AI rfl rfl) (fun _=>AG rfl rfl)
abbrev AhR:Hints:={  }
theorem AVp:∀ v,Qs v=AK 0 Tryz.prog AGN AhR Tryz.f149 AA0 AAz AAy v:=by
 rintro⟨a0,⟨⟩⟩
 kernel_rfl
theorem AhQ:AD (AQ Tryz.f149) 0=[]:=by kernel_rfl
theorem AP9:AO Tryz.prog 149 (AF 0 1 AA0 AAz AAy Td):=AH Yk Tryz.func149 (by kernel_rfl) (by kernel_rfl) rfl (fun v=>(AIF v).trans (AVp v)) (AA AhQ trivial)
def AF7:Env:=AGN.ext 149 true true (AF 0 1 AA0 AAz AAy Td)
theorem Ya:AX Tryz.prog AF7:=Env.AZ Yk AP9 (fun _=>AI rfl rfl) (fun _=>AG rfl rfl)
abbrev Ac7:Hints:={  }
theorem AQT:∀ v,Nn v=AK 0 Tryz.prog AF7 Ac7 Tryz.f150 To Tn Tm v:=by
 rintro⟨a0,a1,⟨⟩⟩
 kernel_rfl
theorem Ac6:AD (AQ Tryz.f150) 0=[]:=by kernel_rfl
theorem ALa:AO Tryz.prog 150 (AF 0 2 To Tn Tm Qw):=AH Ya Tryz.func150 (by kernel_rfl) (by kernel_rfl) rfl (fun v=>(AA9 v).trans (AQT v)) (AA Ac6 trivial)
def W4:Env:=AF7.ext 150 true true (AF 0 2 To Tn Tm Qw)
theorem Sg:AX Tryz.prog W4:=Env.AZ Ya ALa (fun _=>AI rfl rfl) (fun _=>AG rfl rfl)
abbrev Alv:Hints:={  }
theorem Acu:∀ v,ZX v=AK 0 Tryz.prog W4 Alv Tryz.f152 ALE ALD ALC v:=by
 rintro⟨a0,a1,a2,⟨⟩⟩
 kernel_rfl
theorem Alu:AD (AQ Tryz.f152) 0=[]:=by kernel_rfl
theorem AVw:AO Tryz.prog 152 (AF 0 3 ALE ALD ALC AII):=AH Sg Tryz.func152 (by kernel_rfl) (by kernel_rfl) rfl (fun v=>(AQB v).trans (Acu v)) (AA Alu trivial)
def AO7:Env:=W4.ext 152 true true (AF 0 3 ALE ALD ALC AII)
theorem AF8:AX Tryz.prog AO7:=Env.AZ Sg AVw (fun _=>AI rfl rfl) (fun _=>AG rfl rfl)
end
end Go.Pev
end
section
namespace Go.Pev
open Go.Proofs
noncomputable section
theorem AhP:Tryz.f137.body.isSome=true:=by kernel_rfl
theorem AhO : (Tryz.f137.name == "runtime.NumGoroutine") = false := by kernel_rfl
theorem AhN:loops (AQ Tryz.f137)=0:=by kernel_rfl
def LY:Env:=AO7.ext 137 false false (Cl Tryz.prog AO7 {} Tryz.f137)
theorem JS:AX Tryz.prog LY:=Env.AZ AF8 (CX AF8 Tryz.func137 AhP AhO AhN) (by simp) (by simp)
abbrev ABT:Hints:={ loop:=fun n=>match n with|0=>Ab 0 31 AIU AIT FW|_=>fun _ _ _=>none }
theorem ALf:∀ v,FW v=roundOf Tryz.prog LY ABT 1 0 31 (AB Tryz.f151 0) AIU AIT v:=by
 rintro⟨a0,a1,a2,a3,a4,⟨⟩⟩
 kernel_rfl
theorem AdG:AD (AB Tryz.f151 0) 1=[]:=by kernel_rfl
theorem AdH:Aa Tryz.prog 0 (.loop (AB Tryz.f151 0)) (ABT.loop 0):=AT JS (ALf) (AA AdG trivial)
theorem AWA:∀ v,Qy v=AK 0 Tryz.prog LY ABT Tryz.f151 ABS ABR ABQ v:=by
 rintro⟨a0,⟨⟩⟩
 kernel_rfl
theorem Ahk:AD (AQ Tryz.f151) 0=[(0,AB Tryz.f151 0)]:=by kernel_rfl
theorem AQY:AO Tryz.prog 151 (AF 0 2 ABS ABR ABQ PR):=AH JS Tryz.func151 (by kernel_rfl) (by kernel_rfl) rfl (fun v=>(AIV v).trans (AWA v)) (AA Ahk ⟨AdH,trivial⟩)
def KE:Env:=LY.CE 151 1 137 (AF 0 2 ABS ABR ABQ PR)
theorem Gq:AX Tryz.prog KE:=Env.Aw JS AQY (AG rfl rfl)
abbrev FV:Hints:={ loop:=fun n=>match n with|0=>Ab 0 118 AA6 AA3 EJ|1=>Ab 0 118 AA5 AA2 EI|2=>Ab 0 118 AA4 AA1 EH|_=>fun _ _ _=>none }
theorem AGl:∀ v,EH v=roundOf Tryz.prog KE FV 3 0 118 (AB Tryz.f136 2) AA4 AA1 v:=by
 rintro⟨a0,a1,a2,a3,a4,a5,a6,a7,a8,a9,a10,a11,a12,⟨⟩⟩
 kernel_rfl
theorem AVq:AD (AB Tryz.f136 2) 3=[]:=by kernel_rfl
theorem AVt:Aa Tryz.prog 0 (.loop (AB Tryz.f136 2)) (FV.loop 2):=AT Gq (AGl) (AA AVq trivial)
theorem AGm:∀ v,EI v=roundOf Tryz.prog KE FV 2 0 118 (AB Tryz.f136 1) AA5 AA2 v:=by
 rintro⟨a0,a1,a2,a3,a4,a5,a6,a7,a8,⟨⟩⟩
 kernel_rfl
theorem AVr:AD (AB Tryz.f136 1) 2=[(2,AB Tryz.f136 2)]:=by kernel_rfl
theorem AVu:Aa Tryz.prog 0 (.loop (AB Tryz.f136 1)) (FV.loop 1):=AT Gq (AGm) (AA AVr ⟨AVt,trivial⟩)
theorem AGn:∀ v,EJ v=roundOf Tryz.prog KE FV 1 0 118 (AB Tryz.f136 0) AA6 AA3 v:=by
 rintro⟨a0,a1,a2,a3,a4,a5,a6,⟨⟩⟩
 kernel_rfl
theorem AVs:AD (AB Tryz.f136 0) 1=[]:=by kernel_rfl
theorem AVv:Aa Tryz.prog 0 (.loop (AB Tryz.f136 0)) (FV.loop 0):=AT Gq (AGn) (AA AVs trivial)
theorem AQA:∀ v,Jb v=AK 0 Tryz.prog KE FV Tryz.f136 Tg Tf Te v:=by
 rintro⟨a0,a1,a2,⟨⟩⟩
 kernel_rfl
theorem Acs:AD (AQ Tryz.f136) 0=[(0,AB Tryz.f136 0),(1,AB Tryz.f136 1)]:=by kernel_rfl
theorem ALB:AO Tryz.prog 136 (AF 0 4 Tg Tf Te Nl):=AH Gq Tryz.func136 (by kernel_rfl) (by kernel_rfl) rfl (fun v=>(PJ v).trans (AQA v)) (AA Acs ⟨AVv,AVu,trivial⟩)
def W3:Env:=KE.CE 136 3 137 (AF 0 4 Tg Tf Te Nl)
theorem Sb:AX Tryz.prog W3:=Env.Aw Gq ALB (AG rfl rfl)
abbrev Als:Hints:={  }
theorem Acq:∀ v,Qr v=AK 0 Tryz.prog W3 Als Tryz.f111 ALA AK9 AK8 v:=by
 rintro⟨a0,a1,a2,⟨⟩⟩
 kernel_rfl
theorem Alr:AD (AQ Tryz.f111) 0=[]:=by kernel_rfl
theorem AVo:AO Tryz.prog 111 (AF 0 3 ALA AK9 AK8 XY):=AH Sb Tryz.func111 (by kernel_rfl) (by kernel_rfl) rfl (fun v=>(AAx v).trans (Acq v)) (AA Alr trivial)
def Z0:Env:=W3.ext 111 true true (AF 0 3 ALA AK9 AK8 XY)
theorem QS:AX Tryz.prog Z0:=Env.AZ Sb AVo (fun _=>AI rfl rfl) (fun _=>AG rfl rfl)
abbrev ACJ:Hints:={ loop:=fun n=>match n with|0=>Ab 0 26 AIj AIi Fa|_=>fun _ _ _=>none }
theorem AL1:∀ v,Fa v=roundOf Tryz.prog Z0 ACJ 1 0 26 (AB Tryz.f115 0) AIj AIi v:=by
 rintro⟨a0,a1,a2,a3,a4,⟨⟩⟩
 kernel_rfl
theorem Adi:AD (AB Tryz.f115 0) 1=[]:=by kernel_rfl
theorem Adj:Aa Tryz.prog 0 (.loop (AB Tryz.f115 0)) (ACJ.loop 0):=AT QS (AL1) (AA Adi trivial)
theorem AWv:∀ v,RC v=AK 0 Tryz.prog Z0 ACJ Tryz.f115 ACI ACH ACG v:=by
 rintro⟨a0,a1,⟨⟩⟩
 kernel_rfl
theorem AiT:AD (AQ Tryz.f115) 0=[(0,AB Tryz.f115 0)]:=by kernel_rfl
theorem ARA:AO Tryz.prog 115 (AF 0 2 ACI ACH ACG ACK):=AH QS Tryz.func115 (by kernel_rfl) (by kernel_rfl) rfl (fun v=>(AIk v).trans (AWv v)) (AA AiT ⟨Adj,trivial⟩)
def Sk:Env:=Z0.ext 115 true true (AF 0 2 ACI ACH ACG ACK)
theorem NP:AX Tryz.prog Sk:=Env.AZ QS ARA (fun _=>AI rfl rfl) (fun _=>AG rfl rfl)
abbrev UB:Hints:={ loop:=fun n=>match n with|0=>Ab 0 66 ACD ACC EN|_=>fun _ _ _=>none }
theorem AGw:∀ v,EN v=roundOf Tryz.prog Sk UB 1 0 66 (AB Tryz.f114 0) ACD ACC v:=by
 rintro⟨a0,a1,a2,a3,a4,a5,a6,a7,⟨⟩⟩
 kernel_rfl
theorem AWs:AD (AB Tryz.f114 0) 1=[]:=by kernel_rfl
theorem AWt:Aa Tryz.prog 0 (.loop (AB Tryz.f114 0)) (UB.loop 0):=AT NP (AGw) (AA AWs trivial)
theorem AQ9:∀ v,Ns v=AK 0 Tryz.prog Sk UB Tryz.f114 UA T9 T8 v:=by
 rintro⟨a0,a1,a2,⟨⟩⟩
 kernel_rfl
theorem Adh:AD (AQ Tryz.f114) 0=[(0,AB Tryz.f114 0)]:=by kernel_rfl
theorem AL0:AO Tryz.prog 114 (AF 0 3 UA T9 T8 RB):=AH NP Tryz.func114 (by kernel_rfl) (by kernel_rfl) rfl (fun v=>(ACE v).trans (AQ9 v)) (AA Adh ⟨AWt,trivial⟩)
def W6:Env:=Sk.ext 114 true true (AF 0 3 UA T9 T8 RB)
theorem Sj:AX Tryz.prog W6:=Env.AZ NP AL0 (fun _=>AI rfl rfl) (fun _=>AG rfl rfl)
abbrev AiO:Hints:={ fp:=fun n=>match n with|1=>[[],[],[],[0],[2],[],[],[],[],[],[]]|_=>[] }
theorem AWq:∀ v,RA v=AK 0 Tryz.prog W6 AiO Tryz.f90 AB8 AB7 AB6 v:=by
 rintro⟨a0,a1,a2,⟨⟩⟩
 kernel_rfl
theorem AiN:AD (AQ Tryz.f90) 0=[]:=by kernel_rfl
theorem AQ6:AO Tryz.prog 90 (AF 0 3 AB8 AB7 AB6 AB9):=AH Sj Tryz.func90 (by kernel_rfl) (by kernel_rfl) rfl (fun v=>(AIe v).trans (AWq v)) (AA AiN trivial)
def NO:Env:=W6.ext 90 true true (AF 0 3 AB8 AB7 AB6 AB9)
theorem I2:AX Tryz.prog NO:=Env.AZ Sj AQ6 (fun _=>AI rfl rfl) (fun _=>AG rfl rfl)
abbrev Q0:Hints:={ loop:=fun n=>match n with|0=>Ab 0 59 AQi AQg Hc|1=>Ab 0 59 AQh AQf Hb|_=>fun _ _ _=>none }
theorem AQd:∀ v,Hb v=roundOf Tryz.prog NO Q0 2 0 59 (AB Tryz.f88 1) AQh AQf v:=by
 rintro⟨a0,a1,a2,a3,a4,a5,a6,⟨⟩⟩
 kernel_rfl
theorem Aho:AD (AB Tryz.f88 1) 2=[]:=by kernel_rfl
theorem Ahq:Aa Tryz.prog 0 (.loop (AB Tryz.f88 1)) (Q0.loop 1):=AT I2 (AQd) (AA Aho trivial)
theorem AQe:∀ v,Hc v=roundOf Tryz.prog NO Q0 1 0 59 (AB Tryz.f88 0) AQi AQg v:=by
 rintro⟨a0,a1,a2,a3,a4,a5,a6,⟨⟩⟩
 kernel_rfl
theorem Ahp:AD (AB Tryz.f88 0) 1=[]:=by kernel_rfl
theorem Ahr:Aa Tryz.prog 0 (.loop (AB Tryz.f88 0)) (Q0.loop 0):=AT I2 (AQe) (AA Ahp trivial)
theorem AdK:∀ v,Q1 v=AK 0 Tryz.prog NO Q0 Tryz.f88 ALj ALi ALh v:=by
 rintro⟨a0,a1,a2,a3,⟨⟩⟩
 kernel_rfl
theorem Al5:AD (AQ Tryz.f88) 0=[(0,AB Tryz.f88 0),(1,AB Tryz.f88 1)]:=by kernel_rfl
theorem AWG:AO Tryz.prog 88 (AF 0 4 ALj ALi ALh ABe):=AH I2 Tryz.func88 (by kernel_rfl) (by kernel_rfl) rfl (fun v=>(ABc v).trans (AdK v)) (AA Al5 ⟨Ahr,Ahq,trivial⟩)
def Z1:Env:=NO.ext 88 true true (AF 0 4 ALj ALi ALh ABe)
theorem QT:AX Tryz.prog Z1:=Env.AZ I2 AWG (fun _=>AI rfl rfl) (fun _=>AG rfl rfl)
abbrev Tw:Hints:={ loop:=fun n=>match n with|0=>Ab 0 29 ABa ABZ EM|_=>fun _ _ _=>none }
theorem AGq:∀ v,EM v=roundOf Tryz.prog Z1 Tw 1 0 29 (AB Tryz.f89 0) ABa ABZ v:=by
 rintro⟨a0,a1,a2,a3,a4,⟨⟩⟩
 kernel_rfl
theorem AWE:AD (AB Tryz.f89 0) 1=[]:=by kernel_rfl
theorem AWF:Aa Tryz.prog 0 (.loop (AB Tryz.f89 0)) (Tw.loop 0):=AT QT (AGq) (AA AWE trivial)
theorem AQc:∀ v,No v=AK 0 Tryz.prog Z1 Tw Tryz.f89 Tv Tu Tt v:=by
 rintro⟨a0,a1,⟨⟩⟩
 kernel_rfl
theorem AdI:AD (AQ Tryz.f89) 0=[(0,AB Tryz.f89 0)]:=by kernel_rfl
theorem ALg:AO Tryz.prog 89 (AF 0 2 Tv Tu Tt Np):=AH QT Tryz.func89 (by kernel_rfl) (by kernel_rfl) rfl (fun v=>(ABb v).trans (AQc v)) (AA AdI ⟨AWF,trivial⟩)
def OJ:Env:=Z1.ext 89 true true (AF 0 2 Tv Tu Tt Np)
theorem Ld:AX Tryz.prog OJ:=Env.AZ QT ALg (fun _=>AI rfl rfl) (fun _=>AG rfl rfl)
abbrev WH:Hints:={ loop:=fun n=>match n with|0=>Ab 0 93 AEr AEq ER|_=>fun _ _ _=>none,fp:=fun n=>match n with|5=>[[],[10],[0],[0],[0],[0],[18],[],[],[],[],[],[],[]]|_=>[] }
theorem AHW:∀ v,ER v=roundOf Tryz.prog OJ WH 1 0 93 (AB Tryz.f79 0) AEr AEq v:=by
 rintro⟨a0,a1,a2,a3,a4,a5,a6,a7,⟨⟩⟩
 kernel_rfl
theorem AZN:AD (AB Tryz.f79 0) 1=[]:=by kernel_rfl
theorem AZO:Aa Tryz.prog 0 (.loop (AB Tryz.f79 0)) (WH.loop 0):=AT Ld (AHW) (AA AZN trivial)
theorem ATm:∀ v,J5 v=AK 0 Tryz.prog OJ WH Tryz.f79 WG WE WD v:=by
 rintro⟨a0,a1,⟨⟩⟩
 kernel_rfl
theorem Afj:AD (AQ Tryz.f79) 0=[(0,AB Tryz.f79 0)]:=by kernel_rfl
theorem ANs:AO Tryz.prog 79 (AF 0 2 WG WE WD N7):=AH Ld Tryz.func79 (by kernel_rfl) (by kernel_rfl) rfl (fun v=>(QB v).trans (ATm v)) (AA Afj ⟨AZO,trivial⟩)
def XK:Env:=OJ.ext 79 true true (AF 0 2 WG WE WD N7)
theorem S5:AX Tryz.prog XK:=Env.AZ Ld ANs (fun _=>AI rfl rfl) (fun _=>AG rfl rfl)
abbrev AnP:Hints:={  }
theorem Aff:∀ v,Rs v=AK 0 Tryz.prog XK AnP Tryz.f58 ANo ANn ANm v:=by
 rintro⟨a0,a1,⟨⟩⟩
 kernel_rfl
theorem AnO:AD (AQ Tryz.f58) 0=[]:=by kernel_rfl
theorem AZH:AO Tryz.prog 58 (AF 0 2 ANo ANn ANm YK):=AH S5 Tryz.func58 (by kernel_rfl) (by kernel_rfl) rfl (fun v=>(AEl v).trans (Aff v)) (AA AnO trivial)
def S3:Env:=XK.ext 58 true true (AF 0 2 ANo ANn ANm YK)
theorem Lp:AX Tryz.prog S3:=Env.AZ S5 AZH (fun _=>AI rfl rfl) (fun _=>AG rfl rfl)
abbrev Mw:Hints:={ loop:=fun n=>match n with|0=>Ab 0 63 AJg AJe F7|1=>Ab 0 63 AJf AJd DB|_=>fun _ _ _=>none }
theorem ANy:∀ v,DB v=roundOf Tryz.prog S3 Mw 2 0 63 (AB Tryz.f31 1) AJf AJd v:=by
 rintro⟨a0,a1,a2,a3,a4,a5,⟨⟩⟩
 kernel_rfl
theorem Afn:AD (AB Tryz.f31 1) 2=[]:=by kernel_rfl
theorem Afp:Aa Tryz.prog 0 (.loop (AB Tryz.f31 1)) (Mw.loop 1):=AT Lp (ANy) (AA Afn trivial)
theorem ANz:∀ v,F7 v=roundOf Tryz.prog S3 Mw 1 0 63 (AB Tryz.f31 0) AJg AJe v:=by
 rintro⟨a0,a1,a2,a3,a4,a5,a6,a7,a8,⟨⟩⟩
 kernel_rfl
theorem Afo:AD (AB Tryz.f31 0) 1=[]:=by kernel_rfl
theorem Afq:Aa Tryz.prog 0 (.loop (AB Tryz.f31 0)) (Mw.loop 0):=AT Lp (ANz) (AA Afo trivial)
theorem AZT:∀ v,Mx v=AK 0 Tryz.prog S3 Mw Tryz.f31 AEy AEx AEw v:=by
 rintro⟨a0,a1,⟨⟩⟩
 kernel_rfl
theorem Akh:AD (AQ Tryz.f31) 0=[(0,AB Tryz.f31 0),(1,AB Tryz.f31 1)]:=by kernel_rfl
theorem ATq:AO Tryz.prog 31 (AF 0 2 AEy AEx AEw WQ):=AH Lp Tryz.func31 (by kernel_rfl) (by kernel_rfl) rfl (fun v=>(WO v).trans (AZT v)) (AA Akh ⟨Afq,Afp,trivial⟩)
def AGS:Env:=S3.ext 31 true true (AF 0 2 AEy AEx AEw WQ)
theorem Yn:AX Tryz.prog AGS:=Env.AZ Lp ATq (fun _=>AI rfl rfl) (fun _=>AG rfl rfl)
end
end Go.Pev
end
section
namespace Go.Pev
open Go.Proofs
noncomputable section
theorem Agf:Tryz.f30.body.isSome=true:=by kernel_rfl
theorem Age : (Tryz.f30.name == "runtime.NumGoroutine") = false := by kernel_rfl
theorem Agd:loops (AQ Tryz.f30)=0:=by kernel_rfl
def I9:Env:=AGS.ext 30 false false (Cl Tryz.prog AGS {} Tryz.f30)
theorem IK:AX Tryz.prog I9:=Env.AZ Yn (CX Yn Tryz.func30 Agf Age Agd) (by simp) (by simp)
abbrev Ks:Hints:={ loop:=fun n=>match n with|0=>Ab 1 19 Oj Oi Cd|_=>fun _ _ _=>none }
theorem VU:∀ v,Cd v=roundOf Tryz.prog I9 Ks 1 1 19 (AB Tryz.f56 0) Oj Oi v:=by
 rintro⟨a0,a1,a2,a3,a4,⟨⟩⟩
 kernel_rfl
theorem AHH:AD (AB Tryz.f56 0) 1=[]:=by kernel_rfl
theorem AHI:Aa Tryz.prog 1 (.loop (AB Tryz.f56 0)) (Ks.loop 0):=AT IK (VU) (AA AHH trivial)
theorem ADx:∀ v,G8 v=AK 1 Tryz.prog I9 Ks Tryz.f56 Kr Kq Kp v:=by
 rintro⟨a0,a1,a2,⟨⟩⟩
 kernel_rfl
theorem AM7:AD (AQ Tryz.f56) 0=[(0,AB Tryz.f56 0)]:=by kernel_rfl
theorem Y3:AO Tryz.prog 56 (AF 1 2 Kr Kq Kp Kt):=AH IK Tryz.func56 (by kernel_rfl) (by kernel_rfl) rfl (fun v=>(Ol v).trans (ADx v)) (AA AM7 ⟨AHI,trivial⟩)
def Lh:Env:=I9.CE 56 1 30 (AF 1 2 Kr Kq Kp Kt)
theorem L4:AX Tryz.prog Lh:=Env.Aw IK Y3 (AG rfl rfl)
abbrev AHc:Hints:={  }
theorem ZC:∀ v,GW v=AK 1 Tryz.prog Lh AHc Tryz.f29 JJ JI JH v:=by
 rintro⟨a0,a1,a2,⟨⟩⟩
 kernel_rfl
theorem AHb:AD (AQ Tryz.f29) 0=[]:=by kernel_rfl
theorem WU:AO Tryz.prog 29 (AF 1 2 JJ JI JH Gj):=AH L4 Tryz.func29 (by kernel_rfl) (by kernel_rfl) rfl (fun v=>(M5 v).trans (ZC v)) (AA AHb trivial)
def JU:Env:=Lh.CE 29 1 30 (AF 1 2 JJ JI JH Gj)
theorem KI:AX Tryz.prog JU:=Env.Aw L4 WU (AG rfl rfl)
abbrev AlL:Hints:={ fp:=fun n=>match n with|16=>[[48],[48],[50],[0],[],[]]|_=>[] }
theorem AaH:∀ v,H9 v=AK 0 Tryz.prog JU AlL Tryz.f10 AFv AFu AFt v:=by
 rintro⟨a0,a1,a2,⟨⟩⟩
 kernel_rfl
theorem AlK:AD (AQ Tryz.f10) 0=[]:=by kernel_rfl
theorem AUu:AO Tryz.prog 10 (AF 0 3 AFv AFu AFt GF):=AH KI Tryz.func10 (by kernel_rfl) (by kernel_rfl) rfl (fun v=>(KC v).trans (AaH v)) (AA AlK trivial)
def AGe:Env:=JU.ext 10 true true (AF 0 3 AFv AFu AFt GF)
theorem Ys:AX Tryz.prog AGe:=Env.AZ KI AUu (fun _=>AI rfl rfl) (fun _=>AG rfl rfl)
abbrev Ac1:Hints:={  }
theorem AQP:∀ v,Nm v=AK 0 Tryz.prog AGe Ac1 Tryz.f40 Tk Tj Ti v:=by
 rintro⟨a0,⟨⟩⟩
 kernel_rfl
theorem Ac0:AD (AQ Tryz.f40) 0=[]:=by kernel_rfl
theorem ALW:AO Tryz.prog 40 (AF 0 1 Tk Tj Ti IT):=AH Ys Tryz.func40 (by kernel_rfl) (by kernel_rfl) rfl (fun v=>(AA8 v).trans (AQP v)) (AA Ac0 trivial)
def KD:Env:=AGe.ext 40 true true (AF 0 1 Tk Tj Ti IT)
theorem HF:AX Tryz.prog KD:=Env.AZ Ys ALW (fun _=>AI rfl rfl) (fun _=>AG rfl rfl)
abbrev Jh:Hints:={ loop:=fun n=>match n with|0=>Ab 0 105 ABs ABq CH|1=>Ab 0 105 ABr ABp CG|_=>fun _ _ _=>none }
theorem AGr:∀ v,CG v=roundOf Tryz.prog KD Jh 2 0 105 (AB Tryz.f22 1) ABr ABp v:=by
 rintro⟨a0,a1,a2,a3,⟨⟩⟩
 kernel_rfl
theorem AWM:AD (AB Tryz.f22 1) 2=[]:=by kernel_rfl
theorem AWO:Aa Tryz.prog 0 (.loop (AB Tryz.f22 1)) (Jh.loop 1):=AT HF (AGr) (AA AWM trivial)
theorem AGs:∀ v,CH v=roundOf Tryz.prog KD Jh 1 0 105 (AB Tryz.f22 0) ABs ABq v:=by
 rintro⟨a0,a1,a2,a3,⟨⟩⟩
 kernel_rfl
theorem AWN:AD (AB Tryz.f22 0) 1=[]:=by kernel_rfl
theorem AWP:Aa Tryz.prog 0 (.loop (AB Tryz.f22 0)) (Jh.loop 0):=AT HF (AGs) (AA AWN trivial)
theorem AQ0:∀ v,Nq v=AK 0 Tryz.prog KD Jh Tryz.f22 T4 T3 T2 v:=by
 rintro⟨a0,⟨⟩⟩
 kernel_rfl
theorem AdT:AD (AQ Tryz.f22) 0=[(0,AB Tryz.f22 0),(1,AB Tryz.f22 1)]:=by kernel_rfl
theorem ALp:AO Tryz.prog 22 (AF 0 1 T4 T3 T2 Q4):=AH HF Tryz.func22 (by kernel_rfl) (by kernel_rfl) rfl (fun v=>(ABt v).trans (AQ0 v)) (AA AdT ⟨AWP,AWO,trivial⟩)
def OL:Env:=KD.ext 22 true true (AF 0 1 T4 T3 T2 Q4)
theorem Le:AX Tryz.prog OL:=Env.AZ HF ALp (fun _=>AI rfl rfl) (fun _=>AG rfl rfl)
abbrev ABE:Hints:={ loop:=fun n=>match n with|0=>Ab 0 46 AIN AIM Tp|_=>fun _ _ _=>none,fp:=fun n=>match n with|6=>[[0],[0],[],[],[],[2],[2],[],[],[],[]]|_=>[] }
theorem ALb:∀ v,Tp v=roundOf Tryz.prog OL ABE 1 0 46 (AB Tryz.f12 0) AIN AIM v:=by
 rintro⟨a0,a1,a2,a3,a4,a5,a6,⟨⟩⟩
 kernel_rfl
theorem Ac8:AD (AB Tryz.f12 0) 1=[]:=by kernel_rfl
theorem Ac9:Aa Tryz.prog 0 (.loop (AB Tryz.f12 0)) (ABE.loop 0):=AT Le (ALb) (AA Ac8 trivial)
theorem AV6:∀ v,ABF v=AK 0 Tryz.prog OL ABE Tryz.f12 ABD ABC ABB v:=by
 rintro⟨a0,a1,⟨⟩⟩
 kernel_rfl
theorem Ahh:AD (AQ Tryz.f12) 0=[(0,AB Tryz.f12 0)]:=by kernel_rfl
theorem AQV:AO Tryz.prog 12 (AF 0 2 ABD ABC ABB ABG):=AH Le Tryz.func12 (by kernel_rfl) (by kernel_rfl) rfl (fun v=>(AdA v).trans (AV6 v)) (AA Ahh ⟨Ac9,trivial⟩)
def AF9:Env:=OL.ext 12 true true (AF 0 2 ABD ABC ABB ABG)
theorem Yb:AX Tryz.prog AF9:=Env.AZ Le AQV (fun _=>AI rfl rfl) (fun _=>AG rfl rfl)
abbrev Ae6:Hints:={  }
theorem ATG:∀ v,N0 v=AK 0 Tryz.prog AF9 Ae6 Tryz.f9 Vo VZ VY v:=by
 rintro⟨a0,a1,a2,⟨⟩⟩
 kernel_rfl
theorem Ae5:AD (AQ Tryz.f9) 0=[]:=by kernel_rfl
theorem ANN:AO Tryz.prog 9 (AF 0 3 Vo VZ VY N1):=AH Yb Tryz.func9 (by kernel_rfl) (by kernel_rfl) rfl (fun v=>(AD1 v).trans (ATG v)) (AA Ae5 trivial)
def XG:Env:=AF9.ext 9 true true (AF 0 3 Vo VZ VY N1)
theorem Sx:AX Tryz.prog XG:=Env.AZ Yb ANN (fun _=>AI rfl rfl) (fun _=>AG rfl rfl)
abbrev Agc:Hints:={  }
theorem AUt:∀ v,Wn v=AK 0 Tryz.prog XG Agc Tryz.f8 Wm Wl Wk v:=by
 rintro⟨⟨⟩⟩
 kernel_rfl
theorem Agb:AD (AQ Tryz.f8) 0=[]:=by kernel_rfl
theorem AOv:AO Tryz.prog 8 (AF 0 0 Wm Wl Wk Iu):=AH Sx Tryz.func8 (by kernel_rfl) (by kernel_rfl) rfl (fun v=>(AaG v).trans (AUt v)) (AA Agb trivial)
def OQ:Env:=XG.ext 8 true true (AF 0 0 Wm Wl Wk Iu)
theorem Lr:AX Tryz.prog OQ:=Env.AZ Sx AOv (fun _=>AI rfl rfl) (fun _=>AG rfl rfl)
abbrev ABK:Hints:={ loop:=fun n=>match n with|0=>Ab 0 38 AIP AIO Ec|_=>fun _ _ _=>none,fp:=fun n=>match n with|6=>[[0],[0],[],[],[],[2],[2],[],[],[],[]]|_=>[] }
theorem ALc:∀ v,Ec v=roundOf Tryz.prog OQ ABK 1 0 38 (AB Tryz.f23 0) AIP AIO v:=by
 rintro⟨a0,a1,a2,a3,a4,⟨⟩⟩
 kernel_rfl
theorem AdB:AD (AB Tryz.f23 0) 1=[]:=by kernel_rfl
theorem AdC:Aa Tryz.prog 0 (.loop (AB Tryz.f23 0)) (ABK.loop 0):=AT Lr (ALc) (AA AdB trivial)
theorem AV8:∀ v,Qx v=AK 0 Tryz.prog OQ ABK Tryz.f23 ABJ ABI ABH v:=by
 rintro⟨a0,a1,⟨⟩⟩
 kernel_rfl
theorem Ahi:AD (AQ Tryz.f23) 0=[(0,AB Tryz.f23 0)]:=by kernel_rfl
theorem AQW:AO Tryz.prog 23 (AF 0 2 ABJ ABI ABH Tq):=AH Lr Tryz.func23 (by kernel_rfl) (by kernel_rfl) rfl (fun v=>(AIQ v).trans (AV8 v)) (AA Ahi ⟨AdC,trivial⟩)
def AGA:Env:=OQ.ext 23 true true (AF 0 2 ABJ ABI ABH Tq)
theorem Yc:AX Tryz.prog AGA:=Env.AZ Lr AQW (fun _=>AI rfl rfl) (fun _=>AG rfl rfl)
abbrev H8:Hints:={ loop:=fun n=>match n with|0=>Ab 0 100 L0 Lz Bz|_=>fun _ _ _=>none,fp:=fun n=>match n with|12=>[[],[],[],[],[6],[6],[],[],[],[],[],[6],[6],[0],[0],[],[],[]]|5=>[[0],[0],[],[0],[0],[23],[],[],[27]]|_=>[] }
theorem QN:∀ v,Bz v=roundOf Tryz.prog AGA H8 1 0 100 (AB Tryz.f5 0) L0 Lz v:=by
 rintro⟨a0,a1,a2,a3,a4,a5,a6,a7,a8,a9,a10,⟨⟩⟩
 kernel_rfl
theorem ZO:AD (AB Tryz.f5 0) 1=[]:=by kernel_rfl
theorem ZP:Aa Tryz.prog 0 (.loop (AB Tryz.f5 0)) (H8.loop 0):=AT Yc (QN) (AA ZO trivial)
theorem Wu:∀ v,FJ v=AK 0 Tryz.prog AGA H8 Tryz.f5 H7 H6 H5 v:=by
 rintro⟨a0,a1,a2,⟨⟩⟩
 kernel_rfl
theorem AFs:AD (AQ Tryz.f5) 0=[(0,AB Tryz.f5 0)]:=by kernel_rfl
theorem SN:AO Tryz.prog 5 (AF 0 3 H7 H6 H5 Dr):=AH Yc Tryz.func5 (by kernel_rfl) (by kernel_rfl) rfl (fun v=>(L3 v).trans (Wu v)) (AA AFs ⟨ZP,trivial⟩)
end
end Go.Pev
end
section

end
section
namespace Go.Pev
open Go.RowKit
section
variable {H:Type} {enc:TypeId×Value→H} {P:Program} {w:World} {spare:Nat→Bool} {held:Bool}
theorem YE{t e:TypeId}{fs:Array Field}{i fuel n c M:Nat}{f:Field}{cs:List Value}{x:DataW H×List MemPlace}{a:Option Addr}(hu:P.underlying t=some (.struct fs))(hx:DataW.trod enc P w 0 spare held fuel t cs=some x)
  (hf:fs[i]? = some f) (hs:P.underlying f.type=some (.slice e)) (hc:P.cellsOf f.type=1) (hb:1≤P.bytesOf e) (hcs:cs[f.offset]? = some (.slice a n c)) (hw:∀ z∈x.1.weights P t,z≤M):n≤M:=by
 obtain⟨xs,m,rfl,rfl,hl,hxl,hfs⟩:=DataW.trod_struct hu hx
 have h1:=hfs i f hf
 have hi:i<xs.length:=by rw[hxl];exact(Array.getElem?_eq_some_iff.1 hf).1
 rw[ApZ hi]at h1
 have hone:(cs.drop f.offset).take (P.cellsOf f.type)=[.slice a n c]:=by
  obtain⟨hlt,he⟩:=Apn.1 hcs
  rw[hc,AqL hlt,he]
  rfl
 rw[hone]at h1
 have hmem:∀ z∈xs[i].1.weights P f.type,z≤M:=by
  intro z hz
  refine hw z ?_
  show z∈(DataW.agg (xs.map (·.1))).weights P t
  have:(DataW.agg (xs.map (·.1))).weights P t=DataW.weightsEach P (fs.toList.map (·.type)) (xs.map (·.1)):=by simp[DataW.weights,hu]
  rw[this]
  refine DataW.weights_mem_each (j:=i) (t:=f.type) (d:=xs[i].1) ?_ ?_ z hz
  ·rw[Ap7,Arf,hf];rfl
  ·rw[Ap7,ApZ hi];rfl
 rcases DataW.trod_slice hs h1 with⟨he,_⟩|⟨ad,len,cap,elems,rest,m',_,he,hxi,_,_,_,hel,_⟩
 ·cases he;exact ArZ _
 ·cases he
  have:=hmem ((elems.length+rest.length)*P.bytesOf e) (by rw[hxi];simp[DataW.weights,hs])
  have h2:(elems.length+rest.length)*1≤(elems.length+rest.length)*P.bytesOf e:=Nat.mul_le_mul_left _ hb
  omega
theorem AUe{tB eE eA:TypeId}{fs:Array Field}{f1 f2:Field}{tE tA:Ty}{v:Value}{d:DataW H}{ps:List MemPlace}{F:Nat→Prop}{M:Nat}(hu:P.underlying tB=some (.struct fs))
  (hf1:fs[1]? = some f1) (o1:f1.offset=1) (c1:P.cellsOf f1.type=1) (s1:P.underlying f1.type=some (.slice eE)) (b1:1≤P.bytesOf eE)
  (hf2:fs[2]? = some f2) (o2:f2.offset=2) (c2:P.cellsOf f2.type=1) (s2:P.underlying f2.type=some (.slice eA)) (b2:1≤P.bytesOf eA)
  (h:DataW.Trod enc P w 0 spare held tB v d ps) {x:Ty.den (.prod (.int .i64) (.prod (.slice tE) (.prod (.slice tA) .unit)))} (r:Bi w F (.prod (.int .i64) (.prod (.slice tE) (.prod (.slice tA) .unit))) x v) (hw:∀ z∈d.weights P tB,z≤M) :
  List.length (α:=tE.den) x.2.1≤M∧List.length (α:=tA.den) x.2.2.1≤M:=by
 obtain⟨fuel,hx⟩:=h
 unfold Bi at r
 have r:∃ vs,v = .agg vs∧Dat w F (.prod (.int .i64) (.prod (.slice tE) (.prod (.slice tA) .unit))) x vs.toList:=r
 obtain⟨vs,rfl,q1,q2,e1,rfl,q3,q4,rfl,⟨a,cap,rfl,_,_⟩,q5,q6,rfl,⟨a',cap',rfl,_,_⟩,rfl⟩:=r
 have hcells:(Value.agg vs).cells.toList=vs.toList:=rfl
 rw[hcells,e1]at hx
 constructor
 ·exact YE hu hx hf1 s1 c1 b1 (by rw[o1];rfl) hw
 ·exact YE hu hx hf2 s2 c2 b2 (by rw[o2];rfl) hw
end
end Go.Pev
end
