/- A part of the proofs of this seat: DKC T19a DKD T22a T21a T23a T23b T24a PlnC DKE DKF DKG DKH DU24a DU24b DU24c DU24d DU23a DU23b DU23c DU23d DU23e T24b DU24f DU24g DU24h DU24i DU24j DU24k DU24l DU24m DU24n PlnD DU21a DU21b DU23f DU23g PlnE DU23h DU23i DU21c DU21d DU21e DU23j DU23k DU24e DU21f DU23l U29a. -/
import Derived.Test.YtfojmhgomdbpfaaGreatDoorP47283e8f50
import Derived.KernelRfl
set_option linter.unusedVariables false
set_option linter.unusedSimpArgs false
set_option linter.unusedSectionVars false
set_option maxRecDepth 100000
section
section
namespace Go.Pev.Pl.SG
open Go.Sort
variable {α:Type} {S:SP α}
theorem ARy(hi first:Nat):∀ (k root:Nat) (d:Array (EL S)) (n:Nat),hi-root=k→root≤hi→first+hi≤d.size→d.size<4294967296→(hi=0∨root<hi)→k<n →
  AY (KI S.z S.c) n ((rep d),(hi:Int),(first:Int),(root:Int),())=some (.inl ((rep (siftDown ltX hi first root d)),())) ∨
  AY (KI S.z S.c) n ((rep d),(hi:Int),(first:Int),(root:Int),())=some (.inr (.inl ((rep (siftDown ltX hi first root d)),()))):=by
 intro k
 induction k using Nat.strongRecOn with
 |_ k ih=>
 intro root d n hk hr hf hs hz hn
 obtain⟨n,rfl⟩:∃ k,n=k+1:=⟨n-1,by omega⟩
 rw[siftDown]
 simp (disch:=omega) only[AY,KI,AXg,AN,wrap_add,ET,AO]
 by_cases h1:hi≤2*root+1
 ·simp only[h1,AjU,ge_iff_le,dite_true,true_or]
 ·have i0:first+root<d.size:=by omega
  have i1:first+(2*root+1)<d.size:=by omega
  simp only[h1,Aji,ge_iff_le,Ajb,dite_false]
  simp (disch:=omega) only[A8,Bc,Cb,DU]
  by_cases h2:2*root+1+1<hi
  ·have i2:first+(2*root+2)<d.size:=by omega
   have i3:2*root+1+1=2*root+2:=by omega
   have i4:first+(2*root+1)+1=first+(2*root+2):=by omega
   have h3:2*root+2<hi:=by omega
   simp only[i3,i4,h3,AjU]
   simp (disch:=omega) only[A8,Bc,Cb,DU,JN]
   cases h4:ltX d[first+(2*root+1)]! d[first+(2*root+2)]!
   ·simp only[AmE,Aja,Ajb]
    cases h5:ltX d[first+root]! d[first+(2*root+1)]!
    ·simp
    ·simp only[AjT,Aja,Ajb]
     rw[A8 (by simpa using i1)]
     simp only[KF]
     exact ih (hi-(2*root+1)) (by omega) (2*root+1) _ n rfl (by omega) (by rw[size_swp];omega) (by rw[size_swp];omega) (by omega) (by omega)
   ·simp only[Bool.and_true,Ajs]
    cases h5:ltX d[first+root]! d[first+(2*root+2)]!
    ·simp
    ·simp only[AjT,Aja,Ajb,dite_true]
     rw[A8 (by simpa using i2)]
     simp only[KF]
     exact ih (hi-(2*root+2)) (by omega) (2*root+2) _ n rfl (by omega) (by rw[size_swp];omega) (by rw[size_swp];omega) (by omega) (by omega)
  ·simp only[h2,Aji,AlC,Aja,Ajb,JN]
   cases h5:ltX d[first+root]! d[first+(2*root+1)]!
   ·simp
   ·simp only[AjT,Aja,Ajb]
    rw[A8 (by simpa using i1)]
    simp only[KF]
    exact ih (hi-(2*root+1)) (by omega) (2*root+1) _ n rfl (by omega) (by rw[size_swp];omega) (by rw[size_swp];omega) (by omega) (by omega)
theorem AFq(d:Array (EL S))(root hi first:Nat)(hf:first+hi≤d.size)(hs:d.size<4294967296)(hz:hi=0∧root=0∨root<hi):(AFr S.z S.c) ((rep d),(root:Int),(hi:Int),(first:Int),())=some ((rep (siftDown ltX hi first root d)),()):=by
 have hm:d.size<many:=by simp only[many];omega
 rw[AcH,Ql]
 simp only[An]
 rcases ARy hi first (hi-root) root d many rfl (by omega) hf hs (by omega) (by omega)with h|h<;>rw[h]
theorem EJ(lt:(EL S)→(EL S)→Bool)(hi first:Nat):∀ (k root:Nat) (d:Array (EL S)),hi-root=k→(siftDown lt hi first root d).size=d.size:=by
 intro k
 induction k using Nat.strongRecOn with
 |_ k ih=>
 intro root d hk
 rw[siftDown]
 split
 ·rfl
 ·split
  ·split
   ·rfl
   ·split
    ·rw[ih (hi-(2*root+2)) (by omega) _ _ rfl,size_swp]
    ·rfl
  ·split
   ·rfl
   ·rw[ih (hi-(2*root+1)) (by omega) _ _ rfl,size_swp]
theorem APJ(hi first:Nat):∀ (k:Nat) (d:Array (EL S)) (n:Nat),(hi=0∧k≤1∨k≤hi)→first+hi≤d.size→d.size<4294967296→k<n →
  AY (Kc S.z S.c) n ((rep d),(first:Int),(0:Int),(hi:Int),(k:Int)-1,())=some (.inl ((rep (heapBuild ltX hi first k d)),(first:Int),(0:Int),(hi:Int),())):=by
 intro k
 induction k with
 |zero=>
  intro d n hk hf hs hn
  obtain⟨n,rfl⟩:∃ k,n=k+1:=⟨n-1,by omega⟩
  rw[AY,Kc,Ax,AjF (by omega)]
  rfl
 |succ k ih=>
  intro d n hk hf hs hn
  obtain⟨n,rfl⟩:∃ k,n=k+1:=⟨n-1,by omega⟩
  have e0:((k+1:Nat):Int)-1=(k:Int):=by omega
  rw[AY,Kc,e0,Ax,AjG (by omega)]
  simp only[AFq d k hi first hf hs (by omega)]
  rw[Ah (by omega)]
  exact ih _ n (by omega) (by rw[EJ _ _ _ _ _ _ rfl];omega) (by rw[EJ _ _ _ _ _ _ rfl];omega) (by omega)
theorem Mk(lt:(EL S)→(EL S)→Bool)(hi first:Nat):∀ (k:Nat) (d:Array (EL S)),(heapBuild lt hi first k d).size=d.size:=by
 intro k
 induction k with
 |zero=>intro d;rfl
 |succ k ih=>intro d;rw[heapBuild,ih,EJ _ _ _ _ _ _ rfl]
theorem AaE(first:Nat):∀ (k:Nat) (d:Array (EL S)) (n:Nat),first+k≤d.size→d.size<4294967296→k<n →
  AY (Kb S.z S.c) n ((rep d),(first:Int),(0:Int),(k:Int)-1,())=some (.inl ((rep (heapPop ltX first k d)),())):=by
 intro k
 induction k with
 |zero=>
  intro d n hf hs hn
  obtain⟨n,rfl⟩:∃ k,n=k+1:=⟨n-1,by omega⟩
  rw[AY,Kb,Ax,AjF (by omega)]
  rfl
 |succ k ih=>
  intro d n hf hs hn
  obtain⟨n,rfl⟩:∃ k,n=k+1:=⟨n-1,by omega⟩
  have e0:((k+1:Nat):Int)-1=(k:Int):=by omega
  have i0:first<d.size:=by omega
  have i1:first+k<d.size:=by omega
  rw[AY,Kb,e0,Ax,AjG (by omega)]
  simp (disch:=omega) only[wrap_add,A8,Bc,JN]
  rw[A8 (by simpa using i1)]
  simp only[KF]
  have:=AFq (swp d first (first+k)) 0 k first (by rw[size_swp];omega) (by rw[size_swp];omega) (by omega)
  simp only[Int.natCast_zero]at this
  simp only[this]
  rw[Ah (by omega)]
  exact ih _ n (by rw[EJ _ _ _ _ _ _ rfl,size_swp];omega) (by rw[EJ _ _ _ _ _ _ rfl,size_swp];omega) (by omega)
theorem AaD(d:Array (EL S))(a b:Nat)(hab:a<b)(hb:b≤d.size)(hs:d.size<4294967296):(APK S.z S.c) ((rep d),(a:Int),(b:Int),())=some ((rep (heapSort ltX d a b)),()):=by
 have hm:4294967296<many:=by simp only[many];omega
 rw[AeJ,Ra]
 simp (disch:=omega) only[EH,BL,Ahf,An]
 have e:(((b-a-1)/2:Nat):Int)=(((b-a-1)/2+1:Nat):Int)-1:=by omega
 rw[e,APJ (b-a) a _ d many (by omega) (by omega) hs (by omega)]
 have e2:(((b-a-1:Nat)):Int)=((b-a:Nat):Int)-1:=by omega
 simp (disch:=omega) only[BL,e2]
 rw[AaE a (b-a) _ many (by rw[Mk];omega) (by rw[Mk];omega) (by omega)]
 rfl
end Go.Pev.Pl.SG
end
section
namespace Go.Pev.Pl.SG
open Go.Sort
variable {α:Type} {S:SP α}
theorem AYo:∀ (k i j:Nat) (d:Array (EL S)) (n:Nat),j-i=k→(j<d.size)→d.size<4294967296→k<n →
  AY (Qu S.z S.c) n ((rep d),(i:Int),(j:Int),())=some (.inl ((rep (reverseLoop i j d)),())):=by
 intro k
 induction k using Nat.strongRecOn with
 |_ k ih=>
 intro i j d n hk hj hs hn
 obtain⟨n,rfl⟩:∃ k,n=k+1:=⟨n-1,by omega⟩
 rw[reverseLoop,AY,Qu]
 simp only[AO]
 by_cases h:i<j
 ·have hi:i<d.size:=by omega
  simp only[h,AjU,Ajs,A8 hj,A8 hi,Bc hi,Bc hj,JN]
  rw[A8 (by simpa using hj)]
  simp (disch:=omega) only[KF,AN,BL]
  exact ih (j-1-(i+1)) (by omega) (i+1) (j-1) _ n rfl (by rw[size_swp];omega) (by rw[size_swp];omega) (by omega)
 ·simp only[h,Aji,Ajb]
theorem Acd(d:Array (EL S))(a b:Nat)(hab:a<b)(hb:b≤d.size)(hs:d.size<4294967296):(Ace S.z S.c) ((rep d),(a:Int),(b:Int),())=some ((rep (reverseRange d a b)),()):=by
 have hm:4294967296<many:=by simp only[many];omega
 rw[AgF,AAf]
 simp (disch:=omega) only[BL,An]
 rw[AYo (b-1-a) a (b-1) d many rfl (by omega) hs (by omega)]
 rfl
theorem EB{d:Array (EL S)}{i j:Nat}(hi:i<d.size)(hj:j<d.size):idx (A4 (rep d) (AK (i:Int)) (AU (rep d) (AK (j:Int)) S.z)) (j:Int)=some ((d.setIfInBounds i d[j]!)[j]!).val ∧
  A4 (A4 (rep d) (AK (i:Int)) (AU (rep d) (AK (j:Int)) S.z)) (AK (j:Int)) (AU (rep d) (AK (i:Int)) S.z)=(rep (swp d i j)):=by
 rw[Bc hi,Bc hj,JN,JN]
 exact⟨A8 (by simpa using hj),rfl⟩
theorem AIl(step:List α×Int×Int×Int×Unit→Option ((List α×Int×Int×Int×Unit)⊕(List α×Int×Int×Int×Unit)⊕Unit))(p:(EL S)→Bool)(d:Array (EL S))(a j:Nat)(hs:d.size<4294967296)(hj:j<d.size)
  (h:∀ i:Nat,i≤d.size→step ((rep d),(a:Int),(i:Int),(j:Int),())=if i≤j∧p d[i]! then some (.inl ((rep d),(a:Int),((i+1:Nat):Int),(j:Int),()))else some (.inr (.inl ((rep d),(a:Int),(i:Int),(j:Int),())))) :
  ∀ (k i n:Nat),j+1-i=k→i≤d.size→k<n→AY step n ((rep d),(a:Int),(i:Int),(j:Int),())=some (.inl ((rep d),(a:Int),((scanUp p d j i:Nat):Int),(j:Int),())):=by
 intro k
 induction k using Nat.strongRecOn with
 |_ k ih=>
 intro i n hk hi hn
 obtain⟨n,rfl⟩:∃ k,n=k+1:=⟨n-1,by omega⟩
 rw[scanUp,AY,h i hi]
 by_cases h1:i≤j∧p d[i]! = true
 ·rw[AjV h1,AjV (by simpa using h1)]
  exact ih (j+1-(i+1)) (by omega) (i+1) n rfl (by omega) (by omega)
 ·rw[AjS h1,AjS (by simpa using h1)]
theorem TF(step:List α×Int×Int×Int×Unit→Option ((List α×Int×Int×Int×Unit)⊕(List α×Int×Int×Int×Unit)⊕Unit))(p:(EL S)→Bool)(d:Array (EL S))(a i:Nat)(hi:1≤i)
  (h:∀ j:Nat,j<d.size→step ((rep d),(a:Int),(i:Int),(j:Int),())=if i≤j∧p d[j]! then some (.inl ((rep d),(a:Int),(i:Int),((j-1:Nat):Int),()))else some (.inr (.inl ((rep d),(a:Int),(i:Int),(j:Int),())))) :
  ∀ (j n:Nat),j<d.size→j<n→AY step n ((rep d),(a:Int),(i:Int),(j:Int),())=some (.inl ((rep d),(a:Int),(i:Int),((scanDown p d i j:Nat):Int),())):=by
 intro j
 induction j with
 |zero=>
  intro n hj hn
  obtain⟨n,rfl⟩:∃ k,n=k+1:=⟨n-1,by omega⟩
  rw[AY,h 0 hj,AjS (by omega)]
  rfl
 |succ j ih=>
  intro n hj hn
  obtain⟨n,rfl⟩:∃ k,n=k+1:=⟨n-1,by omega⟩
  rw[scanDown,AY,h (j+1) hj]
  by_cases h1:i≤j+1∧p d[j+1]! = true
  ·rw[AjV h1,AjV (by simpa using h1)]
   exact ih n (by omega) (by omega)
  ·rw[AjS h1,AjS (by simpa using h1)]
section
variable (d:Array (EL S)) (a i j:Nat) (hs:d.size<4294967296) (ha:a<d.size) (hj:j<d.size)
include hs ha hj
theorem AN2(hi:i≤d.size):(M4 S.z S.c) ((rep d),(a:Int),(i:Int),(j:Int),())=if i≤j∧(fun x=>ltX x d[a]!) d[i]! = true then some (.inl ((rep d),(a:Int),((i+1:Nat):Int),(j:Int),()))else some (.inr (.inl ((rep d),(a:Int),(i:Int),(j:Int),()))):=by
 rw[M4]
 simp only[ET]
 by_cases h:i≤j
 ·have hi':i<d.size:=by omega
  simp (disch:=omega) only[h,AjU,A8,Bc,Cb,DU,AN,Ala]
  cases ltX d[i]! d[a]!<;>simp
 ·simp only[h,Aji,AlS,Ajb]
theorem AN0(hi:i≤d.size):(Mz S.z S.c) ((rep d),(a:Int),(i:Int),(j:Int),())=if i≤j∧(fun x=>ltX x d[a]!) d[i]! = true then some (.inl ((rep d),(a:Int),((i+1:Nat):Int),(j:Int),()))else some (.inr (.inl ((rep d),(a:Int),(i:Int),(j:Int),()))):=by
 rw[Mz]
 simp only[ET]
 by_cases h:i≤j
 ·have hi':i<d.size:=by omega
  simp (disch:=omega) only[h,AjU,A8,Bc,Cb,DU,AN,Ala]
  cases ltX d[i]! d[a]!<;>simp
 ·simp only[h,Aji,AlS,Ajb]
theorem AN1(hi:1≤i):(M3 S.z S.c) ((rep d),(a:Int),(i:Int),(j:Int),())=if i≤j∧(fun x => !ltX x d[a]!) d[j]! = true then some (.inl ((rep d),(a:Int),(i:Int),((j-1:Nat):Int),()))else some (.inr (.inl ((rep d),(a:Int),(i:Int),(j:Int),()))):=by
 rw[M3]
 simp only[ET]
 by_cases h:i≤j
 ·simp (disch:=omega) only[h,AjU,A8,Bc,Cb,DU,BL,Ala]
  cases ltX d[j]! d[a]!<;>simp
 ·simp only[h,Aji,AlS,Ajb]
theorem ANz(hi:1≤i):(My S.z S.c) ((rep d),(a:Int),(i:Int),(j:Int),())=if i≤j∧(fun x => !ltX x d[a]!) d[j]! = true then some (.inl ((rep d),(a:Int),(i:Int),((j-1:Nat):Int),()))else some (.inr (.inl ((rep d),(a:Int),(i:Int),(j:Int),()))):=by
 rw[My]
 simp only[ET]
 by_cases h:i≤j
 ·simp (disch:=omega) only[h,AjU,A8,Bc,Cb,DU,BL,Ala]
  cases ltX d[j]! d[a]!<;>simp
 ·simp only[h,Aji,AlS,Ajb]
theorem AEy(hi:i≤d.size):(H9 S.z S.c) ((rep d),(a:Int),(i:Int),(j:Int),())=if i≤j∧(fun x => !ltX d[a]! x) d[i]! = true then some (.inl ((rep d),(a:Int),((i+1:Nat):Int),(j:Int),()))else some (.inr (.inl ((rep d),(a:Int),(i:Int),(j:Int),()))):=by
 rw[H9]
 simp only[ET]
 by_cases h:i≤j
 ·have hi':i<d.size:=by omega
  simp (disch:=omega) only[h,AjU,A8,Bc,Cb,DU,AN,Ala]
  cases ltX d[a]! d[i]!<;>simp
 ·simp only[h,Aji,AlS,Ajb]
theorem AEx(hi:1≤i):(H8 S.z S.c) ((rep d),(a:Int),(i:Int),(j:Int),())=if i≤j∧(fun x=>ltX d[a]! x) d[j]! = true then some (.inl ((rep d),(a:Int),(i:Int),((j-1:Nat):Int),()))else some (.inr (.inl ((rep d),(a:Int),(i:Int),(j:Int),()))):=by
 rw[H8]
 simp only[ET]
 by_cases h:i≤j
 ·simp (disch:=omega) only[h,AjU,A8,Bc,Cb,DU,BL,Ala]
  cases ltX d[a]! d[j]!<;>simp
 ·simp only[h,Aji,AlS,Ajb]
end
theorem Ml(p:(EL S)→Bool)(d:Array (EL S))(j i:Nat)(hj:j<d.size)(hi:i≤d.size):scanUp p d j i≤d.size:=by
 suffices h:∀ (k i:Nat),j+1-i=k→i≤d.size→scanUp p d j i≤d.size from h _ i rfl hi
 intro k
 induction k using Nat.strongRecOn with
 |_ k ih=>
 intro i hk hi
 rw[scanUp]
 split
 ·rename_i h
  have:i≤j:=by simp at h;exact h.1
  exact ih (j+1-(i+1)) (by omega) (i+1) rfl (by omega)
 ·exact hi
theorem ATA(a:Nat):∀ (k i j:Nat) (d:Array (EL S)) (n:Nat),j+1-i=k→a<d.size→1≤i→i≤d.size→j<d.size→d.size<4294967296→k<n →
  AY (M0 S.z S.c) n ((rep d),(a:Int),(i:Int),(j:Int),())=some (.inl ((rep (partLoop ltX a i j d).2),(a:Int),(((partLoop ltX a i j d).1:Nat):Int),()))∧(partLoop ltX a i j d).1≤j∧(partLoop ltX a i j d).2.size=d.size:=by
 intro k
 induction k using Nat.strongRecOn with
 |_ k ih=>
 intro i j d n hk ha hi hi' hj hs hn
 have hm:4294967296<many:=by simp only[many];omega
 obtain⟨n,rfl⟩:∃ k,n=k+1:=⟨n-1,by omega⟩
 rw[partLoop_eq,AY,M0]
 have u1:=scanUp_ge (fun x=>ltX x d[a]!) d j i
 have u2:=Ml (fun x=>ltX x d[a]!) d j i hj hi'
 rw[An,AIl _ (fun x=>ltX x d[a]!) d a j hs hj (fun i h=>AN0 d a i j hs ha hj h) _ i many rfl hi' (by omega)]
 generalize scanUp (fun x=>ltX x d[a]!) d j i=i2 at *
 have v1:=scanDown_le (fun x => !ltX x d[a]!) d i2 j
 simp only[An]
 rw[TF _ (fun x => !ltX x d[a]!) d a i2 (by omega) (fun j h=>ANz d a i2 j hs ha h (by omega)) j many hj (by omega)]
 generalize scanDown (fun x => !ltX x d[a]!) d i2 j=j2 at *
 simp only[AO]
 by_cases h:j2<i2
 ·simp only[h,AjU,gt_iff_lt,Ajs]
  exact⟨trivial,v1,trivial⟩
 ·have hi2:i2<d.size:=by omega
  have hj2:j2<d.size:=by omega
  simp only[h,Aji,gt_iff_lt,Ajb,A8 hi2,A8 hj2,(EB hi2 hj2).1,(EB hi2 hj2).2]
  simp (disch:=omega) only[AN,BL]
  obtain⟨q1,q2,q3⟩:=ih (j2-1+1-(i2+1)) (by omega) (i2+1) (j2-1) (swp d i2 j2) n rfl (by rw[size_swp];omega) (by omega) (by rw[size_swp];omega) (by rw[size_swp];omega) (by rw[size_swp];omega) (by omega)
  exact⟨q1,by omega,by rw[q3,size_swp]⟩
theorem AZB(d:Array (EL S))(a b p:Nat)(ha:a≤p)(hp:p<b)(hb:b≤d.size)(hs:d.size<4294967296):
  (ABQ S.z S.c) ((rep d),(a:Int),(b:Int),(p:Int),())=some ((rep (partition ltX d a b p).2.2),(((partition ltX d a b p).1:Nat):Int),(partition ltX d a b p).2.1,()):=by
 have hm:4294967296<many:=by simp only[many];omega
 have ha':a<d.size:=by omega
 have hp':p<d.size:=by omega
 rw[Ac9,Q3,partition]
 simp only[A8 ha',A8 hp',(EB ha' hp').1,(EB ha' hp').2]
 have hs':=hs
 rw[← size_swp d a p]at ha' hs' hb
 generalize swp d a p=d at *
 simp (disch:=omega) only[AN,BL,An]
 have u1:=scanUp_ge (fun x=>ltX x d[a]!) d (b-1) (a+1)
 have u2:=Ml (fun x=>ltX x d[a]!) d (b-1) (a+1) (by omega) (by omega)
 rw[AIl _ (fun x=>ltX x d[a]!) d a (b-1) hs' (by omega) (fun i h=>AN2 d a i (b-1) hs' ha' (by omega) h) _ (a+1) many rfl (by omega) (by omega)]
 generalize scanUp (fun x=>ltX x d[a]!) d (b-1) (a+1)=i2 at *
 have v1:=scanDown_le (fun x => !ltX x d[a]!) d i2 (b-1)
 simp only[]
 rw[TF _ (fun x => !ltX x d[a]!) d a i2 (by omega) (fun j h=>AN1 d a i2 j hs' ha' h (by omega)) (b-1) many (by omega) (by omega)]
 generalize scanDown (fun x => !ltX x d[a]!) d i2 (b-1)=j2 at *
 simp only[AO]
 have hj2:j2<d.size:=by omega
 by_cases h:j2<i2
 ·simp only[h,AjU,gt_iff_lt,Ajs,A8 ha',A8 hj2,(EB hj2 ha').1,(EB hj2 ha').2]
 ·have hi2:i2<d.size:=by omega
  simp only[h,Aji,gt_iff_lt,Ajb,A8 hi2,A8 hj2,(EB hi2 hj2).1,(EB hi2 hj2).2]
  simp (disch:=omega) only[AN,BL]
  obtain⟨q1,q2,q3⟩:=ATA a (j2-1+1-(i2+1)) (i2+1) (j2-1) (swp d i2 j2) many rfl (by rw[size_swp];omega) (by omega) (by rw[size_swp];omega) (by rw[size_swp];omega) (by rw[size_swp];omega) (by omega)
  simp only[q1]
  rw[size_swp]at q3
  generalize partLoop ltX a (i2+1) (j2-1) (swp d i2 j2)=r at *
  have h1:r.1<r.2.size:=by omega
  have h2:a<r.2.size:=by omega
  simp only[A8 h1,A8 h2,(EB h1 h2).1,(EB h1 h2).2]
theorem AJJ(a:Nat):∀ (k i j:Nat) (d:Array (EL S)) (n:Nat),j+1-i=k→a<d.size→1≤i→i≤d.size→j<d.size→d.size<4294967296→k<n →
  AY (IA S.z S.c) n ((rep d),(a:Int),(i:Int),(j:Int),())=some (.inl ((rep (partEqLoop ltX a i j d).2),(((partEqLoop ltX a i j d).1:Nat):Int),())):=by
 intro k
 induction k using Nat.strongRecOn with
 |_ k ih=>
 intro i j d n hk ha hi hi' hj hs hn
 have hm:4294967296<many:=by simp only[many];omega
 obtain⟨n,rfl⟩:∃ k,n=k+1:=⟨n-1,by omega⟩
 rw[partEqLoop_eq,AY,IA]
 have u1:=scanUp_ge (fun x => !ltX d[a]! x) d j i
 have u2:=Ml (fun x => !ltX d[a]! x) d j i hj hi'
 rw[An,AIl _ (fun x => !ltX d[a]! x) d a j hs hj (fun i h=>AEy d a i j hs ha hj h) _ i many rfl hi' (by omega)]
 generalize scanUp (fun x => !ltX d[a]! x) d j i=i2 at *
 have v1:=scanDown_le (fun x=>ltX d[a]! x) d i2 j
 simp only[An]
 rw[TF _ (fun x=>ltX d[a]! x) d a i2 (by omega) (fun j h=>AEx d a i2 j hs ha h (by omega)) j many hj (by omega)]
 generalize scanDown (fun x=>ltX d[a]! x) d i2 j=j2 at *
 simp only[AO]
 by_cases h:j2<i2
 ·simp only[h,AjU,gt_iff_lt,Ajs]
 ·have hi2:i2<d.size:=by omega
  have hj2:j2<d.size:=by omega
  simp only[h,Aji,gt_iff_lt,Ajb,A8 hi2,A8 hj2,(EB hi2 hj2).1,(EB hi2 hj2).2]
  simp (disch:=omega) only[AN,BL]
  exact ih (j2-1+1-(i2+1)) (by omega) (i2+1) (j2-1) (swp d i2 j2) n rfl (by rw[size_swp];omega) (by omega) (by rw[size_swp];omega) (by rw[size_swp];omega) (by rw[size_swp];omega) (by omega)
theorem AN4(d:Array (EL S))(a b p:Nat)(ha:a≤p)(hp:p<b)(hb:b≤d.size)(hs:d.size<4294967296):
  (Q4 S.z S.c) ((rep d),(a:Int),(b:Int),(p:Int),())=some ((rep (partitionEqual ltX d a b p).2),(((partitionEqual ltX d a b p).1:Nat):Int),()):=by
 have hm:4294967296<many:=by simp only[many];omega
 have ha':a<d.size:=by omega
 have hp':p<d.size:=by omega
 rw[ATI,KO,partitionEqual]
 simp only[A8 ha',A8 hp',(EB ha' hp').1,(EB ha' hp').2]
 have hs':=hs
 rw[← size_swp d a p]at ha' hs' hb
 generalize swp d a p=d at *
 simp (disch:=omega) only[AN,BL,An]
 rw[AJJ a _ (a+1) (b-1) d many rfl ha' (by omega) (by omega) (by omega) hs' (by omega)]
end Go.Pev.Pl.SG
end
section
namespace Go.Pev.Pl.SG
open Go.Sort
variable {α:Type} {S:SP α}
theorem Qn(d:Array (EL S))(b:Nat):∀ (k i:Nat),b-i=k→i≤b→i≤scanSorted ltX d b i∧scanSorted ltX d b i≤b:=by
 intro k
 induction k using Nat.strongRecOn with
 |_ k ih=>
 intro i hk hi
 rw[scanSorted]
 split
 ·rename_i h
  have:i<b:=by simp at h;exact h.1
  have:=ih (b-(i+1)) (by omega) (i+1) rfl (by omega)
  omega
 ·omega
theorem AEq(d:Array (EL S))(a b s:Nat)(hb:b≤d.size)(hs:d.size<4294967296):∀ (k i n:Nat),b-i=k→1≤i→i≤b→k<n →
  AY (Gj S.z S.c) n ((rep d),(a:Int),(b:Int),(i:Int),(s:Int),())=some (.inl ((rep d),(a:Int),(b:Int),((scanSorted ltX d b i:Nat):Int),(s:Int),())):=by
 intro k
 induction k using Nat.strongRecOn with
 |_ k ih=>
 intro i n hk h1 hi hn
 obtain⟨n,rfl⟩:∃ k,n=k+1:=⟨n-1,by omega⟩
 rw[scanSorted,AY,Gj]
 simp only[AO]
 by_cases h:i<b
 ·have i0:i<d.size:=by omega
  have i1:i-1<d.size:=by omega
  simp (disch:=omega) only[h,AjU,BL,AN,A8,Bc,Cb,DU,AlL]
  cases h2:ltX d[i]! d[i-1]!
  ·simp only[Ajw,Ajs]
   exact ih (b-(i+1)) (by omega) (i+1) n rfl (by omega) (by omega) (by omega)
  ·simp only[AjT,Aja,Ajb]
 ·simp only[h,Aji,AlC,Aja,Ajb]
theorem AEs(a b i s:Nat):∀ (j:Nat) (d:Array (EL S)) (n:Nat),j<d.size→d.size<4294967296→j<n →
  AY (Eu S.z S.c) n ((rep d),(a:Int),(b:Int),(i:Int),(s:Int),(j:Int),())=some (.inl ((rep (shiftDown ltX j d)),(a:Int),(b:Int),(i:Int),(s:Int),())):=by
 intro j
 induction j with
 |zero=>
  intro d n hj hs hn
  obtain⟨n,rfl⟩:∃ k,n=k+1:=⟨n-1,by omega⟩
  rw[AY,Eu,Ax,AjF (by omega)]
  rfl
 |succ j ih=>
  intro d n hj hs hn
  obtain⟨n,rfl⟩:∃ k,n=k+1:=⟨n-1,by omega⟩
  have hj':j<d.size:=by omega
  rw[shiftDown,AY,Eu,Ax,AjG (by omega)]
  simp (disch:=omega) only[BL,Alm,A8,Bc,Cb,DU]
  cases h2:ltX d[j+1]! d[j]!
  ·simp only[Ajw,Ajs]
  ·have e1:=EB hj hj'
   simp only[Bc hj,Bc hj']at e1
   simp only[AjT,Aja,Ajb,e1]
   exact ih _ n (by rw[size_swp];omega) (by rw[size_swp];omega) (by omega)
theorem W4(a b i s:Nat):∀ (k j:Nat) (d:Array (EL S)) (n:Nat),b-j=k→1≤j→b≤d.size→d.size<4294967296→k<n →
  AY (Et S.z S.c) n ((rep d),(a:Int),(b:Int),(i:Int),(s:Int),(j:Int),())=some (.inl ((rep (shiftUp ltX b j d)),(a:Int),(b:Int),(i:Int),(s:Int),())):=by
 intro k
 induction k using Nat.strongRecOn with
 |_ k ih=>
 intro j d n hk h1 hb hs hn
 obtain⟨n,rfl⟩:∃ k,n=k+1:=⟨n-1,by omega⟩
 rw[shiftUp,AY,Et]
 simp only[AO]
 by_cases h:j<b
 ·have i0:j<d.size:=by omega
  have i1:j-1<d.size:=by omega
  simp (disch:=omega) only[h,AjU,Ajs,BL,AN,A8,Bc,Cb,DU]
  cases h2:ltX d[j]! d[j-1]!
  ·simp only[Ajw,Ajs]
  ·have e1:=EB i0 i1
   simp only[Bc i0,Bc i1]at e1
   simp only[AjT,Aja,Ajb,e1]
   exact ih (b-(j+1)) (by omega) (j+1) _ n rfl (by omega) (by rw[size_swp];omega) (by rw[size_swp];omega) (by omega)
 ·simp only[h,Aji,Ajb]
theorem Z5:∀ (j:Nat) (d:Array (EL S)),(shiftDown ltX j d).size=d.size:=by
 intro j
 induction j with
 |zero=>intro d;rfl
 |succ j ih=>
  intro d
  rw[shiftDown]
  split
  ·rfl
  ·rw[ih,size_swp]
theorem HJ(b:Nat):∀ (k j:Nat) (d:Array (EL S)),b-j=k→(shiftUp ltX b j d).size=d.size:=by
 intro k
 induction k using Nat.strongRecOn with
 |_ k ih=>
 intro j d hk
 rw[shiftUp]
 split
 ·split
  ·rfl
  ·rw[ih (b-(j+1)) (by omega) (j+1) _ rfl,size_swp]
 ·rfl
theorem AEr(a b:Nat)(hab:a<b):∀ (k i s:Nat) (d:Array (EL S)) (n:Nat),s+k=5→a+1≤i→i≤b→b≤d.size→d.size<4294967296→k<n →
  AY (CZ S.z S.c) n ((rep d),(a:Int),(b:Int),(i:Int),(s:Int),())=some (.inl ((rep (partialIns ltX a b k i d).1),(partialIns ltX a b k i d).2,())) ∨
  ((partialIns ltX a b k i d).2=false∧AY (CZ S.z S.c) n ((rep d),(a:Int),(b:Int),(i:Int),(s:Int),())=some (.inr (.inl ((rep (partialIns ltX a b k i d).1),())))):=by
 intro k
 induction k with
 |zero=>
  intro i s d n hk h1 hi hb hs hn
  obtain⟨n,rfl⟩:∃ k,n=k+1:=⟨n-1,by omega⟩
  rw[AY,CZ,Ai,AjF (by omega)]
  exact .inr ⟨rfl,rfl⟩
 |succ k ih=>
  intro i s d n hk h1 hi hb hs hn
  have hm:4294967296<many:=by simp only[many];omega
  have es:IntKind.wrap .i64 ((s:Int)+1)=((s+1:Nat):Int):=AN (by omega)
  obtain⟨n,rfl⟩:∃ k,n=k+1:=⟨n-1,by omega⟩
  rw[AY,CZ,Ai,AjG (by omega),partialIns]
  simp only[An,AEq d a b s hb hs (b-i) i many rfl (by omega) hi (by omega)]
  have hsc:=Qn d b _ i rfl hi
  generalize scanSorted ltX d b i=i2 at *
  simp only[AKB]
  by_cases h2:i2=b
  ·simp only[h2,AjU,Ajs,true_or]
  ·simp (disch:=omega) only[h2,Aji,Ajb,EH,Ai,Ax]
   by_cases h3:b-a<50
   ·rw[AjV h3,AjG (by omega)]
    exact .inl rfl
   ·have i0:i2<d.size:=by omega
    have i1:i2-1<d.size:=by omega
    rw[AjS h3,AjF (by omega)]
    simp (disch:=omega) only[BL,AN,A8 i0,A8 i1,(EB i0 i1).1,(EB i0 i1).2]
    have hsz:=size_swp d i2 (i2-1)
    generalize swp d i2 (i2-1)=d2 at *
    by_cases h4:i2-a≥2
    ·rw[AjV h4,AjG (show(2:Int)≤((i2-a:Nat):Int) by omega)]
     simp only[AEs a b i2 s (i2-1) d2 many (by omega) (by omega) (by omega)]
     have hsz2:=Z5 (i2-1) d2
     generalize shiftDown ltX (i2-1) d2=d3 at *
     simp (disch:=omega) only[EH,AN]
     by_cases h5:b-i2≥2
     ·rw[AjV h5,AjG (show(2:Int)≤((b-i2:Nat):Int) by omega)]
      simp only[W4 a b i2 s _ (i2+1) d3 many rfl (by omega) (by omega) (by omega) (by omega)]
      simp only[es]
      exact ih i2 (s+1) (shiftUp ltX b (i2+1) d3) n (by omega) (by omega) (by omega) (by rw[HJ b (b-(i2+1)) (i2+1) _ rfl];omega) (by rw[HJ b (b-(i2+1)) (i2+1) _ rfl];omega) (by omega)
     ·rw[AjS h5,AjF (show ¬ (2:Int)≤((b-i2:Nat):Int) by omega)]
      simp only[es]
      exact ih i2 (s+1) d3 n (by omega) (by omega) (by omega) (by omega) (by omega) (by omega)
    ·rw[AjS h4,AjF (show ¬ (2:Int)≤((i2-a:Nat):Int) by omega)]
     by_cases h5:b-i2≥2
     ·rw[AjV h5,AjG (show(2:Int)≤((b-i2:Nat):Int) by omega)]
      simp only[W4 a b i2 s _ (i2+1) d2 many rfl (by omega) (by omega) (by omega) (by omega)]
      simp only[es]
      exact ih i2 (s+1) (shiftUp ltX b (i2+1) d2) n (by omega) (by omega) (by omega) (by rw[HJ b (b-(i2+1)) (i2+1) _ rfl];omega) (by rw[HJ b (b-(i2+1)) (i2+1) _ rfl];omega) (by omega)
     ·rw[AjS h5,AjF (show ¬ (2:Int)≤((b-i2:Nat):Int) by omega)]
      simp only[es]
      exact ih i2 (s+1) d2 n (by omega) (by omega) (by omega) (by omega) (by omega) (by omega)
theorem AJF(d:Array (EL S))(a b:Nat)(hab:a<b)(hb:b≤d.size)(hs:d.size<4294967296):
  (Mx S.z S.c) ((rep d),(a:Int),(b:Int),())=some ((rep (partialInsertionSort ltX d a b).1),(partialInsertionSort ltX d a b).2,()):=by
 have hm:4294967296<many:=by simp only[many];omega
 rw[ANp,H7,partialInsertionSort]
 simp (disch:=omega) only[AN,An]
 have h:=AEr a b hab 5 (a+1) 0 d many rfl (AjR _) (by omega) hb hs (by omega)
 rcases h with h|⟨h0,h⟩
 ·have h':AY (CZ S.z S.c) many ((rep d),(a:Int),(b:Int),((a+1:Nat):Int),(0:Int),())=_:=h
  rw[h']
 ·have h':AY (CZ S.z S.c) many ((rep d),(a:Int),(b:Int),((a+1:Nat):Int),(0:Int),())=_:=h
  rw[h',h0]
theorem M5(d:Array (EL S))(a b:Nat)(s:Int)(ha:a<d.size)(hb:b<d.size):
  ∃ s' p q,(LI S.z S.c) ((rep d),(a:Int),(b:Int),s,())=some ((rep d),s',((p:Nat):Int),((q:Nat):Int),())∧(p=a∧q=b∨p=b∧q=a):=by
 rw[ATS,KQ]
 simp only[A8 ha,A8 hb,Bc ha,Bc hb,Cb,DU]
 cases ltX d[b]! d[a]!
 ·exact⟨_,a,b,rfl,.inl ⟨rfl,rfl⟩⟩
 ·exact⟨_,b,a,rfl,.inr ⟨rfl,rfl⟩⟩
theorem NB(d:Array (EL S))(a b c:Nat)(s:Int)(ha:a<d.size)(hb:b<d.size)(hc:c<d.size):
  ∃ s' p,(LS S.z S.c) ((rep d),(a:Int),(b:Int),(c:Int),s,())=some ((rep d),s',((p:Nat):Int),())∧(p=a∨p=b∨p=c):=by
 rw[ATs,KT]
 obtain⟨s1,p1,q1,e1,h1⟩:=M5 d a b s ha hb
 simp only[e1]
 obtain⟨s2,p2,q2,e2,h2⟩:=M5 d q1 c s1 (by omega) hc
 simp only[e2]
 obtain⟨s3,p3,q3,e3,h3⟩:=M5 d p1 p2 s2 (by omega) (by omega)
 simp only[e3]
 exact⟨_,q3,rfl,by omega⟩
theorem NC(d:Array (EL S))(a:Nat)(s:Int)(h1:1≤a)(ha:a+1<d.size)(hs:d.size<4294967296):
  ∃ s' p,(LU S.z S.c) ((rep d),(a:Int),s,())=some ((rep d),s',((p:Nat):Int),())∧a≤p+1∧p≤a+1:=by
 rw[ATv,KU]
 simp (disch:=omega) only[BL,AN]
 obtain⟨s1,p1,e1,h1⟩:=NB d (a-1) a (a+1) s (by omega) (by omega) ha
 simp only[e1]
 exact⟨_,p1,rfl,by omega⟩
theorem ASt(d:Array (EL S))(a b:Nat)(hab:a+8≤b)(hb:b≤d.size)(hs:d.size<4294967296):
  ∃ p h,(AAw S.z S.c) ((rep d),(a:Int),(b:Int),())=some ((rep d),((p:Nat):Int),h,())∧a≤p∧p<b:=by
 rw[AYy,Mw]
 simp (disch:=omega) only[EH,AWU,AXf,Ny,AXe,wrap_add,Ax]
 rw[AjG (show(8:Int)≤((b-a:Nat):Int) by omega)]
 simp only[]
 by_cases h:50≤b-a
 ·rw[AjG (show(50:Int)≤((b-a:Nat):Int) by omega)]
  simp only[]
  obtain⟨s1,p1,e1,h1⟩:=NC d (a+(b-a)/4*1) 0 (by omega) (by omega) hs
  simp only[e1]
  obtain⟨s2,p2,e2,h2⟩:=NC d (a+(b-a)/4*2) s1 (by omega) (by omega) hs
  simp only[e2]
  obtain⟨s3,p3,e3,h3⟩:=NC d (a+(b-a)/4*3) s2 (by omega) (by omega) hs
  simp only[e3]
  obtain⟨s4,p4,e4,h4⟩:=NB d p1 p2 p3 s3 (by omega) (by omega) (by omega)
  simp only[e4]
  cases ieq s4 0
  ·cases ieq s4 12
   ·exact⟨p4,_,rfl,by omega,by omega⟩
   ·exact⟨p4,_,rfl,by omega,by omega⟩
  ·exact⟨p4,_,rfl,by omega,by omega⟩
 ·rw[AjF (show ¬ (50:Int)≤((b-a:Nat):Int) by omega)]
  simp only[]
  obtain⟨s4,p4,e4,h4⟩:=NB d (a+(b-a)/4*1) (a+(b-a)/4*2) (a+(b-a)/4*3) 0 (by omega) (by omega) (by omega)
  simp only[e4]
  cases ieq s4 0
  ·cases ieq s4 12
   ·exact⟨p4,_,rfl,by omega,by omega⟩
   ·exact⟨p4,_,rfl,by omega,by omega⟩
  ·exact⟨p4,_,rfl,by omega,by omega⟩
end Go.Pev.Pl.SG
end
section
namespace Go.Pev.Pl
open Go.Sort
theorem AZv:(List.range 256).all (fun k=>match G1[k]? with
  |some v=>decide (0≤v)&&(decide (v≤8)&&decide (2 ^ v.toNat≤max 1 (2*k)))
  |none=>false)=true:=by decide +kernel
theorem AZw{k:Nat}(h:k<256):∃ v:Nat,idx G1 (k:Int)=some (v:Int)∧v≤8∧2 ^ v≤max 1 (2*k):=by
 have:=Ajf.1 AZv k (AkP.2 h)
 rw[idx_eq,Pz,AjS (by omega),AkA]
 cases e:G1[k]? with
 |none=>rw[e]at this;cases this
 |some v=>
  rw[e]at this
  simp only[AjJ,AjI]at this
  exact⟨v.toNat,by rw[Int.toNat_of_nonneg this.1],by omega,this.2.2⟩
theorem AIa(n s:Nat)(h:s≤64):shr? .u64 (n:Int) (s:Int)=some ((n/2 ^ s:Nat):Int):=by
 rw[AR2,AEe,AjS (by omega),AkA,show min s (IntKind.bits .u64)=s from AkG h,Int.fdiv_eq_ediv_of_nonneg _ (Int.pow_nonneg (by omega))]
 rfl
theorem u8_in{n:Int}(h:0≤n∧n≤255):IntKind.wrap .u8 n=n:=IntWalk.u8_in n h
theorem u64_in{n:Int}(h:0≤n∧n≤18446744073709551615):IntKind.wrap .u64 n=n:=IntWalk.u64_in n h
theorem AZx(n:Nat)(hn:n<4294967296):∃ v:Nat,AO3 ((n:Int),())=some ((v:Int),())∧v≤32∧2 ^ v≤max 1 (2*n):=by
 rw[AO2,Yl,Ax,AjF (by omega)]
 simp only[Ax]
 have key:∀ (s m:Nat),s≤24→m<256→m*2 ^ s≤n→(s=0∨1≤m)→∃ v:Nat,idx G1 (m:Int)=some (v:Int)∧v≤8∧2 ^ (s+v)≤max 1 (2*n):=by
  intro s m hs hm hle h1
  obtain⟨v,e,h8,hp⟩:=AZw hm
  refine⟨v,e,h8,?_⟩
  rcases h1 with rfl|h1
  ·rw[AkK];simp at hle;omega
  ·have h2:2 ^ v≤2*m:=by omega
   have h3:2 ^ (s+v)≤2*(m*2 ^ s):=by
    rw[Nat.pow_add,Nat.mul_comm (2 ^ s),← Nat.mul_assoc]
    exact AkH _ h2
   omega
 by_cases h1:65536≤n
 ·rw[AjG (show(65536:Int)≤(n:Int) by omega)]
  have e16:shr? .u64 (n:Int) 16=some ((n/65536:Nat):Int):=AIa n 16 (by omega)
  simp only[e16]
  by_cases h2:256≤n/65536
  ·rw[AjG (show(256:Int)≤((n/65536:Nat):Int) by omega)]
   have e8:shr? .u64 ((n/65536:Nat):Int) 8=some ((n/65536/256:Nat):Int):=AIa _ 8 (by omega)
   obtain⟨v,e,h8,hp⟩:=key 24 (n/65536/256) (by omega) (by omega) (by omega) (by omega)
   simp only[e8]
   rw[u8_in (by omega)]
   simp only[e]
   refine⟨24+v,?_,by omega,hp⟩
   rw[Ah (n:=0+16) (by omega),Ah (n:=(0:Int)+16+8) (by omega),Ah (n:=(v:Int)) (by omega),Ah (by omega)]
   congr 2
  ·rw[AjF (show ¬ (256:Int)≤((n/65536:Nat):Int) by omega)]
   obtain⟨v,e,h8,hp⟩:=key 16 (n/65536) (by omega) (by omega) (by omega) (by omega)
   simp only[]
   rw[u8_in (by omega)]
   simp only[e]
   refine⟨16+v,?_,by omega,hp⟩
   rw[Ah (n:=0+16) (by omega),Ah (n:=(v:Int)) (by omega),Ah (by omega)]
   congr 2
 ·rw[AjF (show ¬ (65536:Int)≤(n:Int) by omega)]
  by_cases h2:256≤n
  ·have e8:shr? .u64 (n:Int) 8=some ((n/256:Nat):Int):=AIa n 8 (by omega)
   obtain⟨v,e,h8,hp⟩:=key 8 (n/256) (by omega) (by omega) (by omega) (by omega)
   simp only[]
   rw[AjG (show(256:Int)≤(n:Int) by omega)]
   simp only[e8]
   rw[u8_in (by omega)]
   simp only[e]
   refine⟨8+v,?_,by omega,hp⟩
   rw[Ah (n:=0+8) (by omega),Ah (n:=(v:Int)) (by omega),Ah (by omega)]
   congr 2
  ·obtain⟨v,e,h8,hp⟩:=key 0 n (by omega) (by omega) (by omega) (by omega)
   simp only[]
   rw[AjF (show ¬ (256:Int)≤(n:Int) by omega)]
   simp only[]
   rw[u8_in (by omega)]
   simp only[e]
   refine⟨0+v,?_,by omega,hp⟩
   rw[Ah (n:=(v:Int)) (by omega),Ah (by omega)]
   congr 2
theorem XV(n:Nat)(hn:n<4294967296):∃ v:Nat,bitsLen ((n:Int),())=some ((v:Int),())∧v≤32∧2 ^ v≤max 1 (2*n):=by
 rw[ADp,OR]
 obtain⟨v,e,h⟩:=AZx n hn
 simp only[e]
 exact⟨v,rfl,h⟩
theorem AOg(n:Nat)(h1:1≤n)(hn:n<4294967296):∃ m:Nat,Q9 ((n:Int),())=some ((m:Int),())∧1≤m∧m≤2*n:=by
 rw[ABq,OD,u64_in (by omega)]
 obtain⟨v,e,h32,hp⟩:=XV n hn
 simp only[e]
 have e2:shl? .u64 (1:Int) (v:Int)=some ((2 ^ v:Nat):Int):=by
  rw[AAA,Xy,AjS (by omega),AkA,show min v (IntKind.bits .u64)=v from AkG (by show v≤64;omega),Int.one_mul]
  have:2 ^ v≤2 ^ 32:=Nat.pow_le_pow_right (by omega) h32
  have h1:1≤2 ^ v:=Nat.one_le_two_pow
  have e:((2:Int) ^ v)=((2 ^ v:Nat):Int):=by simp
  rw[e,u64_in (by constructor<;>omega)]
 simp only[e2]
 exact⟨2 ^ v,rfl,Nat.one_le_two_pow,by omega⟩
theorem ALg(r:Int):∃ r' y,xorNext (r,())=some (r',y,()):=by
 rw[Y1,Nx,AAA,Xy,AjS (by omega)]
 simp only[]
 rw[AR2,AEe,AjS (by omega)]
 simp only[]
 rw[AAA,Xy,AjS (by omega)]
 exact⟨_,_,rfl⟩
theorem AdO(y:Int)(m:Nat)(h1:1≤m)(hm:m<18446744073709551616):∃ o:Nat,IntKind.wrap .u64 ((BitVec.ofInt (IntKind.bits .u64) y &&& BitVec.ofInt (IntKind.bits .u64) (IntKind.wrap .u64 ((m:Int)-1))).toNat)=(o:Int)∧o<m:=by
 rw[u64_in (n:=(m:Int)-1) (by omega),show(m:Int)-1=((m-1:Nat):Int) by omega,BitVec.toNat_and]
 have h2:(BitVec.ofInt (IntKind.bits .u64) ((m-1:Nat):Int)).toNat=m-1:=by
  rw[BitVec.ofInt_natCast,BitVec.toNat_ofNat]
  exact AmS (by show m-1<18446744073709551616;omega)
 rw[h2]
 have h3:(BitVec.ofInt (IntKind.bits .u64) y).toNat &&& (m-1)≤m-1:=Nat.and_le_right
 exact⟨_,u64_in (by omega),by omega⟩
end Go.Pev.Pl
end
section
namespace Go.Pev.Pl.SG
open Go.Sort
variable {α:Type} {S:SP α}
theorem AQR(a b:Nat)(m:Nat)(h8:a+8≤b)(hm1:1≤m)(hm:m≤2*(b-a)):∀ (k t:Nat) (d:Array (EL S)) (r:Int) (n:Nat),t+k=3→b≤d.size→d.size<4294967296→k<n →
  ∃ d':Array (EL S),AY (GD S.z S.c) n ((rep d),(a:Int),((b-a:Nat):Int),r,(m:Int),((a+(b-a)/4*2-1+t:Nat):Int),())=some (.inl ((rep d'),()))∧PermIn a b d d':=by
 intro k
 induction k with
 |zero=>
  intro t d r n hk hb hs hn
  obtain⟨n,rfl⟩:∃ k,n=k+1:=⟨n-1,by omega⟩
  rw[AY,GD]
  simp (disch:=omega) only[AWU,Ny,wrap_add,AN,ET]
  rw[AjF (by omega)]
  exact⟨d,rfl,permIn_refl d a b⟩
 |succ k ih=>
  intro t d r n hk hb hs hn
  obtain⟨n,rfl⟩:∃ k,n=k+1:=⟨n-1,by omega⟩
  rw[AY,GD]
  simp (disch:=omega) only[AWU,Ny,wrap_add,AN,ET]
  rw[AjG (show a+(b-a)/4*2-1+t≤a+(b-a)/4*2+1 by omega)]
  obtain⟨r',y,e⟩:=ALg r
  obtain⟨o,e2,ho⟩:=AdO y m hm1 (by omega)
  simp only[e,e2]
  rw[Ah (n:=(o:Int)) (by omega)]
  simp only[ET]
  have i0:a+(b-a)/4*2-1+t<d.size:=by omega
  have fin:∀ q:Nat,a≤q→q<b→∃ d':Array (EL S),AY (GD S.z S.c) n ((rep (swp d (a+(b-a)/4*2-1+t) q)),(a:Int),((b-a:Nat):Int),r',(m:Int),((a+(b-a)/4*2-1+t+1:Nat):Int),())=some (.inl ((rep d'),()))∧PermIn a b d d':=by
   intro q hq1 hq2
   obtain⟨d',e',hp⟩:=ih (t+1) (swp d (a+(b-a)/4*2-1+t) q) r' n (by omega) (by rw[size_swp];omega) (by rw[size_swp];omega) (by omega)
   exact⟨d',e',permIn_trans _ _ _ a b (swp_permIn d a b _ q (by omega) (by omega) hq1 hq2 hb) hp⟩
  by_cases h:b-a≤o
  ·have i1:a+(o-(b-a))<d.size:=by omega
   simp (disch:=omega) only[h,AjU,EH,wrap_add,AN,A8 i0,A8 i1,(EB i0 i1).1,(EB i0 i1).2]
   exact fin _ (by omega) (by omega)
  ·have i1:a+o<d.size:=by omega
   simp (disch:=omega) only[h,Aji,EH,wrap_add,AN,A8 i0,A8 i1,(EB i0 i1).1,(EB i0 i1).2]
   exact fin _ (by omega) (by omega)
theorem AVX(d:Array (EL S))(a b:Nat)(hab:a≤b)(hb:b≤d.size)(hs:d.size<4294967296):
  ∃ d':Array (EL S),(ADi S.z S.c) ((rep d),(a:Int),(b:Int),())=some ((rep d'),())∧PermIn a b d d':=by
 have hm:4294967296<many:=by simp only[many];omega
 rw[Aa6,Ni]
 simp (disch:=omega) only[EH,Ax]
 by_cases h:8≤b-a
 ·rw[AjG (show(8:Int)≤((b-a:Nat):Int) by omega)]
  obtain⟨m,e,h1,h2⟩:=AOg (b-a) (by omega) (by omega)
  simp only[e]
  rw[u64_in (n:=((b-a:Nat):Int)) (by omega)]
  simp (disch:=omega) only[AWU,Ny,wrap_add,BL,An]
  obtain⟨d',e2,hp⟩:=AQR a b m (by omega) h1 h2 3 0 d ((b-a:Nat):Int) many rfl hb hs (by omega)
  rw[Akq]at e2
  simp only[e2]
  exact⟨d',rfl,hp⟩
 ·rw[AjF (show ¬ (8:Int)≤((b-a:Nat):Int) by omega)]
  exact⟨d,rfl,permIn_refl d a b⟩
end Go.Pev.Pl.SG
end
section
namespace Go.Pev.Pl.SG
open Go.Sort
variable {α:Type} {S:SP α}
abbrev Ai2(α:Type):=List α×Int×Int×Int×Bool×Bool×Unit
abbrev AXU(α:Type):=Ai2 α⊕(List α×Unit)⊕Unit
def ADu(d:Array (EL S))(a b:Nat):AXU α→Prop
 |.inl (xs,x,y,l,_,_,_)=>∃ (e:Array (EL S)) (i j:Nat),xs=(rep e)∧x=(i:Int)∧y=(j:Int)∧0≤l∧l≤100∧i≤j∧j≤e.size∧e.size=d.size∧j-i<b-a∧Below ltX i j e ∧
   ∀ R,PermIn i j e R→SortedIn ltX i j R→PermIn a b d R∧SortedIn ltX a b R
 |.inr (.inl (xs,_))=>∃ R:Array (EL S),xs=(rep R)∧PermIn a b d R∧SortedIn ltX a b R
 |.inr (.inr _)=>False
def FW(self:(List α×Int×Int×Int×Unit)→Option ((List α×Unit)))(m:Nat):Prop:=
 ∀ (d:Array (EL S)) (a b:Nat) (l:Int),a≤b→b≤d.size→d.size<4294967296→0≤l→l≤100→Below ltX a b d→2*(b-a)<m →
  ∃ R:Array (EL S),self ((rep d),(a:Int),(b:Int),l,())=some ((rep R),())∧PermIn a b d R∧SortedIn ltX a b R
section
variable {self:(List α×Int×Int×Int×Unit)→Option ((List α×Unit))} {d:Array (EL S)} {a b:Nat} {l:Int}
theorem ANK(hself:FW (S:=S) self (b-a))(hb:b≤d.size)(hs:d.size<4294967296)(hl:0≤l∧l≤100)
  {d3:Array (EL S)} {p:Nat} (P3:PermIn a b d d3) (B3:Below ltX a b d3) (hp1:a≤p) (hp2:p<b) :
  ∃ o,(match(ABQ S.z S.c) ((rep d3),(a:Int),(b:Int),(p:Int),())with
  |none=>none
  |some (y20,y21,y22,_)=>match quo? .i64 (IntKind.wrap .i64 ((b:Int)-(a:Int))) (8:Int)with
   |none=>none
   |some x23=>match(ilt (IntKind.wrap .i64 (y21-(a:Int))) (IntKind.wrap .i64 ((b:Int)-y21)))with
    |true=>match self (y20,(a:Int),y21,l,())with
     |none=>none
     |some (y24,_)=>some ((.inl (y24,(IntKind.wrap .i64 (y21+(1:Int))),(b:Int),l,(ile x23 (IntKind.wrap .i64 (y21-(a:Int)))),y22,())):AXU α)
    |false=>match self (y20,(IntKind.wrap .i64 (y21+(1:Int))),(b:Int),l,())with
     |none=>none
     |some (y25,_)=>some (.inl (y25,(a:Int),y21,l,(ile x23 (IntKind.wrap .i64 ((b:Int)-y21))),y22,())))=some o∧ADu d a b o:=by
 have b3:b≤d3.size:=by rw[P3.1];exact hb
 have s3:d3.size<4294967296:=by rw[P3.1];exact hs
 rw[AZB d3 a b p hp1 hp2 b3 s3]
 rcases hx:partition ltX d3 a b p with⟨mid,ap,d4⟩
 obtain⟨g1,g2,hs4,hBa,hBr,hleft,hright⟩:=round_part Ab1 (partition_holds _) hp1 hp2 b3 B3 hx
 simp (disch:=omega) only[EH,AN,Ais,AO]
 have b4:b≤d4.size:=by omega
 by_cases h:mid-a<b-mid
 ·obtain⟨L,e,l1,l2⟩:=hself d4 a mid l g1 (by omega) (by omega) hl.1 hl.2 hBa (by omega)
  simp only[h,AjU,e]
  obtain⟨hBL,hfin⟩:=hleft _ l1 l2
  refine⟨_,rfl,L,mid+1,b,rfl,rfl,rfl,hl.1,hl.2,by omega,by rw[l1.1];exact b4,by rw[l1.1,hs4,P3.1],by omega,hBL,fun R r1 r2 => ?_⟩
  obtain⟨q1,q2⟩:=hfin R r1 r2
  exact⟨permIn_trans _ _ _ a b P3 q1,q2⟩
 ·obtain⟨L,e,l1,l2⟩:=hself d4 (mid+1) b l (by omega) (by omega) (by omega) hl.1 hl.2 hBr (by omega)
  simp only[h,Aji,e]
  obtain⟨hBL,hfin⟩:=hright _ l1 l2
  refine⟨_,rfl,L,a,mid,rfl,rfl,rfl,hl.1,hl.2,by omega,by rw[l1.1];omega,by rw[l1.1,hs4,P3.1],by omega,hBL,fun R r1 r2 => ?_⟩
  obtain⟨q1,q2⟩:=hfin R r1 r2
  exact⟨permIn_trans _ _ _ a b P3 q1,q2⟩
theorem Q2(hself:FW (S:=S) self (b-a))(hb:b≤d.size)(hs:d.size<4294967296)(hl:0≤l∧l≤100)
  {d3:Array (EL S)} {p:Nat} (wb wp:Bool) (P3:PermIn a b d d3) (B3:Below ltX a b d3) (hp1:a≤p) (hp2:p<b) :
  ∃ o,(TX S.z S.c) self (rep d3) (a:Int) (b:Int) (p:Int) l wb wp=some o∧ADu d a b o:=by
 have b3:b≤d3.size:=by rw[P3.1];exact hb
 have s3:d3.size<4294967296:=by rw[P3.1];exact hs
 rw[TX,Ai]
 by_cases h0:0<a
 ·rw[AjG (by omega)]
  have i0:a-1<d3.size:=by omega
  have i1:p<d3.size:=by omega
  simp (disch:=omega) only[BL,A8,Bc,Cb,DU]
  cases hc:ltX d3[a-1]! d3[p]!
  ·simp only[Ajw]
   rw[AN4 d3 a b p hp1 hp2 b3 s3]
   rcases hx:partitionEqual ltX d3 a b p with⟨mid,d4⟩
   obtain⟨hm1,hm2,hs4,hB4,hfin⟩:=round_eq Ab1 (partitionEqual_holds _) h0 hp1 hp2 b3 B3 hc hx
   refine⟨_,rfl,d4,mid,b,rfl,rfl,rfl,hl.1,hl.2,by omega,by omega,by rw[hs4,P3.1],by omega,hB4,fun R r1 r2 => ?_⟩
   obtain⟨q1,q2⟩:=hfin R r1 r2
   exact⟨permIn_trans _ _ _ a b P3 q1,q2⟩
  ·simp only[AjT]
   exact ANK hself hb hs hl P3 B3 hp1 hp2
 ·rw[AjF (by omega)]
  exact ANK hself hb hs hl P3 B3 hp1 hp2
theorem AWY(hself:FW (S:=S) self (b-a))(hab:a<b)(hb:b≤d.size)(hs:d.size<4294967296)(hl:0≤l∧l≤100)
  {d3:Array (EL S)} {p:Nat} (h:Int) (wb wp:Bool) (P3:PermIn a b d d3) (B3:Below ltX a b d3) (hp1:a≤p) (hp2:p<b) :
  ∃ o,(AI9 S.z S.c) self (rep d3) (a:Int) (b:Int) (p:Int) h l wb wp=some o∧ADu d a b o:=by
 have b3:b≤d3.size:=by rw[P3.1];exact hb
 have s3:d3.size<4294967296:=by rw[P3.1];exact hs
 unfold AI9
 cases wb
 ·exact Q2 hself hb hs hl _ _ P3 B3 hp1 hp2
 ·cases wp
  ·exact Q2 hself hb hs hl _ _ P3 B3 hp1 hp2
  ·simp only[]
   cases ieq h 1
   ·exact Q2 hself hb hs hl _ _ P3 B3 hp1 hp2
   ·simp only[]
    rw[AJF d3 a b hab b3 s3]
    obtain⟨q1,q2⟩:=partialInsertionSort_holds (lt:=ltX) Ab1 d3 a b hab b3 B3
    rcases hx:partialInsertionSort ltX d3 a b with⟨d4,fin⟩
    rw[hx]at q1 q2
    have P4:PermIn a b d d4:=permIn_trans _ _ _ a b P3 q1
    cases fin
    ·exact Q2 hself hb hs hl _ _ P4 (B3.perm b3 q1) hp1 hp2
    ·exact⟨_,rfl,d4,rfl,P4,q2 rfl⟩
theorem AWX(hself:FW (S:=S) self (b-a))(hab:a+8≤b)(hb:b≤d.size)(hs:d.size<4294967296)(hl:0≤l∧l≤100)
  {d3:Array (EL S)} (wb wp:Bool) (P3:PermIn a b d d3) (B3:Below ltX a b d3) :
  ∃ o,(AI8 S.z S.c) self (rep d3) (a:Int) (b:Int) l wb wp=some o∧ADu d a b o:=by
 have b3:b≤d3.size:=by rw[P3.1];exact hb
 have s3:d3.size<4294967296:=by rw[P3.1];exact hs
 rw[AI8]
 obtain⟨p,h,e,hp1,hp2⟩:=ASt d3 a b hab b3 s3
 simp only[e]
 cases ieq h 2
 ·exact AWY hself (by omega) hb hs hl h _ _ P3 B3 hp1 hp2
 ·simp only[Acd d3 a b (by omega) b3 s3]
  have q1:=reverseRange_holds (α:=(EL S)) d3 a b (by omega) b3
  simp (disch:=omega) only[BL,EH]
  exact AWY hself (by omega) hb hs hl 1 _ _ (permIn_trans _ _ _ a b P3 q1) (B3.perm b3 q1) (by omega) (by omega)
theorem AY5(hself:FW (S:=S) self (b-a))(hab:a≤b)(hb:b≤d.size)(hs:d.size<4294967296)(hl:0≤l∧l≤100)(wb wp:Bool)(B:Below ltX a b d):
  ∃ o,(OC S.z S.c) self ((rep d),(a:Int),(b:Int),l,wb,wp,())=some o∧ADu d a b o:=by
 rw[OC]
 simp (disch:=omega) only[EH,Ax,B9]
 by_cases h12:b-a≤12
 ·rw[AjG (show((b-a:Nat):Int)≤12 by omega)]
  simp only[Ad0 d a b hab hb hs]
  obtain⟨q1,q2⟩:=insertionSort_holds (lt:=ltX) Ab1 d a b hab hb
  exact⟨_,rfl,_,rfl,q1,q2⟩
 ·rw[AjF (show ¬ ((b-a:Nat):Int)≤12 by omega)]
  simp only[]
  by_cases h0:l=0
  ·subst h0
   simp only[BEq.rfl,AaD d a b (by omega) hb hs]
   obtain⟨q1,q2⟩:=heapSort_holds (lt:=ltX) Ab1 d a b hab hb
   exact⟨_,rfl,_,rfl,q1,q2⟩
  ·rw[show(l==0)=false by simpa using h0]
   simp only[]
   cases wb
   ·obtain⟨d',e,q1⟩:=AVX d a b hab hb hs
    simp only[Ajw,e]
    rw[Ah (by omega)]
    exact AWX hself (by omega) hb hs (by omega) _ _ q1 (B.perm hb q1)
   ·simp only[AjT]
    exact AWX hself (by omega) hb hs hl _ _ (permIn_refl d a b) B
end
theorem ANL{self:(List α×Int×Int×Int×Unit)→Option ((List α×Unit))}{m:Nat}(hself:FW (S:=S) self m):∀ (k:Nat) (d:Array (EL S)) (a b:Nat) (l:Int) (wb wp:Bool) (n:Nat),b-a=k→k≤m→a≤b→b≤d.size→d.size<4294967296→0≤l→l≤100→Below ltX a b d→k<n →
  ∃ R:Array (EL S),AY ((OC S.z S.c) self) n ((rep d),(a:Int),(b:Int),l,wb,wp,())=some (.inl ((rep R),()))∧PermIn a b d R∧SortedIn ltX a b R:=by
 intro k
 induction k using Nat.strongRecOn with
 |_ k ih=>
 intro d a b l wb wp n hk hm hab hb hs hl1 hl2 B hn
 obtain⟨n,rfl⟩:∃ k,n=k+1:=⟨n-1,by omega⟩
 have hself':FW (S:=S) self (b-a):=fun d a' b' l h1 h2 h3 h4 h5 h6 h7=>hself d a' b' l h1 h2 h3 h4 h5 h6 (by omega)
 obtain⟨o,e,ho⟩:=AY5 hself' hab hb hs ⟨hl1,hl2⟩ wb wp B
 rw[AY,e]
 match o,ho with
 |.inl (xs,x,y,l',wb',wp',_),ho=>
  obtain⟨e',i,j,rfl,rfl,rfl,g1,g2,g3,g4,g5,g6,g7,hfin⟩:=ho
  obtain⟨R,e2,r1,r2⟩:=ih (j-i) (by omega) e' i j l' wb' wp' n rfl (by omega) g3 g4 (by omega) g1 g2 g7 (by omega)
  exact⟨R,e2,hfin R r1 r2⟩
 |.inr (.inl (xs,_)),ho=>
  obtain⟨R,rfl,r1,r2⟩:=ho
  exact⟨R,rfl,r1,r2⟩
theorem AY6:∀ k:Nat,FW (S:=S) ((LH S.z S.c) (k+1)) (2 ^ k):=by
 intro k
 have hmany:4294967296<many:=by simp only[many];omega
 induction k with
 |zero=>
  intro d a b l h1 h2 h3 h4 h5 h6 h7
  have:FW (S:=S) ((LH S.z S.c) 0) 0:=fun _ _ _ _ _ _ _ _ _ _ h=>by omega
  obtain⟨R,e,r1,r2⟩:=ANL this (b-a) d a b l true true many rfl (by omega) h1 h2 h3 h4 h5 h6 (by omega)
  refine⟨R,?_,r1,r2⟩
  rw[LH,AA9]
  simp only[An,e]
 |succ k ih=>
  intro d a b l h1 h2 h3 h4 h5 h6 h7
  have hp:2 ^ (k+1)=2*2 ^ k:=by rw[Nat.pow_succ];omega
  obtain⟨R,e,r1,r2⟩:=ANL ih (b-a) d a b l true true many rfl (by omega) h1 h2 h3 h4 h5 h6 (by omega)
  refine⟨R,?_,r1,r2⟩
  rw[LH,AA9]
  simp only[An,e]
theorem KH{α:Type}(S:SP α)(xs:List α)(h:xs.length<4294967296)(hok:∀ x∈xs,S.ok x):∃ ys,(AV6 S.z S.c) (xs,())=some (ys,())∧ys.Perm xs∧ys.Pairwise fun x y=>S.lt y x=false:=by
 obtain⟨d,rfl⟩:∃ d:Array (EL S),xs=rep d:=by
  refine⟨(xs.attach.map fun x=>⟨x.val,hok x.val x.property⟩).toArray,?_⟩
  simp only[rep,AlX]
  exact(List.attach_map_subtype_val xs).symm
 have hl:(rep d).length=d.size:=by simp[rep]
 rw[hl]at h
 rw[AcA,Qj]
 rw[AXN,u64_in (by omega)]
 obtain⟨v,e,hv,_⟩:=XV d.size h
 simp only[e]
 obtain⟨R,e2,r1,r2⟩:=AY6 99 d 0 d.size (v:Int) (by omega) (by omega) h (by omega) (by omega) (.inl rfl) (by
  have:2 ^ 99=633825300114114700748351602688:=by decide
  omega)
 have e3:(Acv S.z S.c) (rep d,(0:Int),(d.size:Int),(v:Int),())=some (rep R,()):=by rw[AgO];exact e2
 refine⟨rep R,by simp only[e3],?_,?_⟩
 ·obtain⟨hsz,_,hp⟩:=r1
  have e1:R.extract 0 d.size=R:=by rw[← hsz];exact Array.extract_size
  rw[e1,Array.extract_size]at hp
  exact hp.map _
 ·rw[rep,Ake,Akt]
  intro i j hi hj hij
  have hi':i<R.size:=by simpa using hi
  have hj':j<R.size:=by simpa using hj
  have:=r2 i j (Al5 _) hij (by rw[← r1.1];omega)
  rw[getElem!_pos R j hj',getElem!_pos R i hi']at this
  simpa [ltX]using this
end Go.Pev.Pl.SG
end
section
namespace Go.Pev.Pl.SL
open Go.Sort
def ok(l:List Int):Prop:=l≠[]
def okz:List Int:=[0]
theorem Tk:ok okz:=by simp[ok,okz]
def lt(x y:List Int):Bool:=ltInt (x.headD 0) (y.headD 0)
theorem swo:SWO lt:=⟨fun x=>swo_ltInt.irrefl _,fun x y z=>swo_ltInt.trans _ _ _,fun x y z=>swo_ltInt.ntrans _ _ _⟩
theorem VZ{x y:List Int}(hx:ok x)(hy:ok y):∃ c,BQ (x,y,())=some (c,())∧ilt c (0:Int)=lt x y:=by
 cases x with
 |nil=>exact absurd rfl hx
 |cons a x=>
  cases y with
  |nil=>exact absurd rfl hy
  |cons b y=>
   rw[ALj,YS]
   have i1:idx (a::x) (0:Int)=some a:=by rw[idx_eq];rfl
   have i2:idx (b::y) (0:Int)=some b:=by rw[idx_eq];rfl
   simp only[i1,i2,Gt,Ej,LN,LO]
   simp only[B9,Ai,lt,AmB,ltInt]
   by_cases h:a<b
   ·simp[h]
   ·by_cases h2:b<a
    ·simp[h,h2]
    ·simp[h,h2]
noncomputable def S:SG.SP (List Int):=⟨([]:List (Int)),BQ,ok,okz,Tk,lt,swo,fun h1 h2=>VZ h1 h2⟩
theorem KH(xs:List (List Int))(h:xs.length<4294967296)(hok:∀ x∈xs,ok x):∃ ys,AMW (xs,())=some (ys,())∧ys.Perm xs∧ys.Pairwise fun x y=>lt y x=false:=SG.KH S xs h hok
end Go.Pev.Pl.SL
end
end
section
namespace Go.Pev.Pl
abbrev Edge:=Int×Int×Unit
inductive Con(l:List Edge):Int→Int→Prop
 |refl (a:Int):Con l a a
 |edge (e:Edge):e∈l→Con l e.1 e.2.1
 |symm {a b:Int}:Con l a b→Con l b a
 |trans {a b c:Int}:Con l a b→Con l b c→Con l a c
theorem Con.mono{l l':List Edge}(h:∀ e∈l,∃ e'∈l',(e'.1=e.1∧e'.2.1=e.2.1)∨(e'.1=e.2.1∧e'.2.1=e.1)){a b:Int}(c:Con l a b):Con l' a b:=by
 induction c with
 |refl a=>exact .refl a
 |edge e he=>
  obtain⟨e',h1,h2|h2⟩:=h e he
  ·have:=Con.edge e' h1
   rw[h2.1,h2.2]at this
   exact this
  ·have:=Con.edge e' h1
   rw[h2.1,h2.2]at this
   exact this.symm
 |symm _ ih=>exact ih.symm
 |trans _ _ ih1 ih2=>exact ih1.trans ih2
theorem Con.snoc{l:List Edge}{e:Edge}{a b:Int}:Con (l++[e]) a b↔Con l a b∨(Con l a e.1∧Con l e.2.1 b)∨(Con l a e.2.1∧Con l e.1 b):=by
 constructor
 ·intro h
  induction h with
  |refl a=>exact .inl (.refl a)
  |edge e' he=>
   rcases AjL.1 he with h|h
   ·exact .inl (.edge e' h)
   ·simp only[Aje]at h
    subst h
    exact .inr (.inl ⟨.refl _,.refl _⟩)
  |symm _ ih=>
   rcases ih with h|⟨h1,h2⟩|⟨h1,h2⟩
   ·exact .inl h.symm
   ·exact .inr (.inr ⟨h2.symm,h1.symm⟩)
   ·exact .inr (.inl ⟨h2.symm,h1.symm⟩)
  |trans _ _ ih1 ih2=>
   rcases ih1 with h|⟨h1,h2⟩|⟨h1,h2⟩
   ·rcases ih2 with g|⟨g1,g2⟩|⟨g1,g2⟩
    ·exact .inl (h.trans g)
    ·exact .inr (.inl ⟨h.trans g1,g2⟩)
    ·exact .inr (.inr ⟨h.trans g1,g2⟩)
   ·rcases ih2 with g|⟨g1,g2⟩|⟨g1,g2⟩
    ·exact .inr (.inl ⟨h1,h2.trans g⟩)
    ·exact .inr (.inl ⟨h1,g2⟩)
    ·exact .inl (h1.trans g2)
   ·rcases ih2 with g|⟨g1,g2⟩|⟨g1,g2⟩
    ·exact .inr (.inr ⟨h1,h2.trans g⟩)
    ·exact .inl (h1.trans g2)
    ·exact .inr (.inr ⟨h1,g2⟩)
 ·have up:∀ {x y},Con l x y→Con (l++[e]) x y:=fun h=>h.mono fun e' he=>⟨e',by simp[he],.inl ⟨rfl,rfl⟩⟩
  have he:Con (l++[e]) e.1 e.2.1:=.edge e (by simp)
  rintro (h|⟨h1,h2⟩|⟨h1,h2⟩)
  ·exact up h
  ·exact(up h1).trans (he.trans (up h2))
  ·exact(up h1).trans (he.symm.trans (up h2))
theorem Con.nil{a b:Int}(h:Con [] a b):a=b:=by
 induction h with
 |refl a=>rfl
 |edge e he=>cases he
 |symm _ ih=>exact ih.symm
 |trans _ _ ih1 ih2=>exact ih1.trans ih2
theorem Con.within{l:List Edge}{I:Int→Prop}(h:∀ e∈l,I e.1∧I e.2.1){a b:Int}(c:Con l a b):a=b∨(I a∧I b):=by
 induction c with
 |refl a=>exact .inl rfl
 |edge e he=>exact .inr (h e he)
 |symm _ ih=>
  rcases ih with h|h
  ·exact .inl h.symm
  ·exact .inr ⟨h.2,h.1⟩
 |trans _ _ ih1 ih2=>
  rcases ih1 with rfl|h1
  ·exact ih2
  ·rcases ih2 with rfl|h2
   ·exact .inr h1
   ·exact .inr ⟨h1.1,h2.2⟩
theorem Con.const{l:List Edge}{f:Int→Int}(h:∀ e∈l,f e.1=f e.2.1){a b:Int}(c:Con l a b):f a=f b:=by
 induction c with
 |refl a=>rfl
 |edge e he=>exact h e he
 |symm _ ih=>exact ih.symm
 |trans _ _ ih1 ih2=>exact ih1.trans ih2
end Go.Pev.Pl
end
section
section
namespace Go.Pev.Pl
open Tok
def Ct{α:Type}(P:Nat→Bool):Nat→List α→List α
 |_,[]=>[]
 |i,x::xs=>if P i then Ct P (i+1) xs else x::Ct P (i+1) xs
theorem AP2{α:Type}(P:Nat→Bool):∀ (xs:List α) (s:Nat),(∀ k,s≤k→P k=false)→Ct P s xs=xs:=by
 intro xs
 induction xs with
 |nil=>intro s _;rfl
 |cons x xs ih=>
  intro s h
  rw[Ct,h s (AjR _),ih (s+1) fun k hk=>h k (by omega)]
  rfl
theorem AU6{α:Type}(P:Nat→Bool)(i:Nat):∀ (xs:List α) (s:Nat),s≤i→(∀ k,s≤k→P k=decide (k=i))→Ct P s xs=xs.eraseIdx (i-s):=by
 intro xs
 induction xs with
 |nil=>intro s _ _;rfl
 |cons x xs ih=>
  intro s hs h
  rw[Ct,h s (AjR _)]
  by_cases e:s=i
  ·subst e
   rw[AP2 P xs (s+1) fun k hk=>by rw[h k (by omega)];simp;omega]
   simp
  ·rw[ih (s+1) (by omega) fun k hk=>h k (by omega)]
   rw[AjF e,AjS (by simp),show i-s=(i-(s+1))+1 by omega,Alj]
theorem Lq{α:Type}(P:Nat→Bool)(i j:Nat)(hij:i<j):∀ (xs:List α) (s:Nat),s≤i→(∀ k,s≤k→P k=decide (k=i∨k=j))→Ct P s xs=(xs.eraseIdx (j-s)).eraseIdx (i-s):=by
 intro xs
 induction xs with
 |nil=>intro s _ _;rfl
 |cons x xs ih=>
  intro s hs h
  rw[Ct,h s (AjR _)]
  by_cases e:s=i
  ·subst e
   rw[AU6 P j xs (s+1) (by omega) fun k hk=>by rw[h k (by omega)];exact Akb.2 ⟨fun q=>by omega,fun q=>.inr q⟩]
   rw[AjG (.inl rfl),AjV rfl,show j-s=(j-(s+1))+1 by omega,Alj,Akj,List.eraseIdx_zero]
   rfl
  ·rw[ih (s+1) (by omega) fun k hk=>h k (by omega)]
   rw[AjF (by omega),AjS (by simp),show j-s=(j-(s+1))+1 by omega,Alj,show i-s=(i-(s+1))+1 by omega,Alj]
theorem AP3{α:Type}(P:Nat→Bool):∀ (xs:List α) (acc:List α) (k:Nat),(xs.foldl (fun(a:List α×Nat) x=>(if P a.2 then a.1 else a.1++[x],a.2+1)) (acc,k)).1=acc++Ct P k xs:=by
 intro xs
 induction xs with
 |nil=>intro acc k;simp[Ct]
 |cons x xs ih=>
  intro acc k
  rw[AkC,ih,Ct]
  cases P k<;>simp
theorem AU7{α:Type}(P:Nat→Bool):∀ (xs:List α) (k:Nat),(Ct P k xs).length≤xs.length∧∀ x∈Ct P k xs,x∈xs:=by
 intro xs
 induction xs with
 |nil=>intro k;simp[Ct]
 |cons x xs ih=>
  intro k
  obtain⟨h1,h2⟩:=ih (k+1)
  rw[Ct]
  split
  ·exact⟨by simp only[AjP];omega,fun y hy=>Ajj _ (h2 y hy)⟩
  ·refine⟨by simp only[AjP];omega,fun y hy => ?_⟩
   rcases AjN.1 hy with rfl|hy
   ·simp
   ·exact Ajj _ (h2 y hy)
theorem AFW(n:Int)(rings:List (List Int))(away:List Int)(come:List (List Int))(hlen:rings.length<1073741824)(ha:away.length<1073741824)(hc:come.length<1073741824)
  (hne:∀ l∈rings,l≠[]) (hce:∀ r∈come,plain r≠[]) :
  ∃ ys,ALv ((n,(rings,())),away,come,())=some (n,ys,())∧ys.Perm (Ct (fun k=>decide ((k:Int)∈away)) 0 rings++come.map plain)∧ys.Pairwise (fun a b=>¬ hd b<hd a):=by
 rw[ALu,YV]
 have e:=DZ (step:=Hl) (fun i (a:List (List Int)×Nat)=>(away,come,n,rings,(0:Int),a.1,rings,AI rings,(i:Int),())) rings
  (fun x a=>.inl (if decide ((a.2:Int)∈away)then a.1 else a.1++[x],a.2+1)) (fun a=>.inl (come,n,rings,(0:Int),a.1,())) (fun i a=>a.2=i∧a.1.length≤i) (by omega)
  (fun i x a hi hx ⟨h1,h2⟩=>by
   refine⟨fun m' h' => ?_,fun r h'=>by cases h'⟩
   cases h'
   subst h1
   rw[Hl,AL,AO,AjG hi]
   simp only[Ag hx,J5 away _ (show away.length<9223372036854775808 by omega)]
   rw[AN (by omega),BY (by simp only[AL,AjP,Ajh];omega)]
   by_cases h:(a.2:Int)∈away
   ·simp only[h,AjU,AjT,Ajs]
    exact⟨by trivial,by trivial,by omega⟩
   ·simp only[h,Aji,Ajw]
    exact⟨by trivial,by trivial,by simp;omega⟩)
  (fun a _=>by rw[Hl,AL,AO,AjF (by omega)]) ([],0) ⟨rfl,by simp⟩
 have e':AW Hl many (away,come,n,rings,(0:Int),[],rings,AI rings,(0:Int),())=_:=e
 rw[e',Bd]
 have hdf:(rings.foldl (fun(a:List (List Int)×Nat) x=>(if decide ((a.2:Int)∈away)then a.1 else a.1++[x],a.2+1)) ([],0)).1=Ct (fun k=>decide ((k:Int)∈away)) 0 rings:=by
  have:=AP3 (fun k=>decide ((k:Int)∈away)) rings [] 0
  rw[Ajv]at this
  exact this
 simp only[hdf]
 obtain⟨g1,g2⟩:=AU7 (fun k=>decide ((k:Int)∈away)) rings 0
 generalize Ct (fun k=>decide ((k:Int)∈away)) 0 rings=rest at *
 have f:=DZ (step:=Hk) (fun i (a:List (List Int))=>(n,rings,(0:Int),a,come,AI come,(i:Int),())) come
  (fun x a=>.inl (a++[plain x])) (fun a=>.inl (n,rings,(0:Int),a,())) (fun i a=>a.length=rest.length+i) (by omega)
  (fun i x a hi hx h1=>by
   refine⟨fun m' h' => ?_,fun r h'=>by cases h'⟩
   cases h'
   rw[Hk,AL,AO,AjG hi]
   simp only[Ag hx,ASG]
   rw[AN (by omega),BY (by simp only[AL,AjP,Ajh];omega)]
   exact⟨rfl,by simp;omega⟩)
  (fun a _=>by rw[Hk,AL,AO,AjF (by omega)]) rest rfl
 have f':AW Hk many (n,rings,(0:Int),rest,come,AI come,(0:Int),())=_:=f
 rw[f',Bd]
 have hfold:∀ (l acc:List (List Int)),l.foldl (fun a x=>a++[plain x]) acc=acc++l.map plain:=by
  intro l
  induction l with
  |nil=>intro acc;simp
  |cons x l ih=>intro acc;rw[AkC,ih];simp
 simp only[hfold]
 obtain⟨ys,y1,y2,y3⟩:=SL.KH (rest++come.map plain) (by simp;omega) (fun x hx=>by
  rcases AjL.1 hx with h|h
  ·exact hne x (g2 x h)
  ·obtain⟨r,hr,rfl⟩:=Ajc.1 h
   exact hce r hr)
 refine⟨ys,by simp only[y1],y2,y3.imp fun {a b} h => ?_⟩
 simp only[SL.lt,Go.Sort.ltInt,AkB]at h
 exact h
def AAl(rest:List (List Int))(p:List Int):List (List Int):=rest.take (rest.findIdx fun x => !decide (hd x<hd p))++p::rest.drop (rest.findIdx fun x => !decide (hd x<hd p))
theorem AF8(rest:List (List Int))(p:List Int):(AAl rest p).Perm (p::rest):=by
 rw[AAl]
 refine List.perm_middle.trans ?_
 rw[AkD]
theorem AWV{rest:List (List Int)}{p:List Int}(h:rest.Pairwise (fun a b=>hd a<hd b))(hne:∀ x∈rest,hd x≠hd p):(AAl rest p).Pairwise (fun a b=>hd a<hd b):=by
 rw[AAl]
 have hlt:∀ x∈rest.take (rest.findIdx fun x => !decide (hd x<hd p)),hd x<hd p:=by
  intro x hx
  obtain⟨j,hj,e⟩:=AlP.1 hx
  have:=List.not_of_lt_findIdx (p:=fun x => !decide (hd x<hd p)) (xs:=rest) (i:=j) (by omega)
  rw[e]at this
  simpa using this
 have hgt:∀ x∈rest.drop (rest.findIdx fun x => !decide (hd x<hd p)),hd p<hd x:=by
  intro x hx
  by_cases hk:(rest.findIdx fun x => !decide (hd x<hd p))<rest.length
  ·have h0:=Al4 (p:=fun x => !decide (hd x<hd p)) (xs:=rest) (w:=hk)
   rw[Aj7 hk]at hx
   have h1:¬ hd rest[rest.findIdx fun x => !decide (hd x<hd p)]<hd p:=by simpa using h0
   have h2:=hne _ (Akc hk)
   rcases AjN.1 hx with rfl|hx
   ·omega
   ·have hpw:(rest.drop (rest.findIdx fun x => !decide (hd x<hd p))).Pairwise (fun a b=>hd a<hd b):=h.sublist (List.drop_sublist _ _)
    rw[Aj7 hk,Aj9]at hpw
    have:=hpw.1 x hx
    omega
  ·rw[AkY (by omega)]at hx
   cases hx
 rw[Al2,Aj9]
 refine⟨h.sublist (List.take_sublist _ _),⟨hgt,h.sublist (List.drop_sublist _ _)⟩,fun a ha b hb => ?_⟩
 rcases AjN.1 hb with rfl|hb
 ·exact hlt a ha
 ·have:=hlt a ha
  have:=hgt b hb
  omega
theorem AW9{l:List Int}(h:l≠[]):idx l (0:Int)=some (hd l):=by
 cases l with
 |nil=>exact absurd rfl h
 |cons x l=>rw[EK];rfl
theorem Aeq(l:List Int):AU l 0 (0:Int)=hd l:=by cases l<;>rfl
end Go.Pev.Pl
end
section
namespace Go.Pev.Pl
open Tok
theorem ALH{n u v:Int}(h:okT n (.arc u v)):n≤EG n u v:=by rw[FT h];exact(Yq h.1 h.2.1).1
def BG(n:Int)(A B:List Int)(u v:Int):List Int:=u::EG n u v::(A7 B v++EG n v u::(A7 A u).tail)
theorem OE{n u v:Int}{A B:List Int}(hA:TI n A)(hB:TI n B)(hu:u∈A)(hv:v∈B)(iu:In n u)(iv:In n v)(hd:Dis n A B):
  TI n (BG n A B u v)∧A7 A u=u::(A7 A u).tail∧(∀ t,t<n→(t∈BG n A B u v↔t∈A∨t∈B))∧u≠v∧okT n (.arc u v):=by
 obtain⟨a,a1,a2,a3⟩:=AQe hA (t:=.ver u) iu hu
 obtain⟨b,b1,b2,b3⟩:=AQe hB (t:=.ver v) iv hv
 have a1':A7 A u=(Tok.ver u::a).map (Dm n):=a1
 have b1':A7 B v=(Tok.ver v::b).map (Dm n):=b1
 have huv:u≠v:=by rintro rfl;exact hd u hu iu.2.2.2 hv
 have ho:okT n (.arc u v):=⟨iu,iv,huv⟩
 have pA:=(Cf hu).perm
 have pB:=(Cf hv).perm
 have ht:A7 A u=u::(A7 A u).tail:=by rw[a1'];rfl
 have hall:BG n A B u v=(Tok.ver u :: .arc u v::(.ver v::b ++ .arc v u::a)).map (Dm n):=by
  rw[BG,a1',b1',FT ho,FT (FD ho)]
  simp[Dm]
 refine⟨⟨_,hall,fun t ht => ?_,T.join a2 b2 fun x hx hx2 => ?_⟩,ht,fun t ht2 => ?_,huv,ho⟩
 ·rcases AjN.1 ht with rfl|ht
  ·exact iu
  ·rcases AjN.1 ht with rfl|ht
   ·exact ho
   ·rcases AjL.1 ht with ht|ht
    ·exact b3 t ht
    ·rcases AjN.1 ht with rfl|ht
     ·exact FD ho
     ·exact a3 t (Ajj _ ht)
 ·have ix:=a3 _ hx
  have x1:x∈A:=pA.mem_iff.2 (by rw[a1'];exact Ajc.2 ⟨_,hx,rfl⟩)
  have x2:x∈B:=pB.mem_iff.2 (by rw[b1'];exact Ajc.2 ⟨_,hx2,rfl⟩)
  exact hd x x1 ix.2.2.2 x2
 ·have g1:=ALH ho
  have g2:=ALH (FD ho)
  have e1:t∈A↔t=u∨t∈(A7 A u).tail:=by rw[pA.mem_iff,ht,AjN,AlO]
  rw[BG,AjN,AjN,AjL,AjN,e1,← pB.mem_iff]
  constructor
  ·rintro (h|h|h|h|h)
   ·exact .inl (.inl h)
   ·omega
   ·exact .inr h
   ·omega
   ·exact .inl (.inr h)
  ·rintro ((h|h)|h)
   ·exact .inl h
   ·exact .inr (.inr (.inr (.inr h)))
   ·exact .inr (.inr (.inl h))
theorem Kg{n:Int}{a b:List (List Int)}(h:a.Perm b)(ha:a.Pairwise (Dis n)):b.Pairwise (Dis n):=(h.pairwise_iff fun {_ _} hh=>hh.symm).1 ha
theorem AXY{n:Int}{rings rest zs:List (List Int)}{A B p:List Int}(h:FR n rings)(hp:rings.Perm (A::B::rest))(hg:RG n p)(hm:∀ t,t<n→(t∈p↔t∈A∨t∈B))(hz:zs.Perm (p::rest))(hu:zs.Pairwise (fun a b=>hd a<hd b)):FR n zs:=by
 have hd0:=Kg hp h.dis
 rw[Aj9,Aj9]at hd0
 obtain⟨h1,h2,h3⟩:=hd0
 refine⟨h.sz,fun l hl => ?_,hu,Kg hz.symm ?_,fun v hv => ?_⟩
 ·rcases AjN.1 (hz.mem_iff.1 hl)with rfl|hl
  ·exact hg
  ·exact h.rg l (hp.mem_iff.2 (by simp[hl]))
 ·rw[Aj9]
  refine⟨fun r hr t ht htn => ?_,h3⟩
  rcases(hm t htn).1 ht with g|g
  ·exact h1 r (by simp[hr]) t g htn
  ·exact h2 r hr t g htn
 ·obtain⟨l,hl,hvl⟩:=h.cov v hv
  have:=hp.mem_iff.1 hl
  simp only[AjN]at this
  rcases this with rfl|rfl|g
  ·exact⟨p,hz.mem_iff.2 (by simp),(hm v hv.2.2.2).2 (.inl hvl)⟩
  ·exact⟨p,hz.mem_iff.2 (by simp),(hm v hv.2.2.2).2 (.inr hvl)⟩
  ·exact⟨l,hz.mem_iff.2 (by simp[g]),hvl⟩
theorem Hf(n:Int)(rings:List (List Int))(u v:Int)(hD:Dom rings):asked ((n,(rings,())),u,v,())=some (if RF n rings then if In n u∧In n v then 0 else 10 else 1,()):=by
 rw[AQV,Yu]
 simp only[PE n rings hD.1 hD.2,Ya]
 by_cases h:RF n rings
 ·by_cases h1:In n u
  ·by_cases h2:In n v<;>simp[h,h1,h2]
  ·simp[h,h1]
 ·simp[h]
theorem Ad9(a b:Nat):imax (a:Int) (b:Int)=((max a b:Nat):Int):=by rw[imax];split<;>omega
theorem Ad8(a b:Nat):CR (a:Int) (b:Int)=((min a b:Nat):Int):=by rw[CR];split<;>omega
theorem Agm{n:Int}{rings:List (List Int)}{u v:Int}{i j:Nat}{A B:List Int}(h:FR n rings)(iu:In n u)(iv:In n v)(hi:rings[i]? = some A)(hj:rings[j]? = some B)(hu:u∈A)(hv:v∈B)(hij:i≠j):
  ∃ zs rest,Mi ((n,(rings,())),u,v,())=some (n,zs,0,())∧FR n zs∧rings.Perm (A::B::rest)∧zs.Perm (plain (BG n A B u v)::rest)∧Dis n A B:=by
 have hD:=h.dom
 have hRF:=L0.2 h
 have rA:=h.rg A (AjW hi)
 have rB:=h.rg B (AjW hj)
 have hil:=(AkQ.1 hi).1
 have hjl:=(AkQ.1 hj).1
 have pu:plc rings u=(i:Int):=h.AI2 hi iu.2.2.2 hu
 have pv:plc rings v=(j:Int):=h.AI2 hj iv.2.2.2 hv
 have hperm:rings.Perm (A::B::(rings.eraseIdx (max i j)).eraseIdx (min i j)):=by
  rcases AmD hij with g|g
  ·rw[Alf (by omega),AkG (by omega)]
   exact JM g hi hj
  ·rw[Aln (by omega),Alg (by omega)]
   exact(JM g hj hi).trans (List.Perm.swap _ _ _)
 have hdis:Dis n A B:=by
  have:=Kg hperm h.dis
  rw[Aj9]at this
  exact this.1 B (by simp)
 obtain⟨l1,l2,l3,huv,ho⟩:=OE rA.2.2.2 rB.2.2.2 hu hv iu iv hdis
 obtain⟨hRG,hrot⟩:=ADt l1
 have hall:BG n A B u v=u::EG n u v::(A7 B v++EG n v u::(A7 A u).tail):=rfl
 have lA:(A7 A u).length≤1000:=by rw[← (Cf hu).perm.length_eq];exact rA.1.1
 have lB:(A7 B v).length≤1000:=by rw[← (Cf hv).perm.length_eq];exact rB.1.1
 have hsub:((rings.eraseIdx (max i j)).eraseIdx (min i j)).Sublist rings:=(Aly _ _).trans (Aly _ _)
 have hdrop:Ct (fun k=>decide ((k:Int)∈[(i:Int),(j:Int)])) 0 rings=(rings.eraseIdx (max i j)).eraseIdx (min i j):=by
  rcases AmD hij with g|g
  ·rw[Alf (by omega),AkG (by omega)]
   exact Lq _ i j g rings 0 (by omega) fun k _=>Akb.2 (by simp only[AjN,Ak7,Alp];omega)
  ·rw[Aln (by omega),Alg (by omega)]
   exact Lq _ j i g rings 0 (by omega) fun k _=>Akb.2 (by simp only[AjN,Ak7,Alp];omega)
 have hrl:((rings.eraseIdx (max i j)).eraseIdx (min i j)).length≤rings.length:=hsub.length_le
 generalize (rings.eraseIdx (max i j)).eraseIdx (min i j)=rest at *
 have hupr:rest.Pairwise (fun a b=>hd a<hd b):=h.up.sublist hsub
 have hner:∀ l∈rest,l≠[]:=fun l hl=>(h.rg l (hsub.subset hl)).2.1
 have hdd:=Kg hperm h.dis
 rw[Aj9,Aj9]at hdd
 have hheads:∀ x∈rest,hd x≠hd (plain (BG n A B u v)):=by
  intro x hx e
  have g1:=OT hRG
  have g2:=(l3 _ g1.2.2.2).1 (hrot.perm.mem_iff.2 (UQ hRG.2.1))
  have g3:hd (plain (BG n A B u v))∈x:=e▸UQ (hner x hx)
  rcases g2 with g|g
  ·exact hdd.1 x (by simp[hx]) _ g g1.2.2.2 g3
  ·exact hdd.2.1 x hx _ g g1.2.2.2 g3
 have hup:=AWV hupr hheads
 have hpz:=AF8 rest (plain (BG n A B u v))
 refine⟨AAl rest (plain (BG n A B u v)),rest,?_,AXY h hperm hRG (fun t ht=>by rw[← hrot.perm.mem_iff];exact l3 t ht) hpz hup,hperm,hpz,hdis⟩
 ·obtain⟨ys,y1,y2,y3⟩:=AFW n rings [(i:Int),(j:Int)] [BG n A B u v] hD.1 (by simp) (by simp) (fun l hl=>(h.rg l hl).2.1) (by simp;exact hRG.2.1)
  have hys:ys=AAl rest (plain (BG n A B u v)):=by
   refine Wh hup (y2.trans ?_) y3
   rw[hdrop]
   exact(Aky (l₁:=rest) (l₂:=[plain (BG n A B u v)])).trans hpz.symm
  rw[hys]at y1
  rw[Hs,HH]
  have s1:By (A7 A u) (0:Int) (1:Int)=some [u]:=by
   have:=AH2 (xs:=A7 A u) (l:=0) (h:=1) (by omega) (by rw[l2];simp)
   rw[l2]at this ⊢
   exact this
  have s2:By (A7 A u) (1:Int) (AI (A7 A u))=some (A7 A u).tail:=by
   have:=Da (xs:=A7 A u) (l:=1) (by rw[l2];simp)
   rw[AlK]at this
   exact this
  have d1:DY 0 (AK (AI [u])) (A7 A u)=[u]:=by rw[l2];rfl
  have d2:DY 1 (AK (AI (A7 A u).tail)) (A7 A u)=(A7 A u).tail:=by
   rw[DY,AL,J0,AlK,Akk]
  have hcat:JQ ([[u],[EG n u v],A7 B v,[EG n v u],(A7 A u).tail],())=some (BG n A B u v,()):=by
   rw[Nc _ (by simp) (by simp;omega)]
   simp[BG]
  have ne:((i:Int))≠(j:Int):=by omega
  simp only[Hf n rings u v hD,hRF,iu,iv,and_self,Ajs,Ar,Ho n rings _ hD.1 (fun l hl=>(hD.2 l hl).1),pu,pv,ne,AjU,Aji,AjT,Ag hi,Ag hj,AF4,JI,rA.1,rB.1,hu,hv,s1,s2,AMK,d1,d2,hcat,y1]
theorem AUB{n:Int}{rings:List (List Int)}{u v:Int}(h:FR n rings)(iu:In n u)(iv:In n v)(hp:plc rings u=plc rings v):
  Mi ((n,(rings,())),u,v,())=some (n,rings,5,()):=by
 have hD:=h.dom
 have hRF:=L0.2 h
 rw[Hs,HH]
 simp only[Hf n rings u v hD,hRF,iu,iv,and_self,Ajs,Ar,Ho n rings _ hD.1 (fun l hl=>(hD.2 l hl).1),hp,AjU,AjT]
end Go.Pev.Pl
end
section
namespace Go.Pev.Pl
open Tok
def QM(rings:List (List Int))(a b:Int):Prop:=∃ A∈rings,a∈A∧b∈A
structure FC(n:Int)(rings:List (List Int))(l:List Edge):Prop where
 fr:FR n rings
 sam:∀ a b,In n a→In n b→(QM rings a b↔Con l a b)
 arcs:∀ A∈rings,∀ u v,okT n (.arc u v)→EG n u v∈A→∃ e∈l,(e.1=u∧e.2.1=v)∨(e.1=v∧e.2.1=u)
theorem FR.AcS{n:Int}{rings:List (List Int)}(h:FR n rings){a b:Int}(ia:In n a)(ib:In n b):plc rings a=plc rings b↔QM rings a b:=by
 obtain⟨i,A,pa,hi,ha,_⟩:=Mt (h.cov a ia)
 obtain⟨j,B,pb,hj,hb,_⟩:=Mt (h.cov b ib)
 rw[pa,pb]
 constructor
 ·intro e
  have:i=j:=by omega
  subst this
  rw[hi]at hj
  cases hj
  exact⟨A,AjW hi,ha,hb⟩
 ·rintro⟨K,hK,h1,h2⟩
  obtain⟨k,hk⟩:∃ k:Nat,rings[k]? = some K:=by
   obtain⟨k,hk,rfl⟩:=Aku hK
   exact⟨k,AjM hk⟩
  rw[h.uniq hi hk ia.2.2.2 ha h1,h.uniq hj hk ib.2.2.2 hb h2]
theorem FR.one{n:Int}{rings:List (List Int)}(h:FR n rings){A B:List Int}(hA:A∈rings)(hB:B∈rings){v:Int}(iv:v<n)(h1:v∈A)(h2:v∈B):A=B:=by
 obtain⟨i,hi,rfl⟩:=Aku hA
 obtain⟨j,hj,rfl⟩:=Aku hB
 have:=h.uniq (AjM hi) (AjM hj) iv h1 h2
 subst this
 rfl
theorem QM.perm{a b:List (List Int)}(h:a.Perm b)(x y:Int):QM a x y↔QM b x y:=by
 constructor
 ·rintro⟨A,hA,h1⟩;exact⟨A,h.mem_iff.1 hA,h1⟩
 ·rintro⟨A,hA,h1⟩;exact⟨A,h.mem_iff.2 hA,h1⟩
theorem AZs{n u v x y:Int}{A B:List Int}(hA:TI n A)(hB:TI n B)(hu:u∈A)(hv:v∈B)(iu:In n u)(iv:In n v)(hd:Dis n A B)(ho:okT n (.arc x y))(h:EG n x y∈BG n A B u v):EG n x y∈A∨EG n x y∈B∨(x=u∧y=v)∨(x=v∧y=u):=by
 obtain⟨_,l2,_,huv,ho2⟩:=OE hA hB hu hv iu iv hd
 have pA:=(Cf hu).perm
 have pB:=(Cf hv).perm
 have g:=ALH ho
 rw[BG,AjN,AjN,AjL,AjN]at h
 rcases h with h|h|h|h|h
 ·have:=iu.2.2.2;omega
 ·rw[FT ho,FT ho2]at h
  have:=GZ ho ho2 h
  cases this
  exact .inr (.inr (.inl ⟨rfl,rfl⟩))
 ·exact .inr (.inl (pB.mem_iff.2 h))
 ·rw[FT ho,FT (FD ho2)]at h
  have:=GZ ho (FD ho2) h
  cases this
  exact .inr (.inr (.inr ⟨rfl,rfl⟩))
 ·refine .inl (pA.mem_iff.2 ?_)
  rw[l2]
  exact Ajj _ h
theorem AXZ{n:Int}{rings:List (List Int)}{l:List Edge}{e:Edge}(h:FC n rings l)(iu:In n e.1)(iv:In n e.2.1):
  ∃ zs q,Mi ((n,(rings,())),e.1,e.2.1,())=some (n,zs,q,())∧FC n zs (l++[e])∧(q=0∧zs.length+1=rings.length∨q=5∧zs=rings):=by
 have hF:=h.fr
 obtain⟨i,A,pu,hi,hu,_⟩:=Mt (hF.cov _ iu)
 obtain⟨j,B,pv,hj,hv,_⟩:=Mt (hF.cov _ iv)
 have mA:=AjW hi
 have mB:=AjW hj
 by_cases hij:i=j
 ·have hpe:plc rings e.1=plc rings e.2.1:=by rw[pu,pv,hij]
  refine⟨rings,5,AUB hF iu iv hpe,⟨hF,fun a b ia ib => ?_,fun A hA u v ho hm => ?_⟩,.inr ⟨rfl,rfl⟩⟩
  ·rw[h.sam a b ia ib,Con.snoc]
   have hc:Con l e.1 e.2.1:=(h.sam _ _ iu iv).1 ((hF.AcS iu iv).1 hpe)
   constructor
   ·exact .inl
   ·rintro (g|⟨g1,g2⟩|⟨g1,g2⟩)
    ·exact g
    ·exact g1.trans (hc.trans g2)
    ·exact g1.trans (hc.symm.trans g2)
  ·obtain⟨e',h1,h2⟩:=h.arcs A hA u v ho hm
   exact⟨e',by simp[h1],h2⟩
 ·obtain⟨zs,rest,q1,q3,q4,q5,q6⟩:=Agm hF iu iv hi hj hu hv hij
  have gA:=hF.rg A mA
  have gB:=hF.rg B mB
  obtain⟨l1,l2,l3,huv,ho⟩:=OE gA.2.2.2 gB.2.2.2 hu hv iu iv q6
  obtain⟨hRG,hrot⟩:=ADt l1
  have len1:=q4.length_eq
  have len2:=q5.length_eq
  simp only[AjP]at len1 len2
  refine⟨zs,0,q1,⟨q3,fun a b ia ib => ?_,fun K hK x y hxy hm => ?_⟩,.inl ⟨rfl,by omega⟩⟩
  ·rw[QM.perm q5,Con.snoc,← h.sam a b ia ib,← h.sam a _ ia iu,← h.sam _ b iv ib,← h.sam a _ ia iv,← h.sam _ b iu ib]
   have pmem:∀ x,In n x→(x∈plain (BG n A B e.1 e.2.1)↔x∈A∨x∈B):=fun x ix=>by rw[← hrot.perm.mem_iff];exact l3 x ix.2.2.2
   have sA:∀ x,In n x→(QM rings x e.1↔x∈A):=fun x ix=>by
    constructor
    ·rintro⟨K,hK,h1,h2⟩
     rw[hF.one mA hK iu.2.2.2 hu h2];exact h1
    ·intro hx;exact⟨A,mA,hx,hu⟩
   have sB:∀ x,In n x→(QM rings x e.2.1↔x∈B):=fun x ix=>by
    constructor
    ·rintro⟨K,hK,h1,h2⟩
     rw[hF.one mB hK iv.2.2.2 hv h2];exact h1
    ·intro hx;exact⟨B,mB,hx,hv⟩
   have sy:∀ x y,QM rings x y↔QM rings y x:=fun x y=>⟨fun ⟨K,a,b,c⟩=>⟨K,a,c,b⟩,fun ⟨K,a,b,c⟩=>⟨K,a,c,b⟩⟩
   rw[sA a ia,sB a ia,sy e.2.1 b,sB b ib,sy e.1 b,sA b ib]
   have hs:QM rings a b↔(a∈A∧b∈A)∨(a∈B∧b∈B)∨∃ K∈rest,a∈K∧b∈K:=by
    rw[QM.perm q4]
    simp only[QM,AjN,exists_eq_or_imp]
   have hz:QM (plain (BG n A B e.1 e.2.1)::rest) a b↔((a∈A∨a∈B)∧(b∈A∨b∈B))∨∃ K∈rest,a∈K∧b∈K:=by
    simp only[QM,AjN,exists_eq_or_imp,pmem a ia,pmem b ib]
   rw[hs,hz]
   constructor
   ·rintro (⟨h1|h1,h2|h2⟩|h)
    ·exact .inl (.inl ⟨h1,h2⟩)
    ·exact .inr (.inl ⟨h1,h2⟩)
    ·exact .inr (.inr ⟨h1,h2⟩)
    ·exact .inl (.inr (.inl ⟨h1,h2⟩))
    ·exact .inl (.inr (.inr h))
   ·rintro ((⟨h1,h2⟩|⟨h1,h2⟩|h)|⟨h1,h2⟩|⟨h1,h2⟩)
    ·exact .inl ⟨.inl h1,.inl h2⟩
    ·exact .inl ⟨.inr h1,.inr h2⟩
    ·exact .inr h
    ·exact .inl ⟨.inl h1,.inr h2⟩
    ·exact .inl ⟨.inr h1,.inl h2⟩
  ·have old:∀ K∈rings,EG n x y∈K→∃ e'∈l++[e],(e'.1=x∧e'.2.1=y)∨(e'.1=y∧e'.2.1=x):=fun K hK hm=>by
    obtain⟨e',h1,h2⟩:=h.arcs K hK x y hxy hm
    exact⟨e',by simp[h1],h2⟩
   rcases AjN.1 (q5.mem_iff.1 hK)with rfl|hK
   ·rcases AZs gA.2.2.2 gB.2.2.2 hu hv iu iv q6 hxy (hrot.perm.mem_iff.2 hm)with g|g|⟨g1,g2⟩|⟨g1,g2⟩
    ·exact old A mA g
    ·exact old B mB g
    ·exact⟨e,by simp,.inl ⟨g1.symm,g2.symm⟩⟩
    ·exact⟨e,by simp,.inr ⟨g2.symm,g1.symm⟩⟩
   ·exact old K (q4.mem_iff.2 (by simp[hK])) hm
theorem ADv{N:Nat}(h1:1≤N)(h2:N≤64):FC (N:Int) (BU N) []:=by
 have hS:∀ A∈BU N,∃ k:Nat,k<N∧A=[(k:Int)]:=fun A hA=>by
  simp only[BU,Ajc,AkP]at hA
  obtain⟨k,hk,rfl⟩:=hA
  exact⟨k,hk,rfl⟩
 have key:∀ k,k<N→In (N:Int) (k:Int):=fun k hk=>⟨by omega,by omega,by omega,by omega⟩
 refine⟨⟨⟨by omega,by omega⟩,fun l hl => ?_,?_,?_,fun v hv => ?_⟩,fun a b ia ib => ?_,fun A hA u v ho hm => ?_⟩
 ·obtain⟨k,hk,rfl⟩:=hS l hl
  refine⟨⟨by simp,fun x hx => ?_,by simp⟩,by simp,rfl,(AfL (N:Int) k).2 (key k hk)⟩
  simp only[Aje]at hx
  omega
 ·rw[BU,Ake]
  exact List.pairwise_lt_range.imp fun h=>by simp only[hd,AmB];omega
 ·rw[BU,Ake]
  exact List.pairwise_lt_range.imp fun {a b} h t ht _ ht2=>by
   simp only[Aje]at ht ht2
   omega
 ·obtain⟨k,rfl⟩:=AjO hv.2.2.1
  have:=hv.2.2.2
  exact⟨[(k:Int)],by simp only[BU,Ajc,AkP];exact⟨k,by omega,rfl⟩,by simp⟩
 ·constructor
  ·rintro⟨A,hA,h1,h2⟩
   obtain⟨k,_,rfl⟩:=hS A hA
   simp only[Aje]at h1 h2
   rw[h1,h2]
   exact .refl _
  ·intro hc
   have:=hc.nil
   subst this
   obtain⟨k,rfl⟩:=AjO ia.2.2.1
   have:=ia.2.2.2
   exact⟨[(k:Int)],by simp only[BU,Ajc,AkP];exact⟨k,by omega,rfl⟩,by simp,by simp⟩
 ·obtain⟨k,hk,rfl⟩:=hS A hA
  simp only[Aje]at hm
  have:=ALH ho
  omega
theorem AC4(l:List Edge)(hs:l.length<1073741824):ends (l,())=some (l.flatMap fun e=>[e.1,e.2.1],()):=by
 rw[AXM,AKh]
 have e:=DZ (step:=Lo) (fun i (a:List Int)=>(a,l,AI l,(i:Int),())) l (fun x a=>.inl (a++[x.1,x.2.1])) (fun a=>.inl (a,())) (fun i a=>a.length=2*i) (by omega)
  (fun i x a hi hx h1=>by
   refine⟨fun m' h' => ?_,fun r h'=>by cases h'⟩
   cases h'
   rw[Lo,AL,AO,AjG hi]
   simp only[Ag hx]
   rw[AN (by omega),BY (by simp only[AL,AjP,Ajh];omega)]
   exact⟨rfl,by simp;omega⟩)
  (fun a _=>by rw[Lo,AL,AO,AjF (by omega)]) [] rfl
 have e':AW Lo many ([],l,AI l,(0:Int),())=_:=e
 rw[e',Bd]
 have hf:∀ (xs:List Edge) (acc:List Int),xs.foldl (fun a x=>a++[x.1,x.2.1]) acc=acc++xs.flatMap fun e=>[e.1,e.2.1]:=by
  intro xs
  induction xs with
  |nil=>intro acc;simp
  |cons x xs ih=>intro acc;rw[AkC,ih,Akv];simp
 rw[hf]
 rfl
theorem APx(n:Int)(l:List Edge):((l.flatMap fun e=>[e.1,e.2.1]).all fun v=>decide (In n v))=l.all fun e=>decide (In n e.1∧In n e.2.1):=by
 induction l with
 |nil=>rfl
 |cons e l ih=>
  rw[Akv,List.all_append,List.all_cons,ih]
  simp
theorem APw(l:List Edge):(l.flatMap fun e=>[e.1,e.2.1]).length=2*l.length:=by
 induction l with
 |nil=>rfl
 |cons e l ih=>rw[Akv,AjQ,ih];simp;omega
theorem AT9{n:Int}(l:List Edge)(hs:l.length<1073741824)(ha:∀ e∈l,In n e.1∧In n e.2.1):
  ∀ (m i cnt:Nat) (rings:List (List Int)) (taken:List Bool),i+m=l.length→taken.length=i→FC n rings (l.take i)→m<cnt →
  ∃ zs taken',AY B4 cnt (n,rings,(0:Int),taken,l,(l.length:Int),(i:Int),())=some (.inl (n,zs,(0:Int),taken',()))∧FC n zs l∧taken'.length=l.length:=by
 intro m
 induction m with
 |zero=>
  intro i cnt rings taken hi ht h hc
  obtain⟨cnt,rfl⟩:∃ c,cnt=c+1:=⟨cnt-1,by omega⟩
  rw[AkE (by omega)]at h
  refine⟨rings,taken,?_,h,by omega⟩
  rw[AY,B4,AO,AjF (by omega)]
 |succ m ih=>
  intro i cnt rings taken hi ht h hc
  obtain⟨cnt,rfl⟩:∃ c,cnt=c+1:=⟨cnt-1,by omega⟩
  have hi':i<l.length:=by omega
  have hx:l[i]? = some l[i]:=AjM hi'
  obtain⟨iu,iv⟩:=ha _ (Akc hi')
  obtain⟨zs,q,e1,e2,_⟩:=AXZ h iu iv
  rw[AY,B4,AO,AjG hi']
  simp only[Ag hx,e1]
  rw[AN (by omega),BY (by simp only[AL,AjP,Ajh];omega)]
  rw[← Akn hi']at e2
  exact ih (i+1) cnt zs _ (by omega) (by simp[Cj,ht]) e2 (by omega)
theorem AXJ(k:Int)(l:List Edge)(hk:Sz k)(hs:l.length<1073741824):
  ((∀ e∈l,In k e.1∧In k e.2.1)∧∃ rings,fof (k,l,())=some ((k,(rings,())),0,())∧FC k rings l) ∨
  (¬ (∀ e∈l,In k e.1∧In k e.2.1)∧fof (k,l,())=some ((0,([],())),10,())):=by
 have hmany:9223372036854775808<many:=by simp only[many];omega
 rw[AUo,APj]
 have hm:HL k=(k,BU k.toNat,0,()):=by rw[HL,AjV hk]
 obtain⟨s1,s2⟩:=hk
 obtain⟨N,rfl⟩:=AjO (show 0≤k by omega)
 have h0:=ADv (N:=N) (by omega) (by omega)
 have hD:=h0.fr.dom
 have hRF:=L0.2 h0.fr
 have hfl:=APw l
 have hth:P6 (((N:Int),(BU N,())),l.flatMap fun e=>[e.1,e.2.1],())=some (if ∀ e∈l,In (N:Int) e.1∧In (N:Int) e.2.1 then 0 else 10,()):=by
  rw[ACd _ _ _ hD (by omega),APx,AQW,AjV hRF]
  by_cases ha:∀ e∈l,In (N:Int) e.1∧In (N:Int) e.2.1
  ·rw[AjV ha,AjV (Ajf.2 fun e he=>AjG (ha e he))]
  ·rw[AjS ha,AjS]
   intro hc
   exact ha fun e he=>AlE (Ajf.1 hc e he)
 simp only[AFi,hm,AkA,Dj,AjT]
 rw[UX,NQ,NU,IU]
 by_cases ha:∀ e∈l,In (N:Int) e.1∧In (N:Int) e.2.1
 ·refine .inl ⟨ha,?_⟩
  rw[AjV ha]at hth
  obtain⟨zs,taken,e1,e2,_⟩:=AT9 l hs ha l.length 0 many (BU N) [] (by omega) rfl (by rw[List.take_zero];exact h0) (by omega)
  have e1':AY B4 many ((N:Int),BU N,(0:Int),[],l,(l.length:Int),(0:Int),())=_:=e1
  simp only[AC4 l hs,hth,Dj,AjT,An,AL,e1']
  exact⟨zs,rfl,e2⟩
 ·refine .inr ⟨ha,?_⟩
  rw[AjS ha]at hth
  simp only[AC4 l hs,hth,Ar]
  rfl
end Go.Pev.Pl
end
section
namespace Go.Pev.Pl
open Tok
def cl(out:List Int)(v:Int):Int:=out.getD v.toNat 0
def CI(N:Nat)(l:List Edge)(out:List Int):Prop:=out.length=N∧∀ k,k<N→0≤out.getD k 0∧out.getD k 0≤(k:Int)∧Con l (k:Int) (out.getD k 0)
theorem AV2:∀ (l:List Int) (k:Nat) (x:Int),k<l.length→(l.set k x).sum=l.sum-l.getD k 0+x:=by
 intro l
 induction l with
 |nil=>intro k x h;simp at h
 |cons y l ih=>
  intro k x h
  cases k with
  |zero=>simp;omega
  |succ k=>
   have:=ih k x (by simpa using h)
   simp only[List.set_cons_succ,List.sum_cons,List.getD_cons_succ,this]
   omega
theorem PH{N:Nat}{l:List Edge}{out:List Int}(h:CI N l out)(hN:N≤64):0≤out.sum∧out.sum≤4096:=by
 obtain⟨h1,h2⟩:=h
 have key:∀ (xs:List Int),(∀ x∈xs,0≤x∧x≤64)→0≤xs.sum∧xs.sum≤64*(xs.length:Int):=by
  intro xs
  induction xs with
  |nil=>intro _;simp
  |cons x xs ih=>
   intro h
   have h3:=ih fun y hy=>h y (Ajj _ hy)
   have h4:=h x (by simp)
   simp only[List.sum_cons,AjP]
   omega
 have:=key out fun x hx=>by
  obtain⟨k,hk,rfl⟩:=Aku hx
  have h5:=h2 k (by omega)
  rw[AjK,AjM hk,Aju]at h5
  omega
 omega
theorem Aiq(N:Nat)(l:List Edge)(hs:l.length<1073741824)(ha:∀ e∈l,In (N:Int) e.1∧In (N:Int) e.2.1):
  ∀ (m i cnt:Nat) (out:List Int) (more:Bool),i+m=l.length→CI N l out→m<cnt →
  ∃ out' more',AY DE cnt ((N:Int),l,out,more,(i:Int),())=some (.inl ((N:Int),l,out',more',()))∧CI N l out' ∧
   ((more'=more∧out'=out∧∀ e∈l.drop i,cl out e.1=cl out e.2.1)∨(more'=true∧out'.sum<out.sum)):=by
 intro m
 induction m with
 |zero=>
  intro i cnt out more hi h hc
  obtain⟨cnt,rfl⟩:∃ c,cnt=c+1:=⟨cnt-1,by omega⟩
  refine⟨out,more,?_,h,.inl ⟨rfl,rfl,?_⟩⟩
  ·rw[AY,DE,AL,AO,AjF (by omega)]
  ·rw[AkY (by omega)]
   intro e he;cases he
 |succ m ih=>
  intro i cnt out more hi h hc
  obtain⟨cnt,rfl⟩:∃ c,cnt=c+1:=⟨cnt-1,by omega⟩
  have hi':i<l.length:=by omega
  have hx:l[i]? = some l[i]:=AjM hi'
  have hm:=Akc hi'
  have hdr:l.drop i=l[i]::l.drop (i+1):=Aj7 hi'
  rw[AY,DE,AL,AO,AjG hi']
  simp only[Ag hx]
  rw[hdr,AN (by omega)]
  generalize l[i]=e at *
  obtain⟨iu,iv⟩:=ha e hm
  have hcon:=Con.edge e hm
  obtain⟨eu,ev,eu'⟩:=e
  simp only at iu iv hcon ⊢
  obtain⟨u,rfl⟩:=AjO iu.2.2.1
  obtain⟨v,rfl⟩:=AjO iv.2.2.1
  have hu:u<N:=by have:=iu.2.2.2;omega
  have hv:v<N:=by have:=iv.2.2.2;omega
  have hul:u<out.length:=by rw[h.1];exact hu
  have hvl:v<out.length:=by rw[h.1];exact hv
  rw[Ai,AjF (by omega)]
  simp only[]
  rw[Ai,AjF (by omega)]
  simp only[]
  rw[Ax,AjF (by omega)]
  simp only[]
  rw[Ax,AjF (by omega)]
  simp only[Cc (0:Int) hul,Cc (0:Int) hvl,Eg,ADA,Ar]
  by_cases hq:out.getD u 0=out.getD v 0
  ·rw[AjG hq]
   obtain⟨out',more',e1,e2,e3⟩:=ih (i+1) cnt out more (by omega) h (by omega)
   refine⟨out',more',e1,e2,?_⟩
   rcases e3 with⟨g1,g2,g3⟩|g
   ·refine .inl ⟨g1,g2,fun e' he' => ?_⟩
    rcases AjN.1 he' with rfl|he'
    ·simpa [cl]using hq
    ·exact g3 e' he'
   ·exact .inr g
  ·rw[AjF hq]
   have hne:u≠v:=by rintro rfl;exact hq rfl
   have hlow:CR (out.getD u 0) (out.getD v 0)=if out.getD v 0<out.getD u 0 then out.getD v 0 else out.getD u 0:=rfl
   generalize hlw:CR (out.getD u 0) (out.getD v 0)=low at *
   have hvl2:v<(out.set u low).length:=by simp;exact hvl
   simp only[Cc (0:Int) hvl2]
   have cu:=h.2 u hu
   have cv:=h.2 v hv
   have hset:∀ k,k<N→((out.set u low).set v low).getD k 0=if k=u∨k=v then low else out.getD k 0:=by
    intro k hk
    have hkl:k<out.length:=by rw[h.1];exact hk
    by_cases k2:k=v
    ·subst k2
     simp[AjK,hkl]
    ·by_cases k1:k=u
     ·subst k1
      rw[AjV (.inl rfl),AjK,Aj4 (Ajz k2)]
      simp[hkl]
     ·rw[AjS (by omega),AjK,Aj4 (Ajz k2),Aj4 (Ajz k1),AjK]
   have hlc:0≤low∧low≤(u:Int)∧low≤(v:Int)∧Con l (u:Int) low:=by
    rw[hlow]
    split
    ·exact⟨cv.1,by omega,cv.2.1,hcon.trans cv.2.2⟩
    ·exact⟨cu.1,cu.2.1,by omega,cu.2.2⟩
   have hI:CI N l ((out.set u low).set v low):=by
    refine⟨by simp[h.1],fun k hk => ?_⟩
    rw[hset k hk]
    split
    ·rename_i hkk
     rcases hkk with rfl|rfl
     ·exact⟨hlc.1,hlc.2.1,hlc.2.2.2⟩
     ·exact⟨hlc.1,hlc.2.2.1,hcon.symm.trans hlc.2.2.2⟩
    ·exact h.2 k hk
   have hsum:((out.set u low).set v low).sum<out.sum:=by
    rw[AV2 _ _ _ hvl2,AV2 _ _ _ hul]
    have:(out.set u low).getD v 0=out.getD v 0:=by
     rw[AjK,Aj4 hne,← AjK]
    rw[this,hlow]
    split<;>omega
   obtain⟨out',more',e1,e2,e3⟩:=ih (i+1) cnt _ true (by omega) hI (by omega)
   refine⟨out',more',e1,e2,.inr ?_⟩
   rcases e3 with⟨g1,g2,_⟩|⟨g1,g2⟩
   ·exact⟨g1,by rw[g2];exact hsum⟩
   ·exact⟨g1,by omega⟩
theorem Ahx(N:Nat)(hN:N≤64)(l:List Edge)(hs:l.length<1073741824)(ha:∀ e∈l,In (N:Int) e.1∧In (N:Int) e.2.1):
  ∀ (m cnt:Nat) (out:List Int),out.sum.toNat=m→CI N l out→m+1<cnt →
  ∃ out',AY D9 cnt ((N:Int),l,out,true,())=some (.inl (out',()))∧CI N l out'∧∀ e∈l,cl out' e.1=cl out' e.2.1:=by
 have hmany:9223372036854775808<many:=by simp only[many];omega
 intro m
 induction m using Nat.strongRecOn with
 |_ m ih=>
 intro cnt out hm h hc
 obtain⟨cnt,rfl⟩:∃ c,cnt=c+1:=⟨cnt-1,by omega⟩
 rw[AY,D9]
 obtain⟨out',more',e1,e2,e3⟩:=Aiq N l hs ha l.length 0 many out false (by omega) h (by omega)
 have e1':AY DE many ((N:Int),l,out,false,(0:Int),())=_:=e1
 simp only[An,e1']
 rcases e3 with⟨g1,g2,g3⟩|⟨g1,g2⟩
 ·subst g1 g2
  obtain⟨cnt,rfl⟩:∃ c,cnt=c+1:=⟨cnt-1,by omega⟩
  rw[AY,D9]
  exact⟨_,rfl,e2,by simpa using g3⟩
 ·subst g1
  have b1:=PH h hN
  have b2:=PH e2 hN
  exact ih out'.sum.toNat (by omega) cnt out' rfl e2 (by omega)
structure MY(n:Int)(l:List Edge)(out:List Int):Prop where
 len:(out.length:Int)=n
 same:∀ a b,In n a→In n b→(cl out a=cl out b↔Con l a b)
 isin:∀ a,In n a→In n (cl out a)
 con:∀ a,In n a→Con l a (cl out a)
 least:∀ a b,In n a→In n b→Con l a b→cl out a≤b
theorem DS(n:Int)(l:List Edge)(hn:Sz n)(hs:l.length<1073741824)(ha:∀ e∈l,In n e.1∧In n e.2.1):∃ out,DT (n,l,())=some (out,())∧MY n l out:=by
 have hmany:9223372036854775808<many:=by simp only[many];omega
 obtain⟨s1,s2⟩:=hn
 obtain⟨N,rfl⟩:=AjO (show 0≤n by omega)
 rw[R0,JR]
 have key:∀ (m k cnt:Nat),k+m=N→m<cnt→AY DF cnt ((N:Int),l,(List.range k).map (fun(k:Nat)=>(k:Int)),(k:Int),())=some (.inl ((N:Int),l,(List.range N).map (fun(k:Nat)=>(k:Int)),())):=by
  intro m
  induction m with
  |zero=>
   intro k cnt hk hc
   obtain⟨cnt,rfl⟩:∃ c,cnt=c+1:=⟨cnt-1,by omega⟩
   have:k=N:=by omega
   subst this
   rw[AY,DF,AO,AjF (by omega)]
  |succ m ih=>
   intro k cnt hk hc
   obtain⟨cnt,rfl⟩:∃ c,cnt=c+1:=⟨cnt-1,by omega⟩
   have hih:=ih (k+1) cnt (by omega) (by omega)
   rw[Aki,Aks]at hih
   rw[AY,DF,AO,AjG (by omega)]
   simp only[]
   rw[AN (by omega),BY (by simp only[AL,AjP,Ajh,AkM,Ajx];omega)]
   exact hih
 have e0:=key N 0 many (by omega) (by omega)
 have e0':AY DF many ((N:Int),l,[],(0:Int),())=_:=e0
 have h0:CI N l ((List.range N).map (fun(k:Nat)=>(k:Int))):=by
  refine⟨by simp,fun k hk => ?_⟩
  have:((List.range N).map (fun(k:Nat)=>(k:Int))).getD k 0=(k:Int):=by simp[AjK,hk]
  rw[this]
  exact⟨by omega,by omega,.refl _⟩
 have hb:=PH h0 (by omega)
 obtain⟨out,e1,e2,e3⟩:=Ahx N (by omega) l hs ha _ many _ rfl h0 (by omega)
 simp only[An,e0',e1]
 have fact:∀ a,In (N:Int) a→0≤cl out a∧cl out a≤a∧Con l a (cl out a):=by
  intro a hia
  obtain⟨k,rfl⟩:=AjO hia.2.2.1
  have:=e2.2 k (by have:=hia.2.2.2;omega)
  simpa [cl]using this
 refine⟨out,rfl,by rw[e2.1],fun a b ia ib=>⟨fun h => ?_,fun h=>h.const e3⟩,fun a ia => ?_,fun a ia=>(fact a ia).2.2,fun a b ia ib h => ?_⟩
 ·have h1:=(fact a ia).2.2
  have h2:=(fact b ib).2.2
  rw[← h]at h2
  exact h1.trans h2.symm
 ·have:=fact a ia
  have h3:=ia.2.2.2
  exact⟨s1,s2,by omega,by omega⟩
 ·have h1:cl out a=cl out b:=h.const e3
  have:=(fact b ib).2.1
  omega
end Go.Pev.Pl
end
end
section
namespace Go.Pev.Pl
def Low(l:List Edge)(k:Nat):Prop:=∀ j:Nat,j<k→¬ Con l (j:Int) (k:Int)
noncomputable def Ads(l:List Edge)(k:Nat):Bool:=@decide (Low l k) (Classical.propDecidable _)
theorem IE(l:List Edge)(k:Nat):Ads l k=true↔Low l k:=by
 unfold Ads
 exact @decide_eq_true_iff _ (Classical.propDecidable _)
noncomputable def cc(N:Nat)(l:List Edge):Nat:=(List.range N).countP (Ads l)
noncomputable def CK(l:List Edge)(a b:Int):Bool:=@decide (Con l a b) (Classical.propDecidable _)
theorem BC(l:List Edge)(a b:Int):CK l a b=true↔Con l a b:=by
 unfold CK
 exact @decide_eq_true_iff _ (Classical.propDecidable _)
theorem DD(l:List Edge)(a b:Int):CK l a b=false↔¬ Con l a b:=by
 rw[← BC];cases CK l a b<;>simp
theorem Con.sub{l l':List Edge}(h:∀ e∈l,e∈l'){a b:Int}(c:Con l a b):Con l' a b:=c.mono fun e he=>⟨e,h e he,.inl ⟨rfl,rfl⟩⟩
theorem Con.cut{l l':List Edge}(h:∀ e∈l,Con l' e.1 e.2.1){a b:Int}(c:Con l a b):Con l' a b:=by
 induction c with
 |refl a=>exact .refl a
 |edge e he=>exact h e he
 |symm _ ih=>exact ih.symm
 |trans _ _ ih1 ih2=>exact ih1.trans ih2
theorem Adr(l:List Edge):∀ v:Nat,∃ m:Nat,m≤v∧Con l (m:Int) (v:Int)∧Low l m:=by
 intro v
 induction v using Nat.strongRecOn with
 |ind v ih=>
  by_cases h:Low l v
  ·exact⟨v,AjR _,.refl _,h⟩
  ·have:∃ j:Nat,j<v∧Con l (j:Int) (v:Int):=Aj6 fun hn=>h fun j hj hc=>hn ⟨j,hj,hc⟩
   obtain⟨j,hj,hc⟩:=this
   obtain⟨m,h1,h2,h3⟩:=ih j hj
   exact⟨m,by omega,h2.trans hc,h3⟩
theorem Low.le{l:List Edge}{m j:Nat}(h:Low l m)(hc:Con l (m:Int) (j:Int)):m≤j:=by
 refine Nat.le_of_not_lt fun hj=>h j hj hc.symm
theorem Low.uniq{l:List Edge}{a b:Nat}(ha:Low l a)(hb:Low l b)(h:Con l (a:Int) (b:Int)):a=b:=by
 have:=ha.le h
 have:=hb.le h.symm
 omega
theorem Ae4{N:Nat}{l l':List Edge}(h:∀ j k:Nat,j<N→k<N→(Con l (j:Int) (k:Int)↔Con l' (j:Int) (k:Int))):cc N l=cc N l':=by
 unfold cc
 refine List.countP_congr fun k hk => ?_
 have hk:k<N:=by simpa using hk
 rw[IE,IE]
 constructor
 ·intro q j hj hc;exact q j hj ((h j k (by omega) hk).2 hc)
 ·intro q j hj hc;exact q j hj ((h j k (by omega) hk).1 hc)
theorem ADc{N:Nat}{l l':List Edge}(h:∀ a b,Con l a b↔Con l' a b):cc N l=cc N l':=Ae4 fun _ _ _ _=>h _ _
theorem AKp{l l':List Edge}(h:∀ e,e∈l↔e∈l'){a b:Int}:Con l a b↔Con l' a b:=⟨fun c=>c.sub fun e he=>(h e).1 he,fun c=>c.sub fun e he=>(h e).2 he⟩
theorem AhP{N:Nat}{l l':List Edge}(h:l.Perm l'):cc N l=cc N l':=ADc fun _ _=>AKp fun _=>h.mem_iff
theorem Aif(N:Nat):cc N []=N:=by
 unfold cc
 have:(List.range N).countP (Ads [])=(List.range N).length:=by
  rw[List.countP_eq_length]
  intro k _
  rw[IE]
  intro j hj hc
  have:=hc.nil
  omega
 rw[this,Ajx]
theorem ADG{P:Nat→Bool}{M:Nat}(hM:P M=true):∀ {xs:List Nat},xs.Nodup→M∈xs→xs.countP P=xs.countP (fun k=>P k && !decide (k=M))+1:=by
 intro xs
 induction xs with
 |nil=>intro _ h;cases h
 |cons x xs ih=>
  intro hn h
  rw[Ajr]at hn
  rw[Alh,Alh]
  by_cases hx:x=M
  ·subst hx
   have:xs.countP P=xs.countP (fun k=>P k && !decide (k=x)):=by
    refine List.countP_congr fun k hk => ?_
    have:k≠x:=fun e=>hn.1 (e▸hk)
    simp[this]
   simp[hM,this]
  ·have:=ih hn.2 (by rcases AjN.1 h with h|h;exact absurd h.symm hx;exact h)
   rw[this]
   simp[hx]
   omega
def InE(N:Nat)(e:Edge):Prop:=(0≤e.1∧e.1<(N:Int))∧(0≤e.2.1∧e.2.1<(N:Int))
theorem AQB{l:List Edge}{e:Edge}(h:Con l e.1 e.2.1){a b:Int}:Con (l++[e]) a b↔Con l a b:=
 ⟨fun c=>c.cut fun x hx=>by
  rcases AjL.1 hx with hx|hx
  ·exact .edge x hx
  ·rw[Aje]at hx;subst hx;exact h,fun c=>c.sub fun x hx=>AjL.2 (.inl hx)⟩
theorem AXR{N:Nat}{l:List Edge}{e:Edge}(he:InE N e):cc N l=cc N (l++[e])+(if CK l e.1 e.2.1=true then 0 else 1):=by
 by_cases h:Con l e.1 e.2.1
 ·rw[AjV ((BC _ _ _).2 h),Akq]
  exact ADc fun a b=>(AQB h).symm
 ·rw[AjS (fun hh=>h ((BC _ _ _).1 hh))]
  obtain⟨⟨a1,a2⟩,b1,b2⟩:=he
  obtain⟨u,hu⟩:=AjO a1
  obtain⟨v,hv⟩:=AjO b1
  have hsn:∀ {a b:Int},Con (l++[e]) a b↔Con l a b∨(Con l a (u:Int)∧Con l (v:Int) b)∨(Con l a (v:Int)∧Con l (u:Int) b):=by
   intro a b
   rw[Con.snoc,hu,hv]
  rw[hu,hv]at h
  obtain⟨p,p1,p2,p3⟩:=Adr l u
  obtain⟨q,q1,q2,q3⟩:=Adr l v
  have hpq:p≠q:=fun e=>h (p2.symm.trans (e▸q2))
  have hlow:∀ k:Nat,Low (l++[e]) k↔Low l k∧k≠max p q:=by
   intro k
   constructor
   ·intro hk
    refine⟨fun j hj hc=>hk j hj (hsn.2 (.inl hc)),fun e => ?_⟩
    refine hk (min p q) (by omega) (hsn.2 ?_)
    by_cases hlt:p<q
    ·rw[e,AkG (by omega),Alf (by omega)]
     exact .inr (.inl ⟨p2,q2.symm⟩)
    ·rw[e,Alg (by omega),Aln (by omega)]
     exact .inr (.inr ⟨q2,p2.symm⟩)
   ·rintro⟨hk,hne⟩ j hj hc
    rcases hsn.1 hc with hc|⟨c1,c2⟩|⟨c1,c2⟩
    ·exact hk j hj hc
    ·have e1:=q3.uniq hk (q2.trans c2)
     have e2:=p3.le (p2.trans c1.symm)
     omega
    ·have e1:=p3.uniq hk (p2.trans c2)
     have e2:=q3.le (q2.trans c1.symm)
     omega
  have hM:Ads l (max p q)=true:=by
   rw[IE]
   by_cases hlt:p<q
   ·rw[Alf (by omega)];exact q3
   ·rw[Aln (by omega)];exact p3
  unfold cc
  rw[ADG hM AmW (by rw[AkP];omega)]
  congr 1
  refine List.countP_congr fun k _ => ?_
  rw[IE,hlow,AjJ,IE]
  simp
noncomputable def gfl:List Edge→List Edge→List Bool
 |_,[]=>[]
 |b,x::xs=>(!CK b x.1 x.2.1)::gfl (b++[x]) xs
noncomputable def MX:List Edge→List Edge→List Edge
 |_,[]=>[]
 |b,x::xs=>if CK b x.1 x.2.1=true then MX (b++[x]) xs else x::MX (b++[x]) xs
theorem AhC:∀ (xs b:List Edge),(gfl b xs).length=xs.length:=by
 intro xs
 induction xs with
 |nil=>intro b;rfl
 |cons x xs ih=>intro b;rw[gfl,AjP,AjP,ih]
theorem APY:∀ (xs b:List Edge),(MX b xs).Sublist xs:=by
 intro xs
 induction xs with
 |nil=>intro b;exact List.Sublist.refl _
 |cons x xs ih=>
  intro b
  rw[MX]
  split
  ·exact(ih _).cons x
  ·exact(ih _).cons_cons x
theorem ADS:∀ (xs b:List Edge) {a c:Int},Con (b++xs) a c↔Con (b++MX b xs) a c:=by
 intro xs
 induction xs with
 |nil=>intro b a c;rfl
 |cons x xs ih=>
  intro b a c
  have e1:b++x::xs=(b++[x])++xs:=by simp
  rw[e1,ih,MX]
  by_cases h:Con b x.1 x.2.1
  ·rw[AjV ((BC _ _ _).2 h)]
   constructor
   ·intro q
    refine q.cut fun y hy => ?_
    rcases AjL.1 hy with hy|hy
    ·rcases AjL.1 hy with hy|hy
     ·exact .edge y (AjL.2 (.inl hy))
     ·rw[Aje]at hy;subst hy
      exact h.sub fun z hz=>AjL.2 (.inl hz)
    ·exact .edge y (AjL.2 (.inr hy))
   ·intro q
    refine q.sub fun y hy => ?_
    rcases AjL.1 hy with hy|hy
    ·simp[hy]
    ·simp[hy]
  ·rw[AjS (fun hh=>h ((BC _ _ _).1 hh))]
   exact AKp fun y=>by simp
theorem OQ{N:Nat}:∀ (xs b:List Edge),(∀ e∈xs,InE N e)→cc N b=cc N (b++xs)+(MX b xs).length:=by
 intro xs
 induction xs with
 |nil=>intro b _;simp[MX]
 |cons x xs ih=>
  intro b h
  have e1:b++x::xs=(b++[x])++xs:=by simp
  rw[AXR (h x (by simp)),ih (b++[x]) (fun e he=>h e (by simp[he])),e1,MX]
  by_cases hc:CK b x.1 x.2.1=true
  ·rw[AjV hc,AjV hc,Akq]
  ·rw[AjS hc,AjS hc,AjP]
   omega
theorem Ahk{N:Nat}(xs b:List Edge)(h:∀ e∈xs,InE N e):cc N b≤cc N (b++xs)+xs.length:=by
 have:=OQ xs b h
 have:=(APY xs b).length_le
 omega
def Fo(N:Nat)(l:List Edge):Prop:=cc N l+l.length=N
theorem Fo.perm{N:Nat}{l l':List Edge}(h:Fo N l)(hp:l.Perm l'):Fo N l':=by
 unfold Fo at *
 rw[← AhP hp,← hp.length_eq];exact h
theorem Ae5{N:Nat}(l:List Edge)(h:∀ e∈l,InE N e):N≤cc N l+l.length:=by
 have:=Ahk l [] h
 rw[Aif,Ajv]at this
 exact this
theorem Fo.front{N:Nat}{a b:List Edge}(h:Fo N (a++b))(ha:∀ e∈a,InE N e)(hb:∀ e∈b,InE N e):Fo N a:=by
 unfold Fo at *
 have h1:=Ae5 a ha
 have h2:=Ahk b a hb
 rw[AjQ]at h
 omega
theorem Acs{α:Type}{a l:List α}(h:a.Sublist l):∃ r,l.Perm (a++r):=by
 induction h with
 |slnil=>exact⟨[],List.Perm.refl _⟩
 |@cons a l x _ ih=>
  obtain⟨r,hr⟩:=ih
  exact⟨x::r,(hr.cons x).trans (List.perm_middle.symm)⟩
 |@cons_cons a l x _ ih=>
  obtain⟨r,hr⟩:=ih
  exact⟨r,hr.cons x⟩
theorem Fo.sub{N:Nat}{a l:List Edge}(h:Fo N l)(hs:a.Sublist l)(hl:∀ e∈l,InE N e):Fo N a:=by
 obtain⟨r,hr⟩:=Acs hs
 exact(h.perm hr).front (fun e he=>hl e (hr.mem_iff.2 (AjL.2 (.inl he)))) (fun e he=>hl e (hr.mem_iff.2 (AjL.2 (.inr he))))
theorem Fo.MX{N:Nat}{b xs:List Edge}(h:Fo N (b++xs))(hb:∀ e∈b,InE N e)(hx:∀ e∈xs,InE N e):MX b xs=xs:=by
 have h1:=OQ xs b hx
 have h2:=h.front hb hx
 unfold Fo at *
 rw[AjQ]at h
 exact(APY xs b).eq_of_length (by omega)
end Go.Pev.Pl
end
section
namespace Go.Pev.Pl
abbrev Tie:=Int×Int×Int×Bool×Unit
abbrev zT:Tie:=(0,0,0,false,())
def ahead(p x:Tie):Prop:=p.1<x.1∨(p.1=x.1∧p.2.1<x.2.1)
instance (p x:Tie):Decidable (ahead p x):=inferInstanceAs (Decidable (_∨_))
def ed(t:Tie):Edge:=(t.1,t.2.1,())
def trk(ts:List Tie)(k:Int):List Edge:=(ts.filter fun t=>t.2.2.2.1&&decide (k≤t.2.2.1)).map ed
theorem DA{ts:List Tie}{k:Int}{e:Edge}:e∈trk ts k↔∃ t∈ts,t.2.2.2.1=true∧k≤t.2.2.1∧ed t=e:=by
 unfold trk
 simp only[Ajc,Ajp,AjJ,AjI]
 constructor
 ·rintro⟨t,⟨h1,h2,h3⟩,h4⟩;exact⟨t,h1,h2,h3,h4⟩
 ·rintro⟨t,h1,h2,h3,h4⟩;exact⟨t,⟨h1,h2,h3⟩,h4⟩
theorem Hm{ts:List Tie}{k k':Int}(h:k≤k'):∀ e∈trk ts k',e∈trk ts k:=by
 intro e he
 obtain⟨t,h1,h2,h3,h4⟩:=DA.1 he
 exact DA.2 ⟨t,h1,h2,by omega,h4⟩
noncomputable def csz(N:Nat)(l:List Edge)(v:Int):Nat:=(List.range N).countP fun(w:Nat)=>CK l v (w:Int)
theorem VS{N:Nat}{l l':List Edge}{v v':Int}(h:∀ w:Nat,w<N→Con l v (w:Int)→Con l' v' (w:Int)):csz N l v≤csz N l' v':=by
 unfold csz
 refine List.countP_mono_left fun w hw hc => ?_
 rw[BC]at hc ⊢
 exact h w (by simpa using hw) hc
theorem AhK{N:Nat}{l:List Edge}{v:Nat}(hv:v<N):1≤csz N l (v:Int):=by
 unfold csz
 refine List.countP_pos_iff.2 ⟨v,by simpa using hv,(BC _ _ _).2 (.refl _)⟩
theorem AhJ{N:Nat}{l:List Edge}{a b:Nat}(ha:a<N)(hb:b<N)(hab:a≠b)(h:Con l (a:Int) (b:Int)):2≤csz N l (a:Int):=by
 unfold csz
 rw[ADG (P:=fun(w:Nat)=>CK l (a:Int) (w:Int)) (M:=a) ((BC _ _ _).2 (.refl _)) AmW (by simpa using ha)]
 have:0<(List.range N).countP (fun(w:Nat)=>CK l (a:Int) (w:Int) && !decide (w=a)):=by
  refine List.countP_pos_iff.2 ⟨b,by simpa using hb,?_⟩
  rw[AjJ,BC]
  exact⟨h,by simp;omega⟩
 omega
theorem Aev{N:Nat}{l:List Edge}{e:Edge}(h:¬ Con l e.1 e.2.1):csz N (l++[e]) e.1=csz N l e.1+csz N l e.2.1:=by
 unfold csz
 have key:∀ xs:List Nat,xs.countP (fun(w:Nat)=>CK (l++[e]) e.1 (w:Int))=xs.countP (fun(w:Nat)=>CK l e.1 (w:Int))+xs.countP (fun(w:Nat)=>CK l e.2.1 (w:Int)):=by
  intro xs
  induction xs with
  |nil=>rfl
  |cons x xs ih=>
   rw[Alh,Alh,Alh,ih]
   have hs:Con (l++[e]) e.1 (x:Int)↔Con l e.1 (x:Int)∨Con l e.2.1 (x:Int):=by
    rw[Con.snoc]
    constructor
    ·rintro (h|⟨_,h⟩|⟨_,h⟩)
     ·exact .inl h
     ·exact .inr h
     ·exact .inl h
    ·rintro (h|h)
     ·exact .inl h
     ·exact .inr (.inl ⟨.refl _,h⟩)
   by_cases h1:Con l e.1 (x:Int)
   ·have h2:¬ Con l e.2.1 (x:Int):=fun h2=>h (h1.trans h2.symm)
    rw[(BC _ _ _).2 (hs.2 (.inl h1)),(BC _ _ _).2 h1,(DD _ _ _).2 h2]
    simp only[Ajs,Aja,Ajb];omega
   ·by_cases h2:Con l e.2.1 (x:Int)
    ·rw[(BC _ _ _).2 (hs.2 (.inr h2)),(DD _ _ _).2 h1,(BC _ _ _).2 h2]
     simp only[Ajs,Aja,Ajb];omega
    ·rw[(DD _ _ _).2 (fun h=>(hs.1 h).elim h1 h2),(DD _ _ _).2 h1,(DD _ _ _).2 h2]
     simp only[Aja,Ajb,Akq]
 exact key _
end Go.Pev.Pl
end
section
namespace Go.Pev.Pl
def LD(top:Int)(t:Tie):Tie:=(t.1,t.2.1,min top (t.2.2.1+1),t.2.2.2.1,())
def Dq(t:Tie):Tie:=(t.1,t.2.1,t.2.2.1,true,())
def both(S:Int→Bool)(t:Tie):Bool:=S t.1&&S t.2.1
def EM(S:Int→Bool)(t:Tie):Prop:=S t.1≠S t.2.1
instance (S:Int→Bool)(t:Tie):Decidable (EM S t):=inferInstanceAs (Decidable (_≠_))
def rT(S:Int→Bool)(top i:Int)(t:Tie):Tie:=if t.2.2.2.1=true∧t.2.2.1=i∧both S t=true then LD top t else t
def rO(S:Int→Bool)(top i:Int)(t:Tie):Tie:=if t.2.2.2.1=false∧t.2.2.1=i∧both S t=true then LD top t else t
def rB(S:Int→Bool)(top i:Int)(t:Tie):Tie:=if t.2.2.1=i∧both S t=true then LD top t else t
def BN(S:Int→Bool)(top i:Int):List Tie→List Tie×Nat×Option Edge
 |[]=>([],0,none)
 |t::ts=>if t.2.2.2.1=true∨t.2.2.1≠i then(t::(BN S top i ts).1,(BN S top i ts).2)
  else if both S t=true then(LD top t::(BN S top i ts).1,(BN S top i ts).2.1+1,(BN S top i ts).2.2)
  else if EM S t then(Dq t::ts,0,some (ed t))
  else(t::(BN S top i ts).1,(BN S top i ts).2)
theorem ADo{S:Int→Bool}{t:Tie}(h:both S t=true):¬ EM S t:=by
 unfold both at h
 unfold EM
 rw[AjJ]at h
 rw[h.1,h.2]
 simp
theorem AS5(S:Int→Bool)(top i:Int):∀ ts:List Tie,(BN S top i ts).2.2=none→(BN S top i ts).1=ts.map (rO S top i)∧∀ t∈ts,t.2.2.2.1=false→t.2.2.1=i→¬ EM S t:=by
 intro ts
 induction ts with
 |nil=>intro _;exact⟨rfl,fun t h=>by cases h⟩
 |cons t ts ih=>
  intro h
  rw[BN]at h ⊢
  by_cases h1:t.2.2.2.1=true∨t.2.2.1≠i
  ·rw[AjV h1]at h ⊢
   obtain⟨q1,q2⟩:=ih h
   have hr:rO S top i t=t:=by
    unfold rO
    rw[AjS]
    rintro⟨a,b,_⟩
    rcases h1 with h1|h1
    ·rw[h1]at a;cases a
    ·exact h1 b
   refine⟨by rw[Ajm,hr,q1],fun x hx a b => ?_⟩
   rcases AjN.1 hx with rfl|hx
   ·rcases h1 with h1|h1
    ·rw[h1]at a;cases a
    ·exact absurd b h1
   ·exact q2 x hx a b
  ·rw[AjS h1]at h ⊢
   have a0:t.2.2.2.1=false:=by
    cases hh:t.2.2.2.1
    ·rfl
    ·exact absurd (.inl hh) h1
   have b0:t.2.2.1=i:=Aj6 fun hn=>h1 (.inr hn)
   by_cases h2:both S t=true
   ·rw[AjV h2]at h ⊢
    obtain⟨q1,q2⟩:=ih h
    have hr:rO S top i t=LD top t:=by unfold rO;rw[AjV ⟨a0,b0,h2⟩]
    refine⟨by rw[Ajm,hr,q1],fun x hx a b => ?_⟩
    rcases AjN.1 hx with rfl|hx
    ·exact ADo h2
    ·exact q2 x hx a b
   ·rw[AjS h2]at h ⊢
    by_cases h3:EM S t
    ·rw[AjV h3]at h;cases h
    ·rw[AjS h3]at h ⊢
     obtain⟨q1,q2⟩:=ih h
     have hr:rO S top i t=t:=by unfold rO;rw[AjS (fun hh=>h2 hh.2.2)]
     refine⟨by rw[Ajm,hr,q1],fun x hx a b => ?_⟩
     rcases AjN.1 hx with rfl|hx
     ·exact h3
     ·exact q2 x hx a b
theorem Qx(S:Int→Bool)(top i:Int)(t:Tie):ed (rT S top i t)=ed t:=by unfold rT;split<;>rfl
theorem AWT(S:Int→Bool)(top i:Int)(t:Tie):ed (rO S top i t)=ed t:=by unfold rO;split<;>rfl
theorem I2(S:Int→Bool)(top i:Int)(t:Tie):(rT S top i t).2.2.2.1=t.2.2.2.1:=by unfold rT;split<;>rfl
theorem Yg(S:Int→Bool)(top i:Int)(t:Tie):(rO S top i t).2.2.2.1=t.2.2.2.1:=by unfold rO;split<;>rfl
theorem AAj{S:Int→Bool}{top i:Int}{t:Tie}(h:t.2.2.1≤top):t.2.2.1≤(rT S top i t).2.2.1∧(rT S top i t).2.2.1≤top:=by
 unfold rT
 split
 ·show t.2.2.1≤min top (t.2.2.1+1)∧min top (t.2.2.1+1)≤top
  omega
 ·omega
theorem AIz{S:Int→Bool}{top i:Int}{t:Tie}(h:t.2.2.1≤top):t.2.2.1≤(rO S top i t).2.2.1∧(rO S top i t).2.2.1≤top:=by
 unfold rO
 split
 ·show t.2.2.1≤min top (t.2.2.1+1)∧min top (t.2.2.1+1)≤top
  omega
 ·omega
theorem ASh{S:Int→Bool}{top i:Int}{t:Tie}(h:t.2.2.2.1=true):rO S top i t=t:=by
 unfold rO
 rw[AjS]
 rintro⟨a,_⟩
 rw[h]at a;cases a
theorem Gi{S:Int→Bool}{top i:Int}{t:Tie}(h:t.2.2.2.1=false):rT S top i t=t:=by
 unfold rT
 rw[AjS]
 rintro⟨a,_⟩
 rw[h]at a;cases a
theorem YW{f:Tie→Tie}(k:Int)(h1:∀ t,ed (f t)=ed t)(h2:∀ t,(f t).2.2.2.1=t.2.2.2.1)(ts:List Tie)(h3:∀ t∈ts,t.2.2.2.1=true→(k≤(f t).2.2.1↔k≤t.2.2.1)):trk (ts.map f) k=trk ts k:=by
 induction ts with
 |nil=>rfl
 |cons t ts ih=>
  have:=ih fun x hx=>h3 x (by simp[hx])
  unfold trk at *
  rw[Ajm,AkL,AkL,h2]
  have ht:=h3 t (by simp)
  cases hh:t.2.2.2.1
  ·simp only[AlC,Aja,Ajb];exact this
  ·have hd:decide (k≤(f t).2.2.1)=decide (k≤t.2.2.1):=Akb.2 (ht hh)
   rw[hd]
   simp only[AlL]
   split
   ·rw[Ajm,Ajm,h1,this]
   ·exact this
section
variable {N:Nat} {top:Int} {O:List Tie} {S:Int→Bool} {i:Int} {c:Int}
theorem Ph{k:Int}{e:Edge}:e∈trk (O.map (rT S top i)) k↔∃ t∈O,t.2.2.2.1=true∧k≤(rT S top i t).2.2.1∧ed t=e:=by
 rw[DA]
 constructor
 ·rintro⟨t,ht,h1,h2,h3⟩
  obtain⟨x,hx,rfl⟩:=Ajc.1 ht
  rw[I2]at h1
  rw[Qx]at h3
  exact⟨x,hx,h1,h2,h3⟩
 ·rintro⟨t,ht,h1,h2,h3⟩
  exact⟨_,Ajc.2 ⟨t,ht,rfl⟩,by rw[I2];exact h1,h2,by rw[Qx];exact h3⟩
theorem Ce{k:Int}(hk:k≤i)(hit:i≤top):trk (O.map (rT S top i)) k=trk O k:=by
 refine YW k (Qx S top i) (I2 S top i) O fun t _ _ => ?_
 unfold rT
 split
 ·rename_i h
  show k≤min top (t.2.2.1+1)↔_
  omega
 ·rfl
theorem AL3{k:Int}(hk:i+2≤k):trk (O.map (rT S top i)) k=trk O k:=by
 refine YW k (Qx S top i) (I2 S top i) O fun t _ _ => ?_
 unfold rT
 split
 ·rename_i h
  show k≤min top (t.2.2.1+1)↔_
  omega
 ·rfl
theorem Kz(hl:∀ t∈O,t.2.2.1≤top)(k:Int):∀ e∈trk O k,e∈trk (O.map (rT S top i)) k:=by
 intro e he
 obtain⟨t,h1,h2,h3,h4⟩:=DA.1 he
 have:=AAj (S:=S) (i:=i) (hl t h1)
 exact Ph.2 ⟨t,h1,h2,by omega,h4⟩
variable (hS:∀ a b,Con (trk O i) a b→S a=S b)
include hS
theorem Aex(hl:∀ t∈O,t.2.2.1≤top)(hit:i+1≤top){a b:Int}(h:Con (trk O i) a b)(ha:S a=true):Con (trk (O.map (rT S top i)) (i+1)) a b:=by
 have key:∀ {a b:Int},Con (trk O i) a b→S a=true→Con (trk (O.map (rT S top i)) (i+1)) a b:=by
  intro a b h
  induction h with
  |refl a=>intro _;exact .refl a
  |edge e he=>
   intro ha
   obtain⟨t,h1,h2,h3,rfl⟩:=DA.1 he
   have hb:S t.2.1=true:=by
    have:=hS _ _ (.edge _ he)
    exact this.symm.trans ha
   have hm:ed t∈trk (O.map (rT S top i)) (i+1):=by
    refine Ph.2 ⟨t,h1,h2,?_,rfl⟩
    by_cases hlv:t.2.2.1=i
    ·unfold rT
     rw[AjV ⟨h2,hlv,by unfold both;rw[show S t.1=true from ha,hb];rfl⟩]
     show i+1≤min top (t.2.2.1+1)
     omega
    ·have:=AAj (S:=S) (i:=i) (hl t h1)
     omega
   exact .edge _ hm
  |symm h ih=>
   intro ha
   exact(ih (by rw[hS _ _ h];exact ha)).symm
  |trans h1 _ ih1 ih2=>
   intro ha
   exact(ih1 ha).trans (ih2 (by rw[← hS _ _ h1];exact ha))
 exact key h ha
theorem AQC(hit:i≤top){a b:Int}(h:Con (trk (O.map (rT S top i)) (i+1)) a b)(ha:S a=false):Con (trk O (i+1)) a b:=by
 have low:∀ {a b:Int},Con (trk (O.map (rT S top i)) (i+1)) a b→S a=S b:=fun h=>hS _ _ (by
  have:=h.sub (Hm (ts:=O.map (rT S top i)) (show i≤i+1 by omega))
  rw[Ce (AmN i) hit]at this
  exact this)
 have key:∀ {a b:Int},Con (trk (O.map (rT S top i)) (i+1)) a b→S a=false→Con (trk O (i+1)) a b:=by
  intro a b h
  induction h with
  |refl a=>intro _;exact .refl a
  |edge e he=>
   intro ha
   obtain⟨t,h1,h2,h3,rfl⟩:=Ph.1 he
   refine .edge _ (DA.2 ⟨t,h1,h2,?_,rfl⟩)
   unfold rT at h3
   rw[AjS]at h3
   ·exact h3
   ·rintro⟨_,_,hb⟩
    unfold both at hb
    rw[show S t.1=false from ha]at hb
    cases hb
  |symm h ih=>
   intro ha
   exact(ih (by rw[low h];exact ha)).symm
  |trans h1 _ ih1 ih2=>
   intro ha
   exact(ih1 ha).trans (ih2 (by rw[← low h1];exact ha))
 exact key h ha
end
end Go.Pev.Pl
end
section
namespace Go.Pev.Pl
theorem Fo.AWp{N:Nat}{l:List Edge}{e:Edge}(h:Fo N (l++[e]))(hl:∀ x∈l,InE N x)(he:InE N e):¬ Con l e.1 e.2.1:=by
 intro hc
 have h1:=AXR (N:=N) (l:=l) he
 rw[AjV ((BC _ _ _).2 hc)]at h1
 have h2:=Ae5 l hl
 unfold Fo at h
 rw[AjQ,Alw]at h
 omega
theorem N1{N:Nat}{O:List Tie}(h:∀ x∈O,InE N (ed x))(k:Int):∀ e∈trk O k,InE N e:=by
 intro e he
 obtain⟨t,h1,_,_,rfl⟩:=DA.1 he
 exact h t h1
theorem Bk(A B:List Tie)(k:Int):trk (A++B) k=trk A k++trk B k:=by
 unfold trk;rw[Ak6,Aks]
theorem Sy(S:Int→Bool)(top i:Int)(A:List Tie)(k:Int):trk (A.map (rO S top i)) k=trk A k:=
 YW k (AWT S top i) (Yg S top i) A fun t _ h=>by rw[ASh h]
structure Snd(N:Nat)(top:Int)(O:List Tie):Prop where
 lvl:∀ x∈O,0≤x.2.2.1∧x.2.2.1≤top
 ins:∀ x∈O,InE N (ed x)
 fo:Fo N (trk O 0)
 lie:∀ x∈O,x.2.2.2.1=false→Con (trk O x.2.2.1) x.1 x.2.1
 halv:∀ k:Nat,(k:Int)≤top→∀ v:Nat,v<N→csz N (trk O k) v≤max 1 (N/2 ^ k)
structure Ih(N:Nat)(top:Int)(t:Edge)(j:Int)(O:List Tie):Prop where
 lvl:∀ x∈O,0≤x.2.2.1∧x.2.2.1≤top
 ins:∀ x∈O,InE N (ed x)
 it:InE N t
 fo:Fo N (trk O 0++[t])
 lie1:∀ x∈O,x.2.2.2.1=false→j≤x.2.2.1→Con (trk O x.2.2.1) x.1 x.2.1
 lie2:∀ x∈O,x.2.2.2.1=false→x.2.2.1<j→Con (trk O x.2.2.1++[t]) x.1 x.2.1
 halv:∀ k:Nat,(k:Int)≤top→∀ v:Nat,v<N→csz N (trk O k) v≤max 1 (N/2 ^ k)
 halt:∀ k:Nat,(k:Int)<j→(k:Int)≤top→∀ v:Nat,v<N→csz N (trk O k++[t]) v≤max 1 (N/2 ^ k)
structure L3(N:Nat)(t:Edge)(i:Nat)(O:List Tie)(S:Int→Bool)(c:Nat):Prop where
 cN:c<N
 at_:t.1=(c:Int)∨t.2.1=(c:Int)
 side:∀ w:Nat,w<N→(S (w:Int)=true↔Con (trk O i) (c:Int) (w:Int))
 less:2*csz N (trk O i) (c:Int)≤csz N (trk O i) t.1+csz N (trk O i) t.2.1
section
variable {N:Nat} {top:Int} {t:Edge} {O:List Tie} {S:Int→Bool} {i c:Nat}
theorem L3.closed(hL:L3 N t i O S c)(hi:∀ x∈O,InE N (ed x)):∀ a b,Con (trk O i) a b→S a=S b:=by
 intro a b h
 rcases Con.within (I:=fun a=>0≤a∧a<(N:Int)) (fun e he=>N1 hi i e he) h with rfl|⟨⟨a1,a2⟩,b1,b2⟩
 ·rfl
 ·obtain⟨u,rfl⟩:=AjO a1
  obtain⟨v,rfl⟩:=AjO b1
  have h1:=hL.side u (by omega)
  have h2:=hL.side v (by omega)
  rw[AkW,h1,h2]
  exact⟨fun q=>q.trans h,fun q=>q.trans h.symm⟩
theorem L3.AXC(hL:L3 N t i O S c):S (c:Int)=true:=(hL.side c hL.cN).2 (.refl _)
theorem L3.con(hL:L3 N t i O S c){a b:Int}(ia:0≤a∧a<(N:Int))(ib:0≤b∧b<(N:Int))(ha:S a=true)(hb:S b=true):Con (trk O i) a b:=by
 obtain⟨u,rfl⟩:=AjO ia.1
 obtain⟨v,rfl⟩:=AjO ib.1
 exact((hL.side u (by omega)).1 ha).symm.trans ((hL.side v (by omega)).1 hb)
variable (hG:Ih N top t ((i:Int)+1) O) (hit:(i:Int)≤top) (hL:L3 N t i O S c)
include hG
theorem Ih.apart(k:Nat):¬ Con (trk O (k:Int)) t.1 t.2.1:=fun h=>hG.fo.AWp (N1 hG.ins 0) hG.it (h.sub (Hm (by omega)))
include hit hL
theorem Ih.half(hi1:(i:Int)+1≤top):csz N (trk O i) (c:Int)≤N/2 ^ (i+1):=by
 obtain⟨⟨a1,a2⟩,b1,b2⟩:=hG.it
 obtain⟨u,hu⟩:=AjO a1
 have hj:=Aev (N:=N) (hG.apart i)
 have hh:=hG.halt i (by omega) hit u (by omega)
 rw[← hu,hj]at hh
 have hp:=AhK (N:=N) (l:=trk O i) hL.cN
 have hl:=hL.less
 have e:N/2 ^ (i+1)=N/2 ^ i/2:=by rw[Nat.pow_succ,Nat.div_div_eq_div_mul]
 rw[e]
 omega
theorem Ih.Ahj(k:Nat)(hk:(k:Int)≤top)(v:Nat)(hv:v<N):csz N (trk (O.map (rT S top i)) k) v≤max 1 (N/2 ^ k):=by
 have hS:=hL.closed hG.ins
 have hl:∀ x∈O,x.2.2.1≤top:=fun x hx=>(hG.lvl x hx).2
 rcases AmI k (i+1)with h|rfl|h
 ·rw[Ce (by omega) hit];exact hG.halv k hk v hv
 ·cases hsv:S (v:Int)
  ·refine AkO (VS fun w hw hc => ?_) (hG.halv (i+1) hk v hv)
   have:=AQC hS hit (a:=(v:Int)) (b:=(w:Int)) (by simpa using hc) hsv
   simpa using this
  ·have hle:csz N (trk (O.map (rT S top i)) ((i+1:Nat):Int)) v≤csz N (trk O i) (c:Int):=VS fun w hw hc=>by
    have h1:=hc.sub (Hm (ts:=O.map (rT S top i)) (show(i:Int)≤((i+1:Nat):Int) by omega))
    rw[Ce (AmN _) hit]at h1
    exact((hL.side v hv).1 hsv).trans h1
   have:=hG.half hit hL (by omega)
   omega
 ·rw[AL3 (by omega)];exact hG.halv k hk v hv
omit hL
theorem AAi{x:Tie}(hx:x∈O.map (rT S top i))(h:x.2.2.2.1=false):x∈O:=by
 obtain⟨y,hy,rfl⟩:=Ajc.1 hx
 rw[I2]at h
 rw[Gi h];exact hy
include hL
theorem Ih.AB8{x:Tie}(hx:x∈O)(h1:x.2.2.1=(i:Int))(h2:both S x=true):Con (trk (O.map (rT S top i)) (min top (x.2.2.1+1))) x.1 x.2.1:=by
 have hS:=hL.closed hG.ins
 unfold both at h2
 rw[AjJ]at h2
 have hc:=hL.con (hG.ins x hx).1 (hG.ins x hx).2 h2.1 h2.2
 by_cases hi1:(i:Int)+1≤top
 ·rw[h1,Int.min_eq_right hi1]
  exact Aex hS (fun x hx=>(hG.lvl x hx).2) hi1 hc h2.1
 ·rw[h1,Int.min_eq_left (by omega),show top=(i:Int) by omega]
  have:=Ce (O:=O) (S:=S) (top:=top) (i:=(i:Int)) (k:=(i:Int)) (AmN _) hit
  rw[show top=(i:Int) by omega]at this
  rw[this];exact hc
theorem Ih.next(hno:∀ x∈O.map (rT S top i),x.2.2.2.1=false→x.2.2.1=(i:Int)→¬ EM S x):Ih N top t (i:Int) ((O.map (rT S top i)).map (rO S top i)):=by
 have hS:=hL.closed hG.ins
 have hl:∀ x∈O,x.2.2.1≤top:=fun x hx=>(hG.lvl x hx).2
 have hmem:∀ x∈(O.map (rT S top i)).map (rO S top i),∃ y∈O,x=rO S top i (rT S top i y):=fun x hx=>by
  obtain⟨z,hz,rfl⟩:=Ajc.1 hx
  obtain⟨y,hy,rfl⟩:=Ajc.1 hz
  exact⟨y,hy,rfl⟩
 have hlv:∀ y∈O,y.2.2.1≤(rO S top i (rT S top i y)).2.2.1∧(rO S top i (rT S top i y)).2.2.1≤top:=fun y hy=>by
  have h1:=AAj (S:=S) (i:=(i:Int)) (hl y hy)
  have h2:=AIz (S:=S) (i:=(i:Int)) h1.2
  omega
 have hoth:∀ x∈(O.map (rT S top i)).map (rO S top i),x.2.2.2.1=false→∃ y∈O,y.2.2.2.1=false∧x=rO S top i y:=fun x hx h=>by
  obtain⟨y,hy,rfl⟩:=hmem x hx
  rw[Yg,I2]at h
  exact⟨y,hy,h,by rw[Gi h]⟩
 refine⟨fun x hx => ?_,fun x hx => ?_,hG.it,?_,fun x hx h hj => ?_,fun x hx h hj => ?_,fun k hk v hv => ?_,fun k hk1 hk2 v hv => ?_⟩
 ·obtain⟨y,hy,rfl⟩:=hmem x hx
  have:=hlv y hy
  have:=(hG.lvl y hy).1
  omega
 ·obtain⟨y,hy,rfl⟩:=hmem x hx
  rw[AWT,Qx];exact hG.ins y hy
 ·rw[Sy,Ce (by omega) hit];exact hG.fo
 ·obtain⟨y,hy,hf,rfl⟩:=hoth x hx h
  rw[Sy]
  by_cases hr:y.2.2.1=(i:Int)∧both S y=true
  ·have he:rO S top i y=LD top y:=by unfold rO;rw[AjV ⟨hf,hr.1,hr.2⟩]
   rw[he]
   exact hG.AB8 hit hL hy hr.1 hr.2
  ·have he:rO S top i y=y:=by unfold rO;rw[AjS (fun q=>hr ⟨q.2.1,q.2.2⟩)]
   rw[he]at hj ⊢
   by_cases hi:y.2.2.1=(i:Int)
   ·have hnb:¬ both S y=true:=fun q=>hr ⟨hi,q⟩
    have hne:=hno y (Ajc.2 ⟨y,hy,Gi hf⟩) hf hi
    have h2:=hG.lie2 y hy hf (by omega)
    rw[hi,Ce (AmN _) hit]
    rw[hi]at h2
    unfold EM at hne
    have hne:=Alr.1 hne
    have hfalse:S y.1=false∧S y.2.1=false:=by
     unfold both at hnb
     rw[← hne]at hnb ⊢
     cases hsy:S y.1
     ·exact⟨rfl,rfl⟩
     ·rw[hsy]at hnb;exact absurd rfl hnb
    rw[Con.snoc]at h2
    rcases h2 with h2|⟨q1,q2⟩|⟨q1,q2⟩
    ·exact h2
    ·have e1:=hS _ _ q1
     have e2:=hS _ _ q2
     rcases hL.at_ with hc|hc
     ·rw[hc,hL.AXC,hfalse.1]at e1;cases e1
     ·rw[hc,hL.AXC,hfalse.2]at e2;cases e2
    ·have e1:=hS _ _ q1
     have e2:=hS _ _ q2
     rcases hL.at_ with hc|hc
     ·rw[hc,hL.AXC,hfalse.2]at e2;cases e2
     ·rw[hc,hL.AXC,hfalse.1]at e1;cases e1
   ·exact(hG.lie1 y hy hf (by omega)).sub (Kz hl _)
 ·obtain⟨y,hy,hf,rfl⟩:=hoth x hx h
  have h1:=AIz (S:=S) (i:=(i:Int)) (hl y hy)
  have he:rO S top i y=y:=by unfold rO;rw[AjS (fun q=>by have:=q.2.1;omega)]
  rw[he]at hj ⊢
  rw[Sy,Ce (by omega) hit]
  exact hG.lie2 y hy hf (by omega)
 ·rw[Sy];exact hG.Ahj hit hL k hk v hv
 ·rw[Sy,Ce (by omega) hit];exact hG.halt k (by omega) hk2 v hv
theorem Ih.found{A B:List Tie}{x:Tie}(hsp:O.map (rT S top i)=A++x::B)(hf:x.2.2.2.1=false)(hi:x.2.2.1=(i:Int))(hx:EM S x):
  Snd N top (A.map (rO S top i)++Dq x::B)∧Con (trk (A.map (rO S top i)++Dq x::B) 0) t.1 t.2.1:=by
 have hS:=hL.closed hG.ins
 have hl:∀ x∈O,x.2.2.1≤top:=fun x hx=>(hG.lvl x hx).2
 have hxM:x∈O.map (rT S top i):=by rw[hsp];simp
 have hxO:x∈O:=AAi hG hit hxM hf
 have hAm:∀ y∈A,y∈O.map (rT S top i):=fun y hy=>by rw[hsp];simp[hy]
 have hBm:∀ y∈B,y∈O.map (rT S top i):=fun y hy=>by rw[hsp];simp[hy]
 have hml:∀ y∈O.map (rT S top i),0≤y.2.2.1∧y.2.2.1≤top:=fun y hy=>by
  obtain⟨z,hz,rfl⟩:=Ajc.1 hy
  have:=AAj (S:=S) (i:=(i:Int)) (hl z hz)
  have:=(hG.lvl z hz).1
  omega
 have hme:∀ y∈O.map (rT S top i),InE N (ed y):=fun y hy=>by
  obtain⟨z,hz,rfl⟩:=Ajc.1 hy
  rw[Qx];exact hG.ins z hz
 have hxt:trk [x]=fun _=>[]:=by
  funext k
  unfold trk
  rw[AkL,hf]
  rfl
 have hat:∀ k,trk [Dq x] k=if k≤(i:Int)then [ed x]else []:=by
  intro k
  unfold trk
  have q1:(Dq x).2.2.1=(i:Int):=hi
  have q2:(Dq x).2.2.2.1=true:=rfl
  rw[AkL,q1,q2]
  by_cases hk:k≤(i:Int)
  ·rw[AjV hk,AjG hk];rfl
  ·rw[AjS hk,AjF hk];rfl
 have hM:∀ k,trk (O.map (rT S top i)) k=trk A k++trk B k:=by
  intro k
  rw[hsp,show A++x::B=A++([x]++B)from rfl,Bk,Bk,hxt,Ajv]
 have hO':∀ k,trk (A.map (rO S top i)++Dq x::B) k=trk A k++((if k≤(i:Int)then [ed x]else [])++trk B k):=by
  intro k
  rw[show A.map (rO S top i)++Dq x::B=A.map (rO S top i)++([Dq x]++B)from rfl,Bk,Bk,Sy,hat]
 have hsup:∀ k,∀ e∈trk (O.map (rT S top i)) k,e∈trk (A.map (rO S top i)++Dq x::B) k:=by
  intro k e he
  rw[hM]at he
  rw[hO']
  rcases AjL.1 he with he|he
  ·exact AjL.2 (.inl he)
  ·exact AjL.2 (.inr (AjL.2 (.inr he)))
 have hxin:∀ k,k≤(i:Int)→ed x∈trk (A.map (rO S top i)++Dq x::B) k:=by
  intro k hk
  rw[hO',AjV hk];simp
 have h2:=hG.lie2 x hxO hf (by omega)
 rw[hi]at h2
 have ht:Con (trk O i++[ed x]) t.1 t.2.1:=by
  have up:∀ {a b:Int},Con (trk O i) a b→Con (trk O i++[ed x]) a b:=fun c=>c.sub fun e he=>AjL.2 (.inl he)
  have hxe:Con (trk O i++[ed x]) x.1 x.2.1:=.edge (l:=trk O i++[ed x]) (ed x) (by simp)
  rw[Con.snoc]at h2
  rcases h2 with h2|⟨q1,q2⟩|⟨q1,q2⟩
  ·exact absurd (hS _ _ h2) hx
  ·exact((up q1).symm.trans hxe).trans (up q2).symm
  ·exact((up q2).trans hxe.symm).trans (up q1)
 have ht':∀ k,k≤(i:Int)→Con (trk (A.map (rO S top i)++Dq x::B) k) t.1 t.2.1:=by
  intro k hk
  refine ht.sub fun e he => ?_
  rcases AjL.1 he with he|he
  ·exact Hm hk _ (hsup _ _ (Kz hl _ _ he))
  ·rw[Aje]at he;subst he;exact hxin k hk
 refine⟨⟨fun y hy => ?_,fun y hy => ?_,?_,fun y hy h => ?_,fun k hk v hv => ?_⟩,ht' 0 (by omega)⟩
 ·rcases AjL.1 hy with hy|hy
  ·obtain⟨z,hz,rfl⟩:=Ajc.1 hy
   have h1:=hml z (hAm z hz)
   have:=AIz (S:=S) (i:=(i:Int)) h1.2
   omega
  ·rcases AjN.1 hy with rfl|hy
   ·exact hG.lvl x hxO
   ·exact hml y (hBm y hy)
 ·rcases AjL.1 hy with hy|hy
  ·obtain⟨z,hz,rfl⟩:=Ajc.1 hy
   rw[AWT];exact hme z (hAm z hz)
  ·rcases AjN.1 hy with rfl|hy
   ·exact hG.ins x hxO
   ·exact hme y (hBm y hy)
 ·rw[hO',AjV (by omega)]
  have hM0:=hM 0
  rw[Ce (by omega) hit]at hM0
  have hp:(trk A 0++([ed x]++trk B 0)).Perm (trk O 0++[ed x]):=by
   rw[hM0,AkF]
   exact List.Perm.append_left _ Aky
  refine Fo.perm ?_ hp.symm
  have hfo:=hG.fo
  have hcc:cc N (trk O 0++[ed x])=cc N (trk O 0++[t]):=ADc fun a b=>by
   have m0:=Hm (ts:=O) (show(0:Int)≤(i:Int) by omega)
   constructor
   ·intro c
    refine c.cut fun e he => ?_
    rcases AjL.1 he with he|he
    ·exact .edge _ (AjL.2 (.inl he))
    ·rw[Aje]at he;subst he
     refine h2.sub fun e he => ?_
     rcases AjL.1 he with he|he
     ·exact AjL.2 (.inl (m0 _ he))
     ·exact AjL.2 (.inr he)
   ·intro c
    refine c.cut fun e he => ?_
    rcases AjL.1 he with he|he
    ·exact .edge _ (AjL.2 (.inl he))
    ·rw[Aje]at he;subst he
     refine ht.sub fun e he => ?_
     rcases AjL.1 he with he|he
     ·exact AjL.2 (.inl (m0 _ he))
     ·exact AjL.2 (.inr he)
  unfold Fo at hfo ⊢
  rw[hcc,AjQ]at *
  exact hfo
 ·-- others
  have key:∀ y:Tie,y∈O→y.2.2.2.1=false→Con (trk (A.map (rO S top i)++Dq x::B) y.2.2.1) y.1 y.2.1:=by
   intro y hy h
   by_cases hle:y.2.2.1≤(i:Int)
   ·refine(hG.lie2 y hy h (by omega)).cut fun e he => ?_
    rcases AjL.1 he with he|he
    ·exact .edge _ (hsup _ _ (Kz hl _ _ he))
    ·rw[Aje]at he;subst he;exact ht' _ hle
   ·exact(hG.lie1 y hy h (by omega)).sub fun e he=>hsup _ _ (Kz hl _ _ he)
  rcases AjL.1 hy with hy|hy
  ·obtain⟨z,hz,rfl⟩:=Ajc.1 hy
   rw[Yg]at h
   have hzO:=AAi hG hit (hAm z hz) h
   by_cases hr:z.2.2.1=(i:Int)∧both S z=true
   ·have he:rO S top i z=LD top z:=by unfold rO;rw[AjV ⟨h,hr.1,hr.2⟩]
    rw[he]
    exact(hG.AB8 hit hL hzO hr.1 hr.2).sub (hsup _)
   ·have he:rO S top i z=z:=by unfold rO;rw[AjS (fun q=>hr ⟨q.2.1,q.2.2⟩)]
    rw[he]
    exact key z hzO h
  ·rcases AjN.1 hy with rfl|hy
   ·cases h
   ·exact key y (AAi hG hit (hBm y hy) h) h
 ·by_cases hki:(k:Int)≤(i:Int)
  ·refine AkO (VS fun w hw hc => ?_) (hG.halt k (by omega) hk v hv)
   refine hc.cut fun e he => ?_
   rw[hO',AjV hki]at he
   have hMk:=hM (k:Int)
   rw[Ce hki hit]at hMk
   rcases AjL.1 he with he|he
   ·exact .edge _ (AjL.2 (.inl (by rw[hMk];simp[he])))
   ·rcases AjL.1 he with he|he
    ·rw[Aje]at he;subst he
     refine h2.sub fun e he => ?_
     rcases AjL.1 he with he|he
     ·exact AjL.2 (.inl (Hm hki _ he))
     ·exact AjL.2 (.inr he)
    ·exact .edge _ (AjL.2 (.inl (by rw[hMk];simp[he])))
  ·have:trk (A.map (rO S top i)++Dq x::B) (k:Int)=trk (O.map (rT S top i)) (k:Int):=by
    rw[hO',AjS hki,hM];rfl
   rw[this]
   exact hG.Ahj hit hL k hk v hv
end
theorem Snd.Air{N:Nat}{top:Int}{P Q:List Tie}{t:Tie}(h:Snd N top (P++t::Q))(ht:t.2.2.2.1=true):Ih N top (ed t) (t.2.2.1+1) (P++Q):=by
 have hm:∀ x∈P++Q,x∈P++t::Q:=fun x hx=>by
  rcases AjL.1 hx with hx|hx
  ·simp[hx]
  ·simp[hx]
 have htk:∀ k,trk (P++t::Q) k=trk P k++((if k≤t.2.2.1 then [ed t]else [])++trk Q k):=by
  intro k
  rw[show P++t::Q=P++([t]++Q)from rfl,Bk,Bk]
  congr 2
  unfold trk
  rw[AkL,ht]
  by_cases hk:k≤t.2.2.1
  ·rw[AjV hk,AjG hk];rfl
  ·rw[AjS hk,AjF hk];rfl
 have hmem:∀ k e,e∈trk (P++t::Q) k→e∈trk (P++Q) k++[ed t]:=by
  intro k e he
  rw[htk]at he
  rw[Bk]
  rcases AjL.1 he with he|he
  ·simp[he]
  ·rcases AjL.1 he with he|he
   ·split at he
    ·rw[Aje]at he;subst he;simp
    ·cases he
   ·simp[he]
 have hsub:∀ k e,e∈trk (P++Q) k→e∈trk (P++t::Q) k:=by
  intro k e he
  rw[Bk]at he
  rw[htk]
  rcases AjL.1 he with he|he
  ·simp[he]
  ·simp[he]
 have hlt:=h.lvl t (by simp)
 refine⟨fun x hx=>h.lvl x (hm x hx),fun x hx=>h.ins x (hm x hx),h.ins t (by simp),?_,fun x hx hf hj => ?_,fun x hx hf hj=>(h.lie x (hm x hx) hf).sub (hmem _),fun k hk v hv=>AkO (VS fun w hw c=>c.sub (hsub k)) (h.halv k hk v hv),fun k hk1 hk2 v hv=>AkO (VS fun w hw c => ?_) (h.halv k hk2 v hv)⟩
 ·refine h.fo.perm ?_
  rw[htk,AjV hlt.1,Bk,AkF]
  exact List.Perm.append_left _ Aky
 ·have:=h.lie x (hm x hx) hf
  rw[htk,AjS (by omega)]at this
  rw[Bk];exact this
 ·refine c.sub fun e he => ?_
  rcases AjL.1 he with he|he
  ·exact hsub k e he
  ·rw[Aje]at he;subst he
   rw[htk,AjV (by omega)];simp
theorem Ih.end{N:Nat}{top:Int}{t:Edge}{O:List Tie}(h:Ih N top t 0 O):Snd N top O∧¬ Con (trk O 0) t.1 t.2.1:=by
 refine⟨⟨h.lvl,h.ins,h.fo.front (N1 h.ins 0) (fun e he=>by rw[Aje]at he;subst he;exact h.it),fun x hx hf=>h.lie1 x hx hf (h.lvl x hx).1,h.halv⟩,h.fo.AWp (N1 h.ins 0) h.it⟩
theorem Snd.other{N:Nat}{top:Int}{P Q:List Tie}{t:Tie}(h:Snd N top (P++t::Q))(ht:t.2.2.2.1=false):Snd N top (P++Q):=by
 have hm:∀ x∈P++Q,x∈P++t::Q:=fun x hx=>by
  rcases AjL.1 hx with hx|hx
  ·simp[hx]
  ·simp[hx]
 have htk:∀ k,trk (P++t::Q) k=trk (P++Q) k:=by
  intro k
  rw[show P++t::Q=P++([t]++Q)from rfl,Bk,Bk,Bk]
  congr 1
  unfold trk
  rw[AkL,ht]
  rfl
 refine⟨fun x hx=>h.lvl x (hm x hx),fun x hx=>h.ins x (hm x hx),by rw[← htk];exact h.fo,fun x hx hf=>by rw[← htk];exact h.lie x (hm x hx) hf,fun k hk v hv=>by rw[← htk];exact h.halv k hk v hv⟩
theorem Snd.span{N:Nat}{top:Int}{O:List Tie}(h:Snd N top O)(a b:Int):Con (O.map ed) a b↔Con (trk O 0) a b:=by
 constructor
 ·intro c
  refine c.cut fun e he => ?_
  obtain⟨x,hx,rfl⟩:=Ajc.1 he
  cases hf:x.2.2.2.1
  ·exact(h.lie x hx hf).sub (Hm (h.lvl x hx).1)
  ·exact .edge _ (DA.2 ⟨x,hx,hf,(h.lvl x hx).1,rfl⟩)
 ·intro c
  refine c.sub fun e he => ?_
  obtain⟨x,h1,_,_,rfl⟩:=DA.1 he
  exact Ajc.2 ⟨x,h1,rfl⟩
end Go.Pev.Pl
end
section
namespace Go.Pev.Pl
theorem Snd.below{N:Nat}{top:Nat}{O:List Tie}(h:Snd N (top:Int) O)(hN:N/2 ^ top≤1){x:Tie}(hx:x∈O)(hne:x.1≠x.2.1):x.2.2.1<(top:Int):=by
 have hl:=h.lvl x hx
 refine Aj6 fun hn => ?_
 have he:x.2.2.1=(top:Int):=by omega
 obtain⟨⟨a1,a2⟩,b1,b2⟩:=h.ins x hx
 obtain⟨u,hu⟩:=AjO a1
 obtain⟨v,hv⟩:=AjO b1
 have hc:Con (trk O (top:Int)) x.1 x.2.1:=by
  cases hf:x.2.2.2.1
  ·have:=h.lie x hx hf
   rw[he]at this;exact this
  ·exact .edge (l:=trk O (top:Int)) (ed x) (DA.2 ⟨x,hx,hf,by omega,rfl⟩)
 have hu':x.1=(u:Int):=hu
 have hv':x.2.1=(v:Int):=hv
 rw[hu',hv']at hc hne
 have h2:=AhJ (N:=N) (a:=u) (b:=v) (by omega) (by omega) (by omega) hc
 have h3:=h.halv top (AmN _) u (by omega)
 omega
theorem Snd.grown{N:Nat}{top:Int}{O O':List Tie}{come:List Edge}{new:List Tie}(h:Snd N top O)(ht:0≤top)(hp:O'.Perm (O++new))(hc:∀ e∈come,InE N e)
  (hn:∀ x∈new,x.2.2.1=0∧ed x∈come) (htr:(trk O' 0).Perm (trk O 0++MX (trk O 0) come)):Snd N top O':=by
 have hmem:∀ x,x∈O'↔x∈O∨x∈new:=fun x=>by rw[hp.mem_iff,AjL]
 have hk:∀ k:Int,0<k→∀ e,e∈trk O' k↔e∈trk O k:=by
  intro k hk e
  rw[DA,DA]
  constructor
  ·rintro⟨t,h1,h2,h3,h4⟩
   rcases(hmem t).1 h1 with h1|h1
   ·exact⟨t,h1,h2,h3,h4⟩
   ·have:=(hn t h1).1;omega
  ·rintro⟨t,h1,h2,h3,h4⟩
   exact⟨t,(hmem t).2 (.inl h1),h2,h3,h4⟩
 have hsup:∀ k:Int,∀ e∈trk O k,e∈trk O' k:=fun k e he=>by
  obtain⟨t,h1,h2,h3,h4⟩:=DA.1 he
  exact DA.2 ⟨t,(hmem t).2 (.inl h1),h2,h3,h4⟩
 refine⟨fun x hx => ?_,fun x hx => ?_,?_,fun x hx hf => ?_,fun k hkt v hv => ?_⟩
 ·rcases(hmem x).1 hx with hx|hx
  ·exact h.lvl x hx
  ·have:=(hn x hx).1;omega
 ·rcases(hmem x).1 hx with hx|hx
  ·exact h.ins x hx
  ·exact hc _ (hn x hx).2
 ·refine Fo.perm ?_ htr.symm
  have h1:=OQ come (trk O 0) hc
  have h2:cc N (trk O 0++come)=cc N (trk O 0++MX (trk O 0) come):=ADc fun a b=>ADS come (trk O 0)
  have h3:=h.fo
  unfold Fo at *
  rw[AjQ]
  omega
 ·rcases(hmem x).1 hx with hx|hx
  ·exact(h.lie x hx hf).sub (hsup _)
  ·obtain⟨h0,he⟩:=hn x hx
   rw[h0,AKp fun e=>htr.mem_iff,← ADS]
   exact .edge (l:=trk O 0++come) (ed x) (AjL.2 (.inr he))
 ·by_cases hk0:k=0
  ·subst hk0
   have:csz N (trk O' ((0:Nat):Int)) (v:Int)≤N:=by
    unfold csz
    have:=List.countP_le_length (p:=fun(w:Nat)=>CK (trk O' ((0:Nat):Int)) (v:Int) (w:Int)) (l:=List.range N)
    rw[Ajx]at this
    exact this
   simp only[Nat.pow_zero,Nat.div_one]
   omega
  ·exact AkO (VS fun w hw c=>c.sub fun e he=>(hk k (by omega) e).1 he) (h.halv k hkt v hv)
end Go.Pev.Pl
end
section
namespace Go.Pev.Pl
end Go.Pev.Pl
end
section
section
namespace Go.Pev.Pl
structure UF(N:Nat)(s:List Int)(c:Int→Int):Prop where
 len:s.length=N
 lo:∀ k,k<N→0≤s.getD k 0∧s.getD k 0≤(k:Int)
 par:∀ k,k<N→c (s.getD k 0)=c (k:Int)
 root:∀ k,k<N→s.getD k 0=(k:Int)→c (k:Int)=(k:Int)
 le:∀ k,k<N→0≤c (k:Int)∧c (k:Int)≤(k:Int)
theorem UF.idem{N:Nat}{s:List Int}{c:Int→Int}(h:UF N s c):∀ (m k:Nat),k≤m→k<N→c (c (k:Int))=c (k:Int):=by
 intro m
 induction m with
 |zero=>
  intro k hk hN
  have:=h.le k hN
  have e:c (k:Int)=(k:Int):=by omega
  rw[e,e]
 |succ m ih=>
  intro k hk hN
  have h1:=h.lo k hN
  by_cases hr:s.getD k 0=(k:Int)
  ·have e:=h.root k hN hr
   rw[e,e]
  ·obtain⟨j,hj⟩:=AjO h1.1
   have hp:=h.par k hN
   rw[hj]at hp
   rw[← hp]
   exact ih j (by omega) (by omega)
theorem UF.top{N:Nat}{s:List Int}{c:Int→Int}(h:UF N s c){k:Nat}(hk:k<N):s.getD (c (k:Int)).toNat 0=c (k:Int):=by
 have h1:=h.le k hk
 obtain⟨j,hj⟩:=AjO h1.1
 have hi:=h.idem k k (AjR _) hk
 rw[hj]at hi ⊢
 have hjN:j<N:=by omega
 have h2:=h.lo j hjN
 have hp:=h.par j hjN
 obtain⟨i,hi'⟩:=AjO h2.1
 rw[hi']at hp
 have h3:=h.le i (by omega)
 show s.getD j 0=_
 omega
theorem AKA(a b:Int):CR a b=min a b:=by unfold CR;split<;>omega
theorem AW8(a b:Int):imax a b=max a b:=by unfold imax;split<;>omega
theorem Dh{N i x:Nat}(h:(List.range N)[i]? = some x):x=i:=by
 rw[AkQ]at h
 obtain⟨h1,h2⟩:=h
 simpa using h2.symm
def Ahd(c:Int→Int)(u v:Int):Int→Int:=fun x=>if c x=max (c u) (c v)then min (c u) (c v)else c x
def AfJ(N:Nat)(c:Int→Int)(l:List Edge):Prop:=∀ a b,In (N:Int) a→In (N:Int) b→(c a=c b↔Con l a b)
theorem AfJ.snoc{N:Nat}{c:Int→Int}{l:List Edge}{e:Edge}(h:AfJ N c l)(h1:In (N:Int) e.1)(h2:In (N:Int) e.2.1):AfJ N (Ahd c e.1 e.2.1) (l++[e]):=by
 intro a b ia ib
 rw[Con.snoc,← h a b ia ib,← h a _ ia h1,← h _ b h2 ib,← h a _ ia h2,← h _ b h1 ib]
 unfold Ahd
 generalize c a=x
 generalize c b=y
 generalize c e.1=u
 generalize c e.2.1=v
 split<;>split<;>omega
end Go.Pev.Pl
end
section
namespace Go.Pev.Pl
def sh(n:Int):Prop:=0≤n∧n≤65535
instance (n:Int):Decidable (sh n):=inferInstanceAs (Decidable (_∧_))
def tw(n:Int):List Int:=[n/256,n % 256]
theorem AaY{α β:Type}(g:β→α):∀ (xs:List β) (a:List α),xs.foldl (fun a x=>a++[g x]) a=a++xs.map g:=by
 intro xs
 induction xs with
 |nil=>intro a;simp
 |cons x xs ih=>intro a;rw[AkC,ih];simp
end Go.Pev.Pl
end
section
namespace Go.Pev.Pl
abbrev Res:=Int×Int×List Int×Unit
def val(r:Res):Prop:=(0≤r.1∧r.1≤255)∧sh r.2.1∧sh (r.2.2.1.length:Int)∧∀ x∈r.2.2.1,sh x
instance (r:Res):Decidable (val r):=inferInstanceAs (Decidable (_∧_∧_∧_))
def enc(r:Res):List Int:=r.1::(tw r.2.1++(tw (r.2.2.1.length:Int)++r.2.2.1.flatMap tw))
end Go.Pev.Pl
end
section
namespace Go.Pev.Pl
theorem OJ(a:Int):ieq a a=true:=by rw[B9];simp
end Go.Pev.Pl
end
section
namespace Go.Pev.Pl
open Go.RowKit Tok
section
variable {n:Int} {rings:List (List Int)}
theorem APT{l:List Edge}{out:List Int}(h:FC n rings l)(hc:MY n l out){A:List Int}{u:Int}(hA:A∈rings)(iu:In n u)(hu:u∈A):hd A=cl out u:=by
 have gA:=h.fr.rg A hA
 have ih:=OT gA
 have hh:=UQ gA.2.1
 have h1:Con l u (hd A):=(h.sam u (hd A) iu ih).1 ⟨A,hA,hu,hh⟩
 have h2:=hc.least u (hd A) iu ih h1
 have h3:=hc.isin u iu
 obtain⟨K,hK,k1,k2⟩:=(h.sam u _ iu h3).2 (hc.con u iu)
 have:=h.fr.one hA hK iu.2.2.2 hu k1
 subst this
 have h4:=(Ez gA.2.1).2 _ k2
 rw[gA.2.2.1]at h4
 have:hd A=A.headD 0:=rfl
 omega
end
end Go.Pev.Pl
end
section
namespace Go.Pev.Pl
def Hq(n:Nat):Int:=((@ML idI ((n:Int),())).getD (0,())).1
theorem Ai4:((List.range 65).all fun k=>decide (@ML idI ((k:Int),())=some (Hq k,())))=true:=by kernel_rfl
theorem Ail:((List.range 65).all fun k=>decide (@AJt idI ((k:Int),())=some (Hq k,())))=true:=by kernel_rfl
theorem N5(n:Nat)(h:n≤64):ML ((n:Int),())=some (Hq n,()):=by
 rw[show ML ((n:Int),()) = @ML idI ((n:Int),())from AkZ (fun i=>@ML i ((n:Int),())) AB7]
 exact AlE (Ajf.1 Ai4 n (by simp;omega))
theorem AOu(n:Nat)(h:n≤64):AJt ((n:Int),())=some (Hq n,()):=by
 rw[show AJt ((n:Int),()) = @AJt idI ((n:Int),())from AkZ (fun i=>@AJt i ((n:Int),())) AB7]
 exact AlE (Ajf.1 Ail n (by simp;omega))
def AhN(a b:Int):Int:=if a<b then -1 else if b<a then 1 else 0
theorem AKq(a b:Int):Dn (a,b,())=some (AhN a b,()):=by
 rw[Gt,Ej]
 simp only[LN,LO,OJ,AjT]
 unfold AhN
 rw[Ai,Ai]
 by_cases h:a<b
 ·rw[AjG h,AjV h]
 ·rw[AjF h,AjS h]
  by_cases h':b<a
  ·rw[AjG h',AjV h']
  ·rw[AjF h',AjS h']
theorem AgW(a b:Int):orI ([a,b],())=some (if a=0 then b else a,()):=by
 rw[AJT,AGN]
 have e:=HD (step:=Fp) (fun i=>(0,[a,b],AI [a,b],(i:Int),())) [a,b] (fun x => !decide (x=0)) (fun i=>.inl ([a,b].getD i 0,())) (.inr (.inl (0,()))) (by simp)
  (fun i x hi hx=>by
   rw[Fp,AL,AO,AjG hi]
   simp only[Ag hx,Ar]
   have hi2:i<2:=hi
   rw[AN (by omega)]
   have hg:[a,b].getD i 0=x:=by rw[AjK,hx];rfl
   rw[hg]
   by_cases h:x=0
   ·simp[h]
   ·simp[h])
  (by rw[Fp,AL,AO,AjF (by omega)])
 have e':AW Fp many (0,[a,b],AI [a,b],(0:Int),())=_:=e
 rw[e']
 by_cases h:a=0
 ·by_cases h':b=0
  ·simp[h,h']
  ·simp[h,h',Alc]
 ·simp[h,Alc]
theorem AJ2(p x:Tie):∃ y,KZ (p,x,())=some (y,())∧ile 0 y = !decide (ahead p x):=by
 rw[XK,LX]
 simp only[AKq,AgW]
 refine⟨_,rfl,?_⟩
 rw[Ax]
 by_cases h:ahead p x
 ·rw[AjG h]
  unfold ahead at h
  unfold AhN
  rw[AjF];· rfl
  split<;>split<;>(try split)<;>omega
 ·rw[AjF h]
  unfold ahead at h
  unfold AhN
  rw[AjG];· rfl
  split<;>split<;>(try split)<;>omega
def MW(N:Nat)(ts:List Tie)(i:Nat):Prop:=
 0≤(ts.getD i zT).1∧(ts.getD i zT).1<(ts.getD i zT).2.1∧(ts.getD i zT).2.1<(N:Int)∧0≤(ts.getD i zT).2.2.1∧(ts.getD i zT).2.2.1≤Hq N∧(i=0∨ahead (ts.getD (i-1) zT) (ts.getD i zT))
instance (N:Nat)(ts:List Tie)(i:Nat):Decidable (MW N ts i):=inferInstanceAs (Decidable (_∧_∧_∧_∧_∧_))
def trs(ts:List Tie)(k:Nat):List Edge:=(List.range k).foldl (fun a i=>if(ts.getD i zT).2.2.2.1=true then a++[ed (ts.getD i zT)]else a) []
theorem ALk{α β ρ:Type}(P:β→Prop)[DecidablePred P](g:β→α→α)(fin:α→ρ)(rt:ρ):∀ (xs:List β) (a:α),walk (fun x a=>if P x then .inl (g x a)else .inr rt) fin xs a=if ∀ x∈xs,P x then fin (xs.foldl (fun a x=>g x a) a)else rt:=by
 intro xs
 induction xs with
 |nil=>intro a;simp[walk]
 |cons x xs ih=>
  intro a
  rw[walk]
  by_cases h:P x
  ·rw[AjV h]
   simp only[]
   rw[ih]
   simp[h]
  ·rw[AjS h]
   simp[h]
theorem ZS(ts:List Tie)(k:Nat):trs ts (k+1)=if(ts.getD k zT).2.2.2.1=true then trs ts k++[ed (ts.getD k zT)]else trs ts k:=by
 unfold trs
 rw[Aki,List.foldl_append]
 rfl
theorem AHe(ts:List Tie):∀ k,(trs ts k).length≤k:=by
 intro k
 induction k with
 |zero=>exact AjR _
 |succ k ih=>
  rw[ZS]
  split
  ·rw[AjQ];simp;omega
  ·omega
theorem AfV(ts:List Tie)(e:Edge):∀ k,e∈trs ts k→∃ i,i<k∧e=ed (ts.getD i zT):=by
 intro k
 induction k with
 |zero=>intro h;simp[trs]at h
 |succ k ih=>
  intro h
  rw[ZS]at h
  split at h
  ·rcases AjL.1 h with h|h
   ·obtain⟨i,h1,h2⟩:=ih h;exact⟨i,by omega,h2⟩
   ·simp only[Aje]at h;exact⟨k,by omega,h⟩
  ·obtain⟨i,h1,h2⟩:=ih h;exact⟨i,by omega,h2⟩
def oks(N:Nat)(ts:List Tie):Prop:=∀ i∈List.range ts.length,MW N ts i
instance (N:Nat)(ts:List Tie):Decidable (oks N ts):=inferInstanceAs (Decidable (∀ i∈List.range ts.length,MW N ts i))
theorem AOy(N:Nat)(hN:N≤64)(ts:List Tie)(hs:ts.length≤400):
  AW D2 many ((N:Int),ts,Hq N,ts,AI ts,(0:Int),())=some (if oks N ts then .inr (.inl ((N:Int),ts,()))else .inl (false,())):=by
 have e:=DZ (step:=D2) (fun i (_:Unit)=>((N:Int),ts,Hq N,ts,AI ts,(i:Int),())) (List.range ts.length) (fun i a=>if MW N ts i then .inl a else .inr (.inl (false,()))) (fun _=>.inr (.inl ((N:Int),ts,()))) (fun _ _=>True) (by simp;omega)
  (fun i x a hi hx _=>by
   have:=Dh hx
   subst this
   rw[Ajx]at hi
   have step:D2 ((N:Int),ts,Hq N,ts,AI ts,(x:Int),())=if MW N ts x then some (.inl ((N:Int),ts,Hq N,ts,AI ts,((x+1:Nat):Int),()))else some (.inr (.inl (false,()))):=by
    rw[D2,AL,AO,AjG hi]
    simp only[Cc zT hi]
    obtain⟨t,ht⟩:∃ t,ts.getD x zT=t:=⟨_,rfl⟩
    have hk:MW N ts x↔(0≤t.1∧t.1<t.2.1∧t.2.1<(N:Int)∧0≤t.2.2.1∧t.2.2.1≤Hq N∧(x=0∨ahead (ts.getD (x-1) zT) t)):=by unfold MW;rw[ht]
    rw[ht]
    rw[Ai,Ax,Ax,Ai,Ai]
    by_cases h1:t.1<0
    ·rw[AjG h1,AjS (fun h=>by obtain⟨q1,q2,q3,q4,q5,_⟩:=hk.1 h;omega)]
    rw[AjF h1]
    by_cases h2:t.2.1≤t.1
    ·rw[AjG h2,AjS (fun h=>by obtain⟨q1,q2,q3,q4,q5,_⟩:=hk.1 h;omega)]
    rw[AjF h2]
    by_cases h3:(N:Int)≤t.2.1
    ·rw[AjG h3,AjS (fun h=>by obtain⟨q1,q2,q3,q4,q5,_⟩:=hk.1 h;omega)]
    rw[AjF h3]
    by_cases h4:t.2.2.1<0
    ·rw[AjG h4,AjS (fun h=>by obtain⟨q1,q2,q3,q4,q5,_⟩:=hk.1 h;omega)]
    rw[AjF h4]
    by_cases h5:Hq N<t.2.2.1
    ·rw[AjG h5,AjS (fun h=>by obtain⟨q1,q2,q3,q4,q5,_⟩:=hk.1 h;omega)]
    rw[AjF h5]
    simp only[]
    rw[AN (by omega),Ai]
    by_cases h6:x=0
    ·subst h6
     rw[AjF (by omega),AjV (hk.2 ⟨by omega,by omega,by omega,by omega,by omega,.inl rfl⟩)]
    ·rw[AjG (by omega),Ah (by omega),show((x:Int)-1)=((x-1:Nat):Int) by omega]
     simp only[Cc zT (show x-1<ts.length by omega)]
     obtain⟨y,ey,hy⟩:=AJ2 (ts.getD (x-1) zT) t
     have ey':KZ (((ts.getD (x-1) zT).1,((ts.getD (x-1) zT).2.1,((ts.getD (x-1) zT).2.2.1,((ts.getD (x-1) zT).2.2.2.1,())))),(t.1,(t.2.1,(t.2.2.1,(t.2.2.2.1,())))),())=some (y,()):=ey
     simp only[ey',hy]
     by_cases h7:ahead (ts.getD (x-1) zT) t
     ·rw[AjG h7,AjV (hk.2 ⟨by omega,by omega,by omega,by omega,by omega,.inr h7⟩)]
      rfl
     ·rw[AjF h7,AjS (fun h=>by rcases(hk.1 h).2.2.2.2.2 with h|h;exact h6 h;exact h7 h)]
      rfl
   by_cases h:MW N ts x
   ·rw[AjV h]at step ⊢
    refine⟨fun m' h' => ?_,fun r h'=>(by cases h')⟩
    cases h'
    exact⟨step,trivial⟩
   ·rw[AjS h]at step ⊢
    refine⟨fun m' h'=>(by cases h'),fun r h' => ?_⟩
    cases h'
    exact step)
  (fun a _=>by rw[D2,Ajx,AL,AO,AjF (by omega)]) () trivial
 have e':AW D2 many ((N:Int),ts,Hq N,ts,AI ts,(0:Int),())=_:=e
 rw[e',ALk (MW N ts) (fun _ a=>a)]
 rfl
theorem Qr(N:Nat)(hN:N≤64)(ts:List Tie)(hs:ts.length≤400):
  AW C1 many ((N:Int),ts,[],(0:Int),())=some (if oks N ts then .inr (.inl ((N:Int),ts,trs ts ts.length,()))else .inl (false,())):=by
 have e:=DZ (step:=C1) (fun i (a:List Edge)=>((N:Int),ts,a,(i:Int),())) (List.range ts.length) (fun i a=>if MW N ts i then .inl (if(ts.getD i zT).2.2.2.1=true then a++[ed (ts.getD i zT)]else a)else .inr (.inl (false,()))) (fun a=>.inr (.inl ((N:Int),ts,a,()))) (fun i a=>a.length≤i) (by simp;omega)
  (fun i x a hi hx ha=>by
   have:=Dh hx
   subst this
   rw[Ajx]at hi
   have step:C1 ((N:Int),ts,a,(x:Int),())=if MW N ts x then some (.inl ((N:Int),ts,if(ts.getD x zT).2.2.2.1=true then a++[ed (ts.getD x zT)]else a,((x+1:Nat):Int),()))else some (.inr (.inl (false,()))):=by
    rw[C1,AL,AO,AjG hi]
    simp only[Cc zT hi,N5 N hN]
    obtain⟨t,ht⟩:∃ t,ts.getD x zT=t:=⟨_,rfl⟩
    have hk:MW N ts x↔(0≤t.1∧t.1<t.2.1∧t.2.1<(N:Int)∧0≤t.2.2.1∧t.2.2.1≤Hq N∧(x=0∨ahead (ts.getD (x-1) zT) t)):=by unfold MW;rw[ht]
    rw[ht]
    rw[Ai,Ax,Ax,Ai,Ai]
    by_cases h1:t.1<0
    ·rw[AjG h1,AjS (fun h=>by obtain⟨q1,q2,q3,q4,q5,_⟩:=hk.1 h;omega)]
    rw[AjF h1]
    by_cases h2:t.2.1≤t.1
    ·rw[AjG h2,AjS (fun h=>by obtain⟨q1,q2,q3,q4,q5,_⟩:=hk.1 h;omega)]
    rw[AjF h2]
    by_cases h3:(N:Int)≤t.2.1
    ·rw[AjG h3,AjS (fun h=>by obtain⟨q1,q2,q3,q4,q5,_⟩:=hk.1 h;omega)]
    rw[AjF h3]
    by_cases h4:t.2.2.1<0
    ·rw[AjG h4,AjS (fun h=>by obtain⟨q1,q2,q3,q4,q5,_⟩:=hk.1 h;omega)]
    rw[AjF h4]
    by_cases h5:Hq N<t.2.2.1
    ·rw[AjG h5,AjS (fun h=>by obtain⟨q1,q2,q3,q4,q5,_⟩:=hk.1 h;omega)]
    rw[AjF h5]
    simp only[AL]
    have hfit:fits ((a.length:Int)+(([(t.1,t.2.1,())]:List Edge).length:Int))=true:=BY (by simp;omega)
    rw[AN (by omega),Ai]
    by_cases h6:x=0
    ·subst h6
     rw[AjF (by omega),AjV (hk.2 ⟨by omega,by omega,by omega,by omega,by omega,.inl rfl⟩)]
     cases ht4:t.2.2.2.1
     ·simp
     ·simp only[hfit]
      simp[ed,A2]
    ·rw[AjG (by omega),Ah (by omega),show((x:Int)-1)=((x-1:Nat):Int) by omega]
     simp only[Cc zT (show x-1<ts.length by omega),Ar]
     generalize ts.getD (x-1) zT=p at hk ⊢
     rw[Ai,Ax]
     by_cases h7:t.1<p.1
     ·rw[AjG h7,AjS (fun h=>by rcases(hk.1 h).2.2.2.2.2 with h|h|h<;>omega)]
     rw[AjF h7]
     by_cases h8:p.1=t.1
     ·rw[AjG h8]
      by_cases h9:t.2.1≤p.2.1
      ·rw[AjG h9,AjS (fun h=>by rcases(hk.1 h).2.2.2.2.2 with h|h|h<;>omega)]
      rw[AjF h9,AjV (hk.2 ⟨by omega,by omega,by omega,by omega,by omega,.inr (.inr ⟨h8,by omega⟩)⟩)]
      cases ht4:t.2.2.2.1
      ·simp
      ·simp only[hfit]
       simp[ed,A2]
     ·rw[AjF h8,AjV (hk.2 ⟨by omega,by omega,by omega,by omega,by omega,.inr (.inl (by omega))⟩)]
      cases ht4:t.2.2.2.1
      ·simp
      ·simp only[hfit]
       simp[ed,A2]
   by_cases h:MW N ts x
   ·rw[AjV h]at step ⊢
    refine⟨fun m' h' => ?_,fun r h'=>(by cases h')⟩
    cases h'
    refine⟨step,?_⟩
    split
    ·rw[AjQ];simp;omega
    ·omega
   ·rw[AjS h]at step ⊢
    refine⟨fun m' h'=>(by cases h'),fun r h' => ?_⟩
    cases h'
    exact step)
  (fun a _=>by rw[C1,Ajx,AL,AO,AjF (by omega)]) [] (AjR _)
 have e':AW C1 many ((N:Int),ts,[],(0:Int),())=_:=e
 rw[e',ALk (MW N ts) (fun i a=>if(ts.getD i zT).2.2.2.1=true then a++[ed (ts.getD i zT)]else a)]
 rfl
end Go.Pev.Pl
end
end
section
section
namespace Go.Pev.Pl
theorem AWo{N:Nat}{ts:List Tie}(hN:N≤64){i:Nat}(h:MW N ts i):In (N:Int) (ed (ts.getD i zT)).1∧In (N:Int) (ed (ts.getD i zT)).2.1:=by
 obtain⟨q1,q2,q3,_⟩:=h
 exact⟨⟨by omega,by omega,q1,by show(ts.getD i zT).1<_;omega⟩,⟨by omega,by omega,by show 0≤(ts.getD i zT).2.1;omega,q3⟩⟩
theorem AQ8{N:Nat}{ts:List Tie}(hN:N≤64)(h:oks N ts):∀ e∈trs ts ts.length,In (N:Int) e.1∧In (N:Int) e.2.1:=by
 intro e he
 obtain⟨i,hi,rfl⟩:=AfV ts e _ he
 exact AWo hN (h i (by simp[hi]))
theorem Aic{N:Nat}{ts:List Tie}(hN:N≤64)(h:oks N ts):∀ e∈ts.map ed,In (N:Int) e.1∧In (N:Int) e.2.1:=by
 intro e he
 obtain⟨t,ht,rfl⟩:=Ajc.1 he
 obtain⟨i,hi,rfl⟩:=Aku ht
 have:=AWo hN (h i (by simp[hi]))
 simpa [hi]using this
theorem ATz{N:Nat}(ts:List Tie)(hs:ts.length≤400)(h:oks N ts):Pm (((N:Int),(ts,())),(0:Int),())=some (trs ts ts.length,()):=by
 rw[T4,ND]
 have e:=DZ (step:=Cr) (fun i (a:List Edge)=>((0:Int),a,ts,AI ts,(i:Int),())) (List.range ts.length) (fun i a=>.inl (if(ts.getD i zT).2.2.2.1=true then a++[ed (ts.getD i zT)]else a)) (fun a=>.inl (a,())) (fun i a=>a.length≤i) (by simp;omega)
  (fun i x a hi hx ha=>by
   refine⟨fun m' h' => ?_,fun r h'=>(by cases h')⟩
   cases h'
   have:=Dh hx
   subst this
   rw[Ajx]at hi
   have hlv:=(h x (by simp[hi])).2.2.2.1
   constructor
   ·rw[Cr,AL,AO,AjG hi]
    simp only[Cc zT hi,AL]
    have hfit:fits ((a.length:Int)+(([((ts.getD x zT).1,(ts.getD x zT).2.1,())]:List Edge).length:Int))=true:=BY (by simp;omega)
    rw[AN (by omega),Ax,AjG hlv]
    cases ht4:(ts.getD x zT).2.2.2.1
    ·simp
    ·simp only[hfit]
     simp[ed,A2]
   ·split
    ·rw[AjQ];simp;omega
    ·omega)
  (fun a _=>by rw[Cr,Ajx,AL,AO,AjF (by omega)]) [] (AjR _)
 have e':AW Cr many ((0:Int),[],ts,AI ts,(0:Int),())=_:=e
 simp only[e']
 rw[Bd (fun i a=>if(ts.getD i zT).2.2.2.1=true then a++[ed (ts.getD i zT)]else a)]
 rfl
def cnt(out:List Int)(N:Nat):Nat:=((List.range N).filter fun k=>decide (out.getD k 0=(k:Int))).length
theorem AM3{N:Nat}{rings:List (List Int)}{l:List Edge}{out:List Int}(h:FC (N:Int) rings l)(hc:MY (N:Int) l out):rings.length=cnt out N:=by
 have hsz:=h.fr.sz
 have hp:(rings.map hd).Perm (((List.range N).filter fun k=>decide (out.getD k 0=(k:Int))).map fun(k:Nat)=>(k:Int)):=by
  rw[List.perm_ext_iff_of_nodup]
  ·intro a
   simp only[Ajc,Ajp,AkP,AjI]
   constructor
   ·rintro⟨A,hA,rfl⟩
    have gA:=h.fr.rg A hA
    have ih:In (N:Int) (hd A):=OT gA
    have hh:=UQ gA.2.1
    have:=APT h hc hA ih hh
    obtain⟨_,_,a1,a2⟩:=ih
    refine⟨(hd A).toNat,⟨by omega,?_⟩,by omega⟩
    rw[show out.getD (hd A).toNat 0=cl out (hd A)from rfl,← this]
    omega
   ·rintro⟨k,⟨hk,ho⟩,rfl⟩
    have ik:In (N:Int) (k:Int):=⟨hsz.1,hsz.2,by omega,by omega⟩
    obtain⟨A,hA,hm⟩:=h.fr.cov _ ik
    refine⟨A,hA,?_⟩
    rw[APT h hc hA ik hm]
    unfold cl
    rw[AkA];exact ho
  ·exact(Ake.2 h.fr.up).imp (fun h=>by omega)
  ·refine List.Pairwise.map _ (S:=fun a b=>a≠b) (R:=fun a b=>a≠b) (fun a b h h'=>h (by omega)) ?_
   exact(AmW).filter _
 have:=hp.length_eq
 rw[AkM,AkM]at this
 exact this
theorem Oo(N:Nat)(hN:N≤64)(p:List Tie)(q:List Edge)(out:List Int)(ho:out.length=N):AW Df many ((N:Int),p,q,out,(0:Int),(0:Int),())=some (.inl ((N:Int),p,q,(cnt out N:Int),())):=by
 have e:=DZ (step:=Df) (fun i (a:Nat)=>((N:Int),p,q,out,(a:Int),(i:Int),())) (List.range N) (fun k a=>.inl (if out.getD k 0=(k:Int)then a+1 else a)) (fun a=>.inl ((N:Int),p,q,(a:Int),())) (fun i a=>a≤i) (by simp;omega)
  (fun i x a hi hx ha=>by
   refine⟨fun m' h' => ?_,fun r h'=>(by cases h')⟩
   cases h'
   have:=Dh hx
   subst this
   rw[Ajx]at hi
   constructor
   ·rw[Df,AO,AjG hi]
    simp only[Cc 0 (show x<out.length by omega),Eg,Ar]
    rw[AN (by omega),AN (by omega)]
    by_cases h:out.getD x 0=(x:Int)
    ·rw[AjG h,AjV h]
    ·rw[AjF h,AjS h]
   ·split<;>omega)
  (fun a _=>by rw[Df,Ajx,AO,AjF (by omega)]) 0 (AjR _)
 have e':AW Df many ((N:Int),p,q,out,(0:Int),(0:Int),())=_:=e
 rw[e',Bd (fun k a=>if out.getD k 0=(k:Int)then a+1 else a)]
 have key:∀ (xs:List Nat) (a:Nat),xs.foldl (fun a k=>if out.getD k 0=(k:Int)then a+1 else a) a=a+(xs.filter fun k=>decide (out.getD k 0=(k:Int))).length:=by
  intro xs
  induction xs with
  |nil=>intro a;rfl
  |cons x xs ih=>
   intro a
   rw[AkC,ih,AkL]
   by_cases h:out.getD x 0=(x:Int)
   ·simp only[h,Ajs,AjU,AjP];omega
   ·simp only[h,Ajb,Aji,Aja]
 rw[key,AkK]
 rfl
theorem ADn(n:Int)(ts:List Tie)(hl:ts.length<4611686018427387904):∃ b:Bool,C2 ((n,(ts,())),())=some (b,())∧Pn ((n,(ts,())),())=some (b,())∧(b=true→∃ N:Nat,n=(N:Int)∧1≤N∧N≤64∧ts.length≤400∧oks N ts):=by
 by_cases hn:¬ (1≤n∧n≤64)
 ·refine⟨false,?_,?_,fun h=>by cases h⟩
  ·rw[Fg,Eo,Ai,Ai]
   by_cases h:n<1
   ·simp only[AjG h]
   ·simp only[AjF h,AjG (show 64<n by omega)]
  ·rw[KW,ID]
   simp only[T5,NF,Ax]
   by_cases h:1≤n
   ·simp only[AjG h,AjF (show ¬ n≤64 by omega),Ajw]
   ·simp only[AjF h,Ajw]
 have hn:=Alr.1 hn
 obtain⟨N,rfl⟩:=AjO (show 0≤n by omega)
 have hsz:T6 ((N:Int),())=some (true,()):=by
  simp only[T5,NF,Ax,AjG hn.1,AjG hn.2]
 by_cases h4:¬ ts.length≤400
 ·refine⟨false,?_,?_,fun h=>by cases h⟩
  ·rw[Fg,Eo]
   simp only[Ai,AL]
   rw[AjF (show ¬ (N:Int)<1 by omega),AjF (show ¬ 64<(N:Int) by omega),AjG (show 400<(ts.length:Int) by omega)]
  ·rw[KW,ID]
   simp only[hsz,AjT,Ai,AL]
   rw[AjG (show 400<(ts.length:Int) by omega)]
 have h4:=Alr.1 h4
 have R:=Qr N (by omega) ts h4
 have L:=AOy N (by omega) ts h4
 by_cases ho:¬ oks N ts
 ·rw[AjS ho]at R L
  refine⟨false,?_,?_,fun h=>by cases h⟩
  ·rw[Fg,Eo]
   simp only[Ai,AL]
   rw[AjF (show ¬ (N:Int)<1 by omega),AjF (show ¬ 64<(N:Int) by omega),AjF (show ¬ 400<(ts.length:Int) by omega)]
   simp only[R]
  ·rw[KW,ID]
   simp only[hsz,AjT,Ai,AL,AOu N (by omega)]
   rw[AjF (show ¬ 400<(ts.length:Int) by omega)]
   rw[AL]at L
   simp only[L]
 have ho:=Alr.1 ho
 rw[AjV ho]at R L
 have hin:=AQ8 (show N≤64 by omega) ho
 have hlen:=AHe ts ts.length
 obtain⟨out,hc,hcl⟩:=DS (N:Int) (trs ts ts.length) hn (by omega) hin
 rcases(AXJ (N:Int) (trs ts ts.length) hn (by omega)).symm with⟨hno,_⟩|⟨_,rings,hf,hfc⟩
 ·exact absurd hin hno
 have hcount:=AM3 hfc hcl
 have hol:out.length=N:=by have:=hcl.len;omega
 refine⟨decide ((cnt out N:Int)=(N:Int)-(trs ts ts.length).length),?_,?_,fun _=>⟨N,rfl,by omega,by omega,h4,ho⟩⟩
 ·rw[Fg,Eo]
  simp only[Ai,AL]
  rw[AjF (show ¬ (N:Int)<1 by omega),AjF (show ¬ 64<(N:Int) by omega),AjF (show ¬ 400<(ts.length:Int) by omega)]
  simp only[R,hc,Oo N (by omega) _ _ out hol,Ar]
  rw[Ah (by omega)]
 ·rw[KW,ID]
  simp only[hsz,AjT,Ai,AL,AOu N (by omega)]
  rw[AjF (show ¬ 400<(ts.length:Int) by omega)]
  rw[AL]at L
  simp only[L,ATz ts h4 ho,hf,OJ,Ar,hcount]
  rw[Ah (by omega)]
end Go.Pev.Pl
end
section
namespace Go.Pev.Pl
theorem MY.unique{N:Nat}{l:List Edge}{a b:List Int}(h1:1≤N)(h2:N≤64)(ha:MY (N:Int) l a)(hb:MY (N:Int) l b):a=b:=by
 have la:=ha.len
 have lb:=hb.len
 refine HP (0:Int) (by omega) fun k hk => ?_
 have ik:In (N:Int) (k:Int):=⟨by omega,by omega,by omega,by omega⟩
 have e1:=ha.least _ _ ik (hb.isin _ ik) (hb.con _ ik)
 have e2:=hb.least _ _ ik (ha.isin _ ik) (ha.con _ ik)
 unfold cl at e1 e2
 rw[AkA]at e1 e2
 omega
theorem AaX(xs:List Tie)(a:List Edge):xs.foldl (fun a x=>a++[ed x]) a=a++xs.map ed:=AaY ed xs a
theorem APy(n:Int)(ts:List Tie)(hs:ts.length≤400)(h:C2 ((n,(ts,())),())=some (true,())):Rj ((n,(ts,())),())=some (ts.map ed,()):=by
 rw[AC8,ON]
 simp only[h,AjT]
 have e:=DZ (step:=Ef) (fun i (a:List Edge)=>(n,ts,a,(i:Int),())) ts (fun x a=>.inl (a++[ed x])) (fun a=>.inl (a,())) (fun i a=>a.length≤i) (by omega)
  (fun i x a hi hx ha=>by
   refine⟨fun m' h' => ?_,fun r h'=>(by cases h')⟩
   cases h'
   constructor
   ·rw[Ef]
    simp only[AL]
    rw[AO,AjG hi]
    simp only[Ag hx]
    rw[BY (by simp;omega),AN (by omega)]
    rfl
   ·rw[AjQ];simp;omega)
  (fun a _=>by rw[Ef,AL,AO,AjF (by omega)]) [] (AjR _)
 have e':AW Ef many (n,ts,[],(0:Int),())=_:=e
 simp only[e']
 rw[Bd (fun x a=>a++[ed x]),AaX]
 rfl
def InV(N:Nat)(x:Int):Prop:=0≤x∧x<(N:Int)
instance (N:Nat)(x:Int):Decidable (InV N x):=inferInstanceAs (Decidable (_∧_))
theorem Ae3{N:Nat}{out:List Int}(ho:out.length=N){u:Int}(h:InV N u):idx out u=some (cl out u):=by
 obtain⟨U,rfl⟩:=AjO h.1
 have:=h.2
 rw[Cc 0 (by omega)]
 unfold cl;rw[AkA]
end Go.Pev.Pl
end
section
namespace Go.Pev.Pl
end Go.Pev.Pl
end
section
namespace Go.Pev.Pl
def Ag5(l:List Edge)(u v:Int):Prop:=((u,(v,())):Edge)∈l∨((v,(u,())):Edge)∈l
instance (l:List Edge)(u v:Int):Decidable (Ag5 l u v):=inferInstanceAs (Decidable (_∨_))
def Af9(N:Nat)(l:List Edge)(u:Nat):List Edge:=((List.range (N-(u+1))).filter fun i=>decide (Ag5 l (u:Int) ((u+1+i:Nat):Int))).map fun(i:Nat)=>((u:Int),((u+1+i:Nat):Int),())
def AAo(N:Nat)(l:List Edge):List Edge:=(List.range N).flatMap fun u=>Af9 N l u
theorem AKY{α β:Type}(P:β→Prop)[DecidablePred P](g:β→α):∀ (xs:List β) (a:List α),xs.foldl (fun a x=>if P x then a++[g x]else a) a=a++(xs.filter fun x=>decide (P x)).map g:=by
 intro xs
 induction xs with
 |nil=>intro a;simp
 |cons x xs ih=>
  intro a
  rw[AkC,ih,AkL]
  by_cases h:P x
  ·simp[h]
  ·simp[h]
end Go.Pev.Pl
end
section
namespace Go.Pev.Pl
def Kj(N:Nat)(ts:List Tie)(l:List Edge):List Edge:=(AAo N l).filter fun x => !decide (x∈ts.map ed)
def AAk(l:List Tie)(t:Tie):List Tie:=l.take (l.findIdx fun x => !decide (ahead x t))++t::l.drop (l.findIdx fun x => !decide (ahead x t))
end Go.Pev.Pl
end
section
namespace Go.Pev.Pl
def valid(N:Nat)(t:Tie):Prop:=0≤t.1∧t.1<t.2.1∧t.2.1<(N:Int)∧0≤t.2.2.1∧t.2.2.1≤Hq N
theorem ahead.trans{a b c:Tie}(h:ahead a b)(h':ahead b c):ahead a c:=by
 unfold ahead at *
 omega
theorem Q6(N:Nat)(ts:List Tie):oks N ts↔(∀ t∈ts,valid N t)∧ts.Pairwise ahead:=by
 constructor
 ·intro h
  have hv:∀ i,i<ts.length→MW N ts i:=fun i hi=>h i (by simpa using hi)
  refine⟨fun t ht => ?_,?_⟩
  ·obtain⟨i,hi,rfl⟩:=Aku ht
   obtain⟨q1,q2,q3,q4,q5,_⟩:=hv i hi
   simp only[AjK,AjM hi,Aju]at q1 q2 q3 q4 q5
   exact⟨q1,q2,q3,q4,q5⟩
  ·have key:∀ (d i:Nat),i+d+1<ts.length→ahead (ts.getD i zT) (ts.getD (i+d+1) zT):=by
    intro d
    induction d with
    |zero=>
     intro i hi
     obtain⟨_,_,_,_,_,q⟩:=hv (i+0+1) hi
     rcases q with q|q
     ·omega
     ·simpa using q
    |succ d ih=>
     intro i hi
     have h1:=ih i (by omega)
     obtain⟨_,_,_,_,_,q⟩:=hv (i+(d+1)+1) hi
     rcases q with q|q
     ·omega
     ·rw[show i+(d+1)+1-1=i+d+1 by omega]at q
      exact h1.trans q
   rw[Akt]
   intro i j hi hj hij
   have:=key (j-i-1) i (by omega)
   rw[show i+(j-i-1)+1=j by omega]at this
   simpa only[AjK,AjM hi,AjM hj,Aju]using this
 ·rintro⟨h1,h2⟩ i hi
  have hi:i<ts.length:=by simpa using hi
  have e:∀ j (hj:j<ts.length),ts.getD j zT=ts[j]:=fun j hj=>by
   simp only[AjK,AjM hj,Aju]
  obtain⟨q1,q2,q3,q4,q5⟩:=h1 ts[i] (Akc hi)
  unfold MW
  rw[e i hi]
  refine⟨q1,q2,q3,q4,q5,?_⟩
  by_cases h0:i=0
  ·exact .inl h0
  ·right
   rw[e (i-1) (by omega)]
   exact(Akt.1 h2) (i-1) i (by omega) hi (by omega)
theorem AF7(l:List Tie)(t:Tie):(AAk l t).Perm (t::l):=by
 unfold AAk
 refine List.perm_middle.trans ?_
 rw[AkD]
theorem AYs{l:List Tie}{t:Tie}(h:l.Pairwise ahead)(hn:∀ x∈l,¬ (x.1=t.1∧x.2.1=t.2.1)):(AAk l t).Pairwise ahead:=by
 induction l with
 |nil=>simp[AAk]
 |cons a l ih=>
  rw[Aj9]at h
  have hna:=hn a (by simp)
  have hnl:∀ x∈l,¬ (x.1=t.1∧x.2.1=t.2.1):=fun x hx=>hn x (by simp[hx])
  by_cases ha:ahead a t
  ·have e:AAk (a::l) t=a::AAk l t:=by
    unfold AAk
    rw[Alc]
    simp[ha]
   rw[e,Aj9]
   refine⟨fun x hx => ?_,ih h.2 hnl⟩
   rcases AjN.1 ((AF7 l t).mem_iff.1 hx)with rfl|hx
   ·exact ha
   ·exact h.1 x hx
  ·have e:AAk (a::l) t=t::a::l:=by
    unfold AAk
    rw[Alc]
    simp[ha]
   have hta:ahead t a:=by unfold ahead at *;omega
   rw[e,Aj9,Aj9]
   refine⟨fun x hx => ?_,h.1,h.2⟩
   rcases AjN.1 hx with rfl|hx
   ·exact hta
   ·exact hta.trans (h.1 x hx)
end Go.Pev.Pl
end
section
namespace Go.Pev.Pl
theorem ATq(N:Nat)(l:List Edge)(x:Edge):x∈AAo N l↔0≤x.1∧x.1<x.2.1∧x.2.1<(N:Int)∧Ag5 l x.1 x.2.1:=by
 unfold AAo Af9
 simp only[AmV,Ajc,Ajp,AkP,AjI]
 constructor
 ·rintro⟨u,hu,i,⟨hi,he⟩,rfl⟩
  exact⟨by show(0:Int)≤(u:Int);omega,by show(u:Int)<((u+1+i:Nat):Int);omega,by show((u+1+i:Nat):Int)<(N:Int);omega,he⟩
 ·obtain⟨a,b,⟨⟩⟩:=x
  rintro⟨h1,h2,h3,h4⟩
  simp only at h1 h2 h3 h4
  obtain⟨u,rfl⟩:=AjO h1
  obtain⟨v,rfl⟩:=AjO (show 0≤b by omega)
  refine⟨u,by omega,v-(u+1),⟨by omega,?_⟩,?_⟩
  ·rw[show u+1+(v-(u+1))=v by omega];exact h4
  ·rw[show u+1+(v-(u+1))=v by omega]
def G5(p x:Edge):Prop:=p.1<x.1∨(p.1=x.1∧p.2.1<x.2.1)
theorem ANB(N:Nat)(l:List Edge):(AAo N l).Pairwise G5:=by
 unfold AAo
 rw[List.pairwise_flatMap]
 refine⟨fun u _ => ?_,?_⟩
 ·unfold Af9
  rw[Ake]
  refine Al1 _ ?_
  refine List.pairwise_lt_range.imp fun h => ?_
  exact .inr ⟨rfl,by show((u+1+_:Nat):Int)<((u+1+_:Nat):Int);omega⟩
 ·refine List.pairwise_lt_range.imp fun h x hx y hy => ?_
  unfold Af9 at hx hy
  simp only[Ajc]at hx hy
  obtain⟨i,_,rfl⟩:=hx
  obtain⟨j,_,rfl⟩:=hy
  exact .inl (by simp only;omega)
theorem To(N:Nat)(ts:List Tie)(l:List Edge)(x:Edge):x∈Kj N ts l↔(0≤x.1∧x.1<x.2.1∧x.2.1<(N:Int)∧Ag5 l x.1 x.2.1)∧¬ x∈ts.map ed:=by
 unfold Kj
 rw[Ajp,ATq]
 simp
theorem AVL(N:Nat)(ts:List Tie)(l:List Edge):(Kj N ts l).Pairwise G5:=(ANB N l).filter _
end Go.Pev.Pl
end
section
namespace Go.Pev.Pl
open Tok
instance (n v:Int):Decidable (In n v):=inferInstanceAs (Decidable (_∧_))
instance (n:Int):Decidable (Sz n):=inferInstanceAs (Decidable (_∧_))
theorem IH(n v:Int):AJ8 (n,v,())=some (decide (In n v),()):=by
 rw[Ag1,AUa]
 simp only[Ax,Ai]
 by_cases h1:1≤n<;>by_cases h2:n≤64<;>by_cases h3:0≤v<;>simp[In,h1,h2,h3]
theorem AG3(n u v:Int):AQX (n,u,v,())=some (EG n u v,()):=by
 rw[AfD,ALI]
 simp only[IH,EG,Ar]
 by_cases h1:In n u
 ·by_cases h2:In n v
  ·by_cases h3:u=v
   ·simp[h1,h2,h3]
   ·obtain⟨a1,a2,a3,a4⟩:=h1
    obtain⟨b1,b2,b3,b4⟩:=h2
    have hb:=Fq a1 a2 a3 (by omega)
    have e1:u*n=n*u:=Int.mul_comm _ _
    have e2:n*(u+1)=n*u+n:=by rw[AmK,AmL]
    rw[e1,Ah (n:=n*u) (by omega),Ah (n:=n+n*u) (by omega),Ah (n:=n+n*u+v) (by omega),e2]
    have e3:n+n*u+v=n*u+n+v:=by omega
    simp[In,a1,a2,a3,a4,b3,b4,h3,e3]
  ·simp[h1,h2]
 ·simp[h1]
theorem Wd(n t:Int)(ht:-9223372036854775808≤t∧t≤9223372036854775807):YY (n,t,())=some (Od (CD n t)):=by
 rw[ARH,S4]
 simp only[IH,Ai,Ax]
 by_cases hi:In n t
 ·simp only[hi,AjU,CD,Ajs,Od]
 ·simp only[hi,Aji]
  by_cases h1:n<1
  ·have hs:¬ Sz n:=fun h=>by have:=h.1;omega
   simp only[h1,AjU,CD,hi,Ajb,hs,AlS,Od]
  ·simp only[h1,Aji]
   by_cases h2:64<n
   ·have hs:¬ Sz n:=fun h=>by have:=h.2;omega
    simp only[h2,AjU,CD,hi,Ajb,hs,AlS,Od]
   ·have a1:1≤n:=by omega
    have a2:n≤64:=by omega
    have hb:=Fq (u:=n) a1 a2 (by omega) (by omega)
    have e3:n*(n+1)=n*n+n:=by rw[AmK,AmL]
    rw[Ah (n:=n*n) (by omega),Ah (n:=n+n*n) (by omega)]
    simp only[h2,Aji]
    by_cases h3:t<n
    ·have:¬ n≤t:=by omega
     simp only[h3,AjU,CD,hi,Ajb,this,AlS,and_false,Od]
    ·simp only[h3,Aji]
     by_cases h4:n+n*n≤t
     ·have:¬ t<n*(n+1):=by omega
      simp only[h4,AjU,CD,hi,Ajb,this,AlS,and_false,Od]
     ·obtain⟨d1,d2,d3⟩:=AKl (t:=t) ⟨a1,a2⟩ (by omega) (by omega)
      have q1:=d1.2.2.1
      have q2:=d1.2.2.2
      rw[Ah (n:=t-n) (by omega)]
      have hq:(t-n).tdiv n=t/n-1:=by
       rw[AlM (by omega)]
       have:=Int.add_mul_ediv_right t (-1) (show n≠0 by omega)
       rw[show t-n=t + -1*n by omega,this];omega
      have hm:(t-n).tmod n=t % n:=by
       rw[Int.tmod_eq_emod_of_nonneg (by omega)]
       have:=Int.add_mul_emod_self_right t (-1) n
       rw[show t-n=t + -1*n by omega,this]
      simp only[h4,Aji,TQ,TS,AIx,AAh]
      rw[AjS (by omega),AjS (by omega),hq,hm,Ah (n:=t/n-1) (by omega)]
      simp only[]
      rw[Ar,CD,AjS hi]
      by_cases h5:t/n-1=t % n
      ·rw[AjS (by intro h;exact h.2.2.2 h5),AjG h5];rfl
      ·rw[AjV ⟨⟨a1,a2⟩,by omega,by omega,h5⟩,AjF h5];rfl
theorem AOz(xs ys:List (List Int))(hs:xs.length<9223372036854775808)(hi:∀ x∈xs,x.length<9223372036854775808):AJw (xs,ys,())=some (decide (xs=ys),()):=by
 rw[AT8,T8,ACO]
 by_cases hl:xs.length=ys.length
 ·rw[AjG hl]
  simp only[AjT]
  rcases AMs (step:=Fu) (fun i=>(xs,ys,((i:Nat):Int),())) xs.length (fun i => !decide (xs.getD i []=ys.getD i [])) (fun _=>.inl (false,())) (.inr (.inl ())) hs (fun i hii=>by
   have hm:(xs.getD i []).length<9223372036854775808:=hi _ (by simp[hii])
   rw[Fu,AL,AO,AjG hii]
   simp (disch:=first|omega|exact hm) only[Cc ([]:List Int),AN,AUK]
   by_cases h:xs.getD i []=ys.getD i []
   ·rw[AjG h];simp
   ·rw[AjF h];simp) (by rw[Fu,AL,AO,AjF (by omega)])with⟨k,hk,hP,_,e⟩|⟨h,e⟩
  ·have e':AW Fu many (xs,ys,(0:Int),())=_:=e
   rw[e']
   have:xs≠ys:=XH ([]:List Int) (j:=k) (by simpa using hP)
   simp[this]
  ·have e':AW Fu many (xs,ys,(0:Int),())=_:=e
   rw[e']
   have:xs=ys:=HP ([]:List Int) hl fun j hj=>by simpa using h j hj
   simp[this]
 ·rw[AjF hl]
  have:xs≠ys:=fun e=>hl (by rw[e])
  simp[this]
theorem AOr(N:Nat)(hN:N≤64)(c:Int):∀ (k i n:Nat),i+k=N→k<n→AY KV n ((N:Int),c,(N:Int),BU i,(i:Int),())=some (.inl (c,(N:Int),BU N,())):=by
 intro k
 induction k with
 |zero=>
  intro i n hi hn
  obtain⟨n,rfl⟩:∃ k,n=k+1:=⟨n-1,by omega⟩
  have:i=N:=by omega
  subst this
  rw[AY,KV,AO,AjF (by omega)]
 |succ k ih=>
  intro i n hi hn
  obtain⟨n,rfl⟩:∃ k,n=k+1:=⟨n-1,by omega⟩
  rw[AY,KV,AO,AjG (by omega)]
  simp only[AL,Wk,AjP,Ajh]
  rw[BY (by omega),AN (by omega)]
  simp only[Cj,← Qk]
  exact ih (i+1) n (by omega) (by omega)
theorem ATx(n:Int):AJr (n,())=some (HL n):=by
 have hm:4294967296<many:=by simp only[many];omega
 rw[AZj,ABu,HL]
 simp only[Ai]
 by_cases h1:n<1
 ·have:¬ Sz n:=fun h=>by have:=h.1;omega
  simp[h1,this]
 ·by_cases h2:64<n
  ·have:¬ Sz n:=fun h=>by have:=h.2;omega
   simp[h1,h2,this]
  ·obtain⟨N,rfl⟩:=AjO (show 0≤n by omega)
   have hS:Sz (N:Int):=⟨by omega,by omega⟩
   have e:=AOr N (by omega) 0 N 0 many (by omega) (by omega)
   have e':AY KV many ((N:Int),0,(N:Int),[],(0:Int),())=_:=e
   simp[h1,h2,hS,An,e']
end Go.Pev.Pl
end
section
namespace Go.Pev.Pl
theorem Mv(xs:List Int)(t:Int)(hs:xs.length<9223372036854775808):OB (xs,t,())=some (pos xs t,()):=by
 rw[ASq,TV]
 have e:=HD (step:=H6) (fun i=>(xs,t,(i:Int),())) xs (fun x=>decide (x=t)) (fun i=>.inl ((i:Int),())) (.inr (.inl ())) hs
  (fun i x hi hx=>by
   rw[H6,AL,AO,AjG hi]
   simp only[Ag hx,Ar]
   by_cases h:x=t
   ·simp[h]
   ·simp only[h,Aji];rw[AN (by omega)];simp)
  (by rw[H6,AL,AO,AjF (by omega)])
 have e':AW H6 many (xs,t,(0:Int),())=_:=e
 rw[e',ALJ,pos]
 by_cases h:t∈xs<;>simp[h]
instance (xs:List Int):Decidable (Rt xs):=inferInstanceAs (Decidable (_∧_∧_))
theorem Mr(xs:List Int):Qt (xs,())=some (decide (Rt xs),()):=by
 rw[ASO,TP,AL,Ai]
 by_cases hl:xs.length≤1000
 ·rw[AjF (by omega)]
  simp only[]
  rcases AMs (step:=Fh) (fun i=>(xs,((i:Nat):Int),())) xs.length (fun i=>decide (xs.getD i 0<0)||decide (10000<xs.getD i 0)||decide (xs.getD i 0∈xs.take i)) (fun _=>.inl (false,())) (.inr (.inl ())) (by omega) (fun i hi=>by
   rw[Fh,AL,AO,AjG hi]
   have hpl:OB (xs.take i,xs.getD i 0,())=some (pos (xs.take i) (xs.getD i 0),()):=Mv _ _ (by simp;omega)
   simp (disch:=omega) only[Cc (0:Int),Hu,hpl,AN,Ai,Ax]
   by_cases h1:xs.getD i 0<0
   ·simp only[h1,AjU];simp
   ·by_cases h2:10000<xs.getD i 0
    ·simp only[h1,h2,AjU,Aji];simp
    ·by_cases h3:xs.getD i 0∈xs.take i
     ·obtain⟨k,e,_⟩:=AI1 h3
      rw[e]
      simp only[h1,h2,h3,AjU,Aji];simp
     ·rw[Qz h3]
      simp only[h1,h2,h3,Aji];simp) (by rw[Fh,AL,AO,AjF (by omega)])with⟨k,hk,hP,_,e⟩|⟨h,e⟩
  ·have e':AW Fh many (xs,(0:Int),())=_:=e
   rw[e']
   have:¬ Rt xs:=by
    rintro⟨_,h1,h2⟩
    have hm:xs.getD k 0∈xs:=by
     rw[AjK,AjM hk,Aju];exact Akc hk
    have:=h1 _ hm
    have h3:=(Q8 xs).1 h2 k hk
    have c1:¬ xs.getD k 0<0:=by omega
    have c2:¬ 10000<xs.getD k 0:=by omega
    rw[AjF c1,AjF c2,AjF h3]at hP
    cases hP
   simp[this]
  ·have e':AW Fh many (xs,(0:Int),())=_:=e
   rw[e']
   have:Rt xs:=by
    have key:∀ j,j<xs.length→¬ xs.getD j 0<0∧¬ 10000<xs.getD j 0∧xs.getD j 0∉xs.take j:=fun j hj=>by
     have:=h j hj
     rw[AlQ,AlQ,AkB,AkB,AkB]at this
     exact⟨this.1.1,this.1.2,this.2⟩
    refine⟨hl,fun x hx => ?_,(Q8 xs).2 fun j hj=>(key j hj).2.2⟩
    obtain⟨j,hj,rfl⟩:=Aku hx
    obtain⟨k1,k2,_⟩:=key j hj
    rw[AjK,AjM hj,Aju]at k1 k2
    omega
   simp[this]
 ·rw[AjG (by omega)]
  have:¬ Rt xs:=fun h=>hl h.1
  simp[this]
theorem P7(xs:List Int)(t:Int)(hs:xs.length<9223372036854775808):ACi (xs,t,())=some (JI xs t):=by
 rw[AaW,ACh,JI]
 simp only[Mv xs t hs,Mr]
 by_cases hr:Rt xs
 ·have hl:=hr.1
  simp only[hr,AjU,AjT,Ala]
  by_cases h:t∈xs
  ·have hk:xs.findIdx (fun x=>decide (x=t))<xs.length:=Ak2.2 ⟨t,h,by simp⟩
   rw[pos,AjV h,AjV h,A7,rot]
   generalize xs.findIdx (fun x=>decide (x=t))=k at *
   rw[Ai,AjF (by omega)]
   simp only[Da (Ak4 hk),Hu (Ak4 hk)]
   rw[BY (by simp only[AL,Ajh,Ajt];omega)]
   simp only[]
   rw[BY (by simp only[AL,Cj,Ajv,AjY,Ajt];omega)]
   simp only[Cj,Ajv]
  ·rw[Qz h,AjS h,Ai]
   simp
 ·simp[hr]
theorem Wq(xs:List Int):Yh (xs,())=some (plain xs,()):=by
 rw[ASl,TT,plain]
 simp only[Mr]
 by_cases hr:Rt xs
 ·have hl:=hr.1
  simp only[hr,AjU,AjT,Ala]
  cases xs with
  |nil=>simp[AL,B9]
  |cons x xs=>
   rw[AL,Ar,AjF (by simp only[AjP];omega)]
   have i0:idx (x::xs) (0:Int)=some x:=by rw[EK];rfl
   simp only[i0]
   have e:=DZ (step:=H4) (fun i (a:Int)=>(x::xs,a,(i:Int),())) (x::xs) (fun y a=>.inl (CR a y)) (fun a=>.inl (x::xs,a,())) (fun _ _=>True) (by omega)
    (fun i y a hi hy _=>by
     refine⟨fun m' h' => ?_,fun r h'=>by cases h'⟩
     cases h'
     rw[H4,AL,AO,AjG hi]
     simp only[Ag hy]
     rw[AN (by omega)]
     exact⟨rfl,trivial⟩)
    (fun a _=>by rw[H4,AL,AO,AjF (by omega)]) x trivial
   have e':AW H4 many (x::xs,x,(0:Int),())=_:=e
   rw[e',Bd]
   have hmin:(x::xs).foldl (fun a y=>CR a y) x=Gp (x::xs):=by
    rw[AkC,Gp]
    have:CR x x=x:=by rw[CR];split<;>rfl
    rw[this]
   rw[hmin]
   have hm:=(Ez (xs:=x::xs) (by simp)).1
   simp only[P7 (x::xs) _ (by omega),JI,hr,hm,and_self,Ajs]
   simp
 ·simp[hr]
end Go.Pev.Pl
end
section
namespace Go.Pev.Pl
open Tok
noncomputable instance (n:Int) (xs:List Int):Decidable (TI n xs):=Classical.propDecidable _
end Go.Pev.Pl
end
section
namespace Go.Pev.Pl
open Tok
theorem AH5(n t u:Int)(ht:-9223372036854775808≤t∧t≤9223372036854775807):Zq (n,t,u,())=some (K4 n t u,()):=by
 rw[AMM,PI,K4]
 simp only[Wd n t ht,Ar]
 cases CD n t with
 |none=>rfl
 |some x=>cases x with
  |ver v=>
   by_cases h:v=u<;>simp[Od,st,h]
  |arc p q=>
   by_cases h:q=u<;>simp[Od,st,h]
end Go.Pev.Pl
end
section
namespace Go.Pev.Pl
open Tok
theorem AfW(n:Int)(l:List Int)(i:Nat)(hi:i<l.length)(hl:l.length<1073741824)(d5 d6 d7 d8:Bool)(d9 d10:Int)(d11:Bool)(d12 d13 d14 d15 d16:Int)(d17:Bool)(d18 d19 d20 d21 d22 d23 d24 d25 d26:Int)(d27:Bool):
  ∀ (m k cnt:Nat) (acc:List Int),k+m=l.length→acc.length≤k→m<cnt →
  AY KD cnt (n,l,(i:Int),acc,(k:Int),d5,d6,d7,d8,d9,d10,d11,d12,d13,d14,d15,d16,d17,d18,d19,d20,d21,d22,d23,d24,d25,d26,d27,()) =
   some (.inl (n,(i:Int),acc++(List.range' k m).map (fun k=>l.getD ((i+k) % l.length) 0),d5,d6,d7,d8,d9,d10,d11,d12,d13,d14,d15,d16,d17,d18,l,d19,d20,d21,d22,d23,d24,d25,d26,d27,())):=by
 intro m
 induction m with
 |zero=>
  intro k cnt acc hk ha hc
  obtain⟨cnt,rfl⟩:∃ c,cnt=c+1:=⟨cnt-1,by omega⟩
  rw[AY,KD,AL,AO,AjF (by omega)]
  simp
 |succ m ih=>
  intro k cnt acc hk ha hc
  obtain⟨cnt,rfl⟩:∃ c,cnt=c+1:=⟨cnt-1,by omega⟩
  have hm:(i+k) % l.length<l.length:=Nat.mod_lt _ (by omega)
  rw[AY,KD,AL,AO,AjG (by omega)]
  simp only[]
  rw[wrap_add (by omega),Yf (by omega)]
  simp only[Cc (0:Int) hm,Eg]
  rw[BY (by simp only[AL,AjP,Ajh];omega),AN (by omega)]
  simp only[Cj]
  rw[ih (k+1) cnt _ (by omega) (by simp;omega) (by omega)]
  simp[AmU]
theorem ARC(n:Int)(l:List Int)(i:Nat)(hi:i<l.length)(h1:1<l.length)(hl:l.length<1073741824)(hr:∀ x∈l, -9223372036854775808≤x∧x≤9223372036854775807):
  Dw (n,l,false,(i:Int),())=if LW n l i then some (.inl (n,Fi l i,true,((i+1:Nat):Int),()))else some (.inl (n,l,false,((i+1:Nat):Int),())):=by
 have hmany:4294967296<many:=by simp only[many];omega
 have m1:(i+1) % l.length<l.length:=Nat.mod_lt _ (by omega)
 have m2:(i+2) % l.length<l.length:=Nat.mod_lt _ (by omega)
 have m0:(i+l.length-1) % l.length<l.length:=Nat.mod_lt _ (by omega)
 have hin:∀ {k:Nat},k<l.length→l.getD k 0∈l:=fun {k} hk=>by
  rw[AjK,AjM hk,Aju];exact Akc hk
 have w2:IntKind.wrap .i64 ((i:Int)+2)=((i+2:Nat):Int):=by rw[Ah (by omega)];omega
 have w3:IntKind.wrap .i64 ((i:Int)+(l.length:Int))=((i+l.length:Nat):Int):=wrap_add (by omega)
 have w4:IntKind.wrap .i64 (((i+l.length:Nat):Int)-1)=((i+l.length-1:Nat):Int):=BL (by omega)
 have f4:ile (4:Int) (l.length:Int)=decide (4≤l.length):=by
  rw[Ax]
  by_cases h:4≤l.length
  ·rw[AjG h,AjG (by omega)]
  ·rw[AjF h,AjF (by omega)]
 rw[Dw,AL,AO,AjG hi]
 simp only[Ajw,Cc (0:Int) hi]
 rw[AN (by omega),w2,Yf (by omega),Yf (by omega)]
 simp only[Cc (0:Int) m1,Cc (0:Int) m2,Eg,Wd n _ (hr _ (hin hi)),f4,LW]
 by_cases h4:4≤l.length
 ·simp only[h4,AjU,AlL]
  cases ht:CD n (l.getD i 0)with
  |none=>rfl
  |some t=>
   cases t with
   |ver v=>rfl
   |arc u v=>
    simp only[Od,Ar,AG3]
    by_cases c1:l.getD ((i+1) % l.length) 0=v
    ·simp only[c1,AjU,AlL]
     by_cases c2:l.getD ((i+2) % l.length) 0=EG n v u
     ·simp only[c2,AjU,AlL,w3,w4]
      rw[Yf (by omega)]
      simp only[Cc (0:Int) m0,Eg,AH5 n _ u (hr _ (hin m0))]
      cases K4 n (l.getD ((i+l.length-1) % l.length) 0) u
      ·rfl
      ·simp only[Ajs,An]
       have e:=AfW n l i hi hl false true true true v v true (EG n v u) n v u (EG n v u) true n (i:Int) (l.length:Int) ((i+l.length:Nat):Int) ((i+l.length-1:Nat):Int) (l.length:Int) (((i+l.length-1) % l.length:Nat):Int) (l.getD ((i+l.length-1) % l.length) 0) u true (l.length-3) 3 many [] (by omega) (by simp) (by omega)
       have e':AY KD many (n,l,(i:Int),[],(3:Int),_)=_:=e
       simp only[e',AN (show i+1<9223372036854775808 by omega)]
       rfl
     ·simp only[c2,Aji,AlC,Aja,Ajb]
    ·simp only[c1,Aji,AlC,Aja,Ajb]
 ·simp only[h4,Aji,AlC,Aja,Ajb]
theorem AfX(n:Int)(l:List Int)(h1:1<l.length)(hl:l.length<1073741824)(hr:∀ x∈l, -9223372036854775808≤x∧x≤9223372036854775807):
  ∀ (m i cnt:Nat),i+m=l.length→m+1<cnt →
  (∃ k,k<l.length∧LW n l k=true∧AY Dw cnt (n,l,false,(i:Int),())=some (.inl (n,Fi l k,true,()))) ∨
  ((∀ k,i≤k→k<l.length→LW n l k=false)∧AY Dw cnt (n,l,false,(i:Int),())=some (.inl (n,l,false,()))):=by
 intro m
 induction m with
 |zero=>
  intro i cnt hi hc
  obtain⟨cnt,rfl⟩:∃ c,cnt=c+1:=⟨cnt-1,by omega⟩
  right
  refine⟨fun k q1 q2=>by omega,?_⟩
  rw[AY,Dw,AL,AO,AjF (by omega)]
 |succ m ih=>
  intro i cnt hi hc
  obtain⟨cnt,rfl⟩:∃ c,cnt=c+1:=⟨cnt-1,by omega⟩
  rw[AY,ARC n l i (by omega) h1 hl hr]
  cases hlf:LW n l i
  ·simp only[Aja,Ajb]
   rcases ih (i+1) cnt (by omega) (by omega)with h|⟨h,e⟩
   ·exact .inl h
   ·refine .inr ⟨fun k q1 q2 => ?_,e⟩
    by_cases ek:k=i
    ·rw[ek];exact hlf
    ·exact h k (by omega) q2
  ·simp only[Ajs]
   obtain⟨cnt,rfl⟩:∃ c,cnt=c+1:=⟨cnt-1,by omega⟩
   refine .inl ⟨i,by omega,hlf,?_⟩
   rw[AY,Dw]
   cases ilt ((i+1:Nat):Int) (AI (Fi l i))<;>rfl
theorem AfY(n:Int):∀ (m:Nat) (l:List Int) (cnt:Nat),l.length=m→l.length<1073741824→(∀ x∈l, -9223372036854775808≤x∧x≤9223372036854775807)→l.Nodup→m<cnt →
  (¬ TI n l∧AY N4 cnt (n,l,())=some (.inl (false,()))) ∨
  ∃ l',AY N4 cnt (n,l,())=some (.inr (.inl (n,l',())))∧l'.length≤1∧(TI n l↔TI n l'):=by
 intro m
 induction m using Nat.strongRecOn with
 |_ m ih=>
 intro l cnt hm hl hr hn hc
 have hmany:4294967296<many:=by simp only[many];omega
 obtain⟨cnt,rfl⟩:∃ c,cnt=c+1:=⟨cnt-1,by omega⟩
 rw[AY,N4,AL,Ai]
 by_cases h1:1<l.length
 ·rw[AjG (by omega)]
  simp only[An]
  rcases AfX n l h1 hl hr l.length 0 many (by omega) (by omega)with⟨k,k1,k2,e⟩|⟨k1,e⟩
  ·have e':AY Dw many (n,l,false,(0:Int),())=_:=e
   simp only[e',AjT]
   have hred:=AUD k1 k2
   have hiff:=AiB hred hn
   have hlen:(Fi l k).length=l.length-3:=by simp[Fi]
   rcases ih (l.length-3) (by omega) (Fi l k) cnt hlen (by omega) (fun x hx=>hr x (ASa k1 x hx)) (AYr hred hn) (by omega)with⟨q1,q2⟩|⟨l',q1,q2,q3⟩
   ·exact .inl ⟨fun h=>q1 (hiff.1 h),q2⟩
   ·exact .inr ⟨l',q1,q2,hiff.trans q3⟩
  ·have e':AY Dw many (n,l,false,(0:Int),())=_:=e
   simp only[e',Ajw]
   refine .inl ⟨fun h => ?_,by trivial⟩
   obtain⟨l',hl'⟩:=Aii h h1
   obtain⟨i,i1,i2⟩:=ASe hl'
   rw[k1 i (by omega) i1]at i2
   cases i2
 ·rw[AjF (by omega)]
  exact .inr ⟨l,rfl,by omega,Iff.rfl⟩
theorem ARD(n:Int)(l:List Int)(hl:l.length<1073741824)(hr:∀ x∈l, -9223372036854775808≤x∧x≤9223372036854775807)(hn:l.Nodup):ARE (n,l,())=some (decide (TI n l),()):=by
 have hmany:4294967296<many:=by simp only[many];omega
 rw[AXx,Zb,BY (by simp only[AL,Ajh];omega)]
 simp only[Cj,Ajv,An]
 rcases AfY n l.length l many rfl hl hr hn (by omega)with⟨q1,q2⟩|⟨l',q1,q2,q3⟩
 ·rw[q2,AjF q1]
 ·rw[q1]
  simp only[AL,Ar]
  match l',q2,q3 with
  |[],_,q3=>
   have:¬ TI n l:=fun h=>AfM n (q3.1 h)
   simp[this]
  |[t],_,q3=>
   rw[AfL]at q3
   have i0:idx [t] (0:Int)=some t:=by rw[EK];rfl
   have d0:AU [t] 0 (0:Int)=t:=rfl
   rw[AjG (by simp)]
   simp only[i0,d0,IH]
   by_cases h:In n t
   ·rw[AjG h,AjG (q3.2 h)]
   ·rw[AjF h,AjF (fun h2=>h (q3.1 h2))]
end Go.Pev.Pl
end
section
namespace Go.Pev.Pl
open Tok
noncomputable instance (n:Int) (rings:List (List Int)):Decidable (RF n rings):=Classical.propDecidable _
noncomputable instance (n:Int) (xs:List Int):Decidable (RG n xs):=Classical.propDecidable _
end Go.Pev.Pl
end
end
section
section
namespace Go.Pev.Pl
open Tok
theorem AEl(N:Nat)(hN:N≤64)(l:List Int)(hl:l.length<1073741824)(h0:∀ t∈l,0≤t)(d1:List (List Int))(d3 d5:Int)(d8:List Int)(d9:Int)(d10:Bool)(d11:Int)(d12:List Int)(d13 d14:Bool)(d15 d16:List Int)(d17:List (List Int))(d18:List Int)(d19:List (List Int))(d20 d21:Bool)(d22:List Int)(d23 d24:Int)(d25:Bool):
  ∀ (m k cnt:Nat) (met:List Bool) (seen:List Int),k+m=l.length→MB N met seen→(l.drop k).Nodup→seen.length+m<4611686018427387904→m<cnt →
  ((∀ t∈l.drop k,t<(N:Int)→t∉seen)∧∃ met',AY Ea cnt ((N:Int),d1,met,d3,(seen.length:Int),d5,l,(k:Int),d8,d9,d10,d11,d12,d13,d14,d15,d16,d17,d18,d19,d20,d21,d22,d23,d24,d25,()) =
    some (.inr (.inl ((N:Int),d1,met',d3,((seen++(l.drop k).filter (fun t=>decide (t<(N:Int)))).length:Int),d5,d8,d9,d10,d11,d12,d13,d14,d15,d16,d17,d18,d19,d20,d21,d22,d23,d24,d25,())))∧MB N met' (seen++(l.drop k).filter (fun t=>decide (t<(N:Int))))) ∨
  (¬ (∀ t∈l.drop k,t<(N:Int)→t∉seen)∧AY Ea cnt ((N:Int),d1,met,d3,(seen.length:Int),d5,l,(k:Int),d8,d9,d10,d11,d12,d13,d14,d15,d16,d17,d18,d19,d20,d21,d22,d23,d24,d25,())=some (.inl (false,()))):=by
 intro m
 induction m with
 |zero=>
  intro k cnt met seen hk hm hn hsl hc
  obtain⟨cnt,rfl⟩:∃ c,cnt=c+1:=⟨cnt-1,by omega⟩
  have e:l.drop k=[]:=AkY (by omega)
  rw[e]
  refine .inl ⟨by simp,met,?_,by simpa using hm⟩
  rw[AY,Ea,AL,AO,AjF (by omega)]
  simp
 |succ m ih=>
  intro k cnt met seen hk hm hn hsl hc
  obtain⟨cnt,rfl⟩:∃ c,cnt=c+1:=⟨cnt-1,by omega⟩
  have hk':k<l.length:=by omega
  have e:l.drop k=l.getD k 0::l.drop (k+1):=by
   rw[Aj7 hk',AjK,AjM hk',Aju]
  have hpos:0≤l.getD k 0:=h0 _ (by rw[AjK,AjM hk',Aju];exact Akc hk')
  rw[AY,Ea,AL,AO,AjG hk']
  simp only[Cc (0:Int) hk']
  rw[e]at hn ⊢
  generalize l.getD k 0=t at *
  rw[Ajr]at hn
  rw[AN (show k+1<9223372036854775808 by omega),Ai]
  by_cases ht:t<(N:Int)
  ·rw[AjG ht]
   obtain⟨q,rfl⟩:=AjO hpos
   have hq:q<met.length:=by rw[hm.1];omega
   have hmq:=hm.2 q (by omega)
   simp only[Cc false hq,Eg,ADA,hmq]
   by_cases hs:(q:Int)∈seen
   ·rw[AjG hs]
    exact .inr ⟨fun h=>h (q:Int) (by simp) ht hs,rfl⟩
   ·rw[AjF hs]
    simp only[]
    have hm':MB N (met.set q true) (seen++[(q:Int)]):=by
     refine⟨by simp[hm.1],fun y hy => ?_⟩
     by_cases e2:y=q
     ·subst e2
      simp[AjK,hq]
     ·have h3:=hm.2 y hy
      have e3:¬ (y:Int)=(q:Int):=by omega
      rw[AjK,Aj4 (Ajz e2),← AjK,h3]
      simp[e3]
    have hlen:(((seen.length:Nat):Int))=((seen.length:Nat):Int):=rfl
    have hw:IntKind.wrap .i64 ((seen.length:Int)+1)=((seen++[(q:Int)]).length:Int):=by
     rw[Ah (by omega)];simp
    rw[hw]
    have hiff:(∀ y∈(q:Int)::l.drop (k+1),y<(N:Int)→y∉seen)↔∀ y∈l.drop (k+1),y<(N:Int)→y∉seen++[(q:Int)]:=by
     constructor
     ·intro h y hy hyn hm2
      simp only[AjL,Aje]at hm2
      rcases hm2 with h2|rfl
      ·exact h y (Ajj _ hy) hyn h2
      ·exact hn.1 hy
     ·intro h y hy hyn hm2
      rcases AjN.1 hy with rfl|hy
      ·exact hs hm2
      ·exact h y hy hyn (by simp[hm2])
    rcases ih (k+1) cnt _ _ (by omega) hm' hn.2 (by simp;omega) (by omega)with⟨q1,met',q2,q3⟩|⟨q1,q2⟩
    ·refine .inl ⟨hiff.2 q1,met',?_,?_⟩
     ·rw[AmG (by simpa using ht)]
      rw[q2,AkF]
      rfl
     ·rw[AmG (by simpa using ht)]
      simpa using q3
    ·exact .inr ⟨fun h=>q1 (hiff.1 h),q2⟩
  ·rw[AjF ht]
   simp only[]
   have hiff:(∀ y∈t::l.drop (k+1),y<(N:Int)→y∉seen)↔∀ y∈l.drop (k+1),y<(N:Int)→y∉seen:=by
    constructor
    ·intro h y hy;exact h y (Ajj _ hy)
    ·intro h y hy hyn
     rcases AjN.1 hy with rfl|hy
     ·exact absurd hyn ht
     ·exact h y hy hyn
   rcases ih (k+1) cnt _ _ (by omega) hm hn.2 (by omega) (by omega)with⟨q1,met',q2,q3⟩|⟨q1,q2⟩
   ·refine .inl ⟨hiff.2 q1,met',?_,?_⟩
    ·rw[AmH (by simpa using ht)]
     exact q2
    ·rw[AmH (by simpa using ht)]
     exact q3
   ·exact .inr ⟨fun h=>q1 (hiff.1 h),q2⟩
theorem X1(N:Nat)(hN1:1≤N)(hN:N≤64)(rings:List (List Int))(hlen:rings.length≤64)(hr:∀ l∈rings,l.length<9223372036854775808∧∀ x∈l, -9223372036854775808≤x∧x≤9223372036854775807):
  ∀ (ls:List (List Int)) (i cnt:Nat) (met:List Bool) (last:Int) (seen:List Int),rings.drop i=ls→i≤rings.length→MB N met seen→seen.length≤i*1073741824→ls.length<cnt →
  (okR (N:Int) seen last ls∧∃ met' seen',AY Eb cnt ((N:Int),rings,met,last,(seen.length:Int),(i:Int),())=some (.inr (.inl ((N:Int),rings,(seen'.length:Int),())))∧MB N met' seen'∧seen'=seen++ls.flatten.filter (fun t=>decide (t<(N:Int)))) ∨
  (¬ okR (N:Int) seen last ls∧AY Eb cnt ((N:Int),rings,met,last,(seen.length:Int),(i:Int),())=some (.inl (false,()))):=by
 have hmany:4294967296<many:=by simp only[many];omega
 intro ls
 induction ls with
 |nil=>
  intro i cnt met last seen hd hi hm hsl hc
  obtain⟨cnt,rfl⟩:∃ c,cnt=c+1:=⟨cnt-1,by simp at hc;omega⟩
  have:rings.length≤i:=by simpa using hd
  refine .inl ⟨trivial,met,seen,?_,hm,by simp⟩
  rw[AY,Eb,AL,AO,AjF (by omega)]
 |cons l ls ih=>
  intro i cnt met last seen hd hi hm hsl hc
  simp only[AjP]at hc
  obtain⟨cnt,rfl⟩:∃ c,cnt=c+1:=⟨cnt-1,by omega⟩
  have hi':i<rings.length:=by
   refine Aj6 fun h => ?_
   rw[AkY (by omega)]at hd
   cases hd
  rw[Aj7 hi']at hd
  simp only[Ajg]at hd
  obtain⟨hd1,hd2⟩:=hd
  have hx:rings[i]? = some l:=by rw[AjM hi',hd1]
  have hmem:l∈rings:=AjW hx
  obtain⟨hl,hlr⟩:=hr l hmem
  rw[AY,Eb,AL,AO,AjG hi',okR]
  simp only[Ag hx,Mr]
  by_cases c2:Rt l
  ·rw[AjG c2]
   have hl:l.length<1073741824:=by have:=c2.1;omega
   simp only[AjT]
   cases l with
   |nil=>
    rw[AL,Ar,AjG (by simp)]
    exact .inr ⟨fun h=>h.1.2.1 rfl,rfl⟩
   |cons x tl=>
    rw[AL,Ar,AjF (by simp only[AjP];omega)]
    simp only[ARD (N:Int) (x::tl) hl hlr c2.2.2]
    by_cases c4:TI (N:Int) (x::tl)
    ·rw[AjG c4]
     simp only[AjT,Wq]
     rw[AOz _ _ (by simp) (by
      intro y hy
      simp only[Aje]at hy
      subst hy
      obtain⟨a,b,q1,q2⟩:=H3 c2 (by simp)
      have:=AkZ List.length q1
      rw[q2]
      simp only[AjP,AjQ]at this hl ⊢
      omega)]
     have hps:=AAn c2 (by simp)
     have hps2:([plain (x::tl)]=[x::tl])↔Gp (x::tl)=x:=by simpa using hps
     by_cases c3:Gp (x::tl)=x
     ·rw[AjG (hps2.2 c3)]
      have i0:idx (x::tl) (0:Int)=some x:=by rw[EK];rfl
      simp only[AjT,i0,AmB,Ax]
      by_cases c1:x≤last
      ·rw[AjG c1]
       exact .inr ⟨fun h=>by omega,rfl⟩
      ·rw[AjF c1]
       simp only[An]
       have hRG:RG (N:Int) (x::tl):=⟨c2,by simp,c3,c4⟩
       rcases AEl N hN (x::tl) hl (fun t ht=>(c2.2.1 t ht).1) rings x (i:Int) (x::tl) ((x::tl).length:Int) false (N:Int) (x::tl) true false (x::tl) (plain (x::tl)) [plain (x::tl)] (x::tl) [x::tl] true false (x::tl) x last false (x::tl).length 0 many met seen (by omega) hm (by rw[AlU];exact c2.2.2) (by omega) (by omega)with⟨q1,met',q2,q3⟩|⟨q1,q2⟩
       ·rw[AlU]at q1 q3 q2
        have q2':AY Ea many ((N:Int),rings,met,x,(seen.length:Int),(i:Int),x::tl,(0:Int),x::tl,((x::tl).length:Int),false,(N:Int),x::tl,true,false,x::tl,plain (x::tl),[plain (x::tl)],x::tl,[x::tl],true,false,x::tl,x,last,false,())=_:=q2
        simp only[q2',AN (show i+1<9223372036854775808 by omega)]
        have hfl:((x::tl).filter (fun t=>decide (t<(N:Int)))).length≤(x::tl).length:=Akz _ _
        rcases ih (i+1) cnt met' x (seen++(x::tl).filter (fun t=>decide (t<(N:Int)))) hd2 (by omega) q3 (by rw[AjQ];omega) (by omega)with⟨p1,met2,seen2,p2,p3,p4⟩|⟨p1,p2⟩
        ·refine .inl ⟨⟨hRG,by omega,q1,p1⟩,met2,seen2,p2,p3,?_⟩
         rw[p4,AlR,Ak6,AkF]
        ·exact .inr ⟨fun h=>p1 h.2.2.2,p2⟩
       ·rw[AlU]at q1
        have q2':AY Ea many ((N:Int),rings,met,x,(seen.length:Int),(i:Int),x::tl,(0:Int),x::tl,((x::tl).length:Int),false,(N:Int),x::tl,true,false,x::tl,plain (x::tl),[plain (x::tl)],x::tl,[x::tl],true,false,x::tl,x,last,false,())=_:=q2
        simp only[q2']
        exact .inr ⟨fun h=>q1 h.2.2.1,by trivial⟩
     ·rw[AjF (fun h=>c3 (hps2.1 h))]
      exact .inr ⟨fun h=>c3 h.1.2.2.1,rfl⟩
    ·rw[AjF c4]
     exact .inr ⟨fun h=>c4 h.1.2.2.2,rfl⟩
  ·rw[AjF c2]
   exact .inr ⟨fun h=>c2 h.1.1,rfl⟩
theorem Ep(n:Int)(rings:List (List Int))(hlen:rings.length<1073741824)(hr:∀ l∈rings,l.length<9223372036854775808∧∀ x∈l, -9223372036854775808≤x∧x≤9223372036854775807):
  Qs ((n,(rings,())),())=some (decide (RF n rings),()):=by
 have hmany:4294967296<many:=by simp only[many];omega
 rw[ASN,TO]
 simp only[Ai,AL]
 by_cases h1:n<1
 ·rw[AjG h1,AjF (show ¬ RF n rings from fun h=>by have:=h.1.1;omega)]
 ·rw[AjF h1]
  simp only[]
  by_cases h2:64<n
  ·rw[AjG h2,AjF (show ¬ RF n rings from fun h=>by have:=h.1.2;omega)]
  ·rw[AjF h2]
   simp only[]
   by_cases h3:n<(rings.length:Int)
   ·rw[AjG h3,AjF (show ¬ RF n rings from fun h=>by
     have:=AWm (by omega) h.2.1 (by omega) (by omega)
     omega)]
   ·rw[AjF h3]
    obtain⟨N,rfl⟩:=AjO (show 0≤n by omega)
    have f1:Fb (N:Int)=true:=(OM _).2 (by omega)
    have f2:ile (N:Int) (N:Int)=true:=by rw[Ax];simp
    simp only[f1,f2,Akx,Bool.and_true,An]
    have hMB:MB N (EN (AK (N:Int)) false) []:=by
     refine⟨by simp[EN,J0],fun k hk => ?_⟩
     simp[EN,J0,hk]
    rcases X1 N (by omega) (by omega) rings (by omega) hr rings 0 many _ (-1) [] (by simp) (by omega) hMB (by simp) (by omega)with⟨p1,met,seen,p2,p3,p4⟩|⟨p1,p2⟩
    ·have p2':AY Eb many ((N:Int),rings,EN (AK (N:Int)) false, -1,(0:Int),(0:Int),())=_:=p2
     simp only[p2',Ar]
     obtain⟨q1,q2⟩:=AZR p1 (by simp)
     rw[← p4]at q1
     have hsub:∀ x∈seen,x∈(List.range N).map (fun(k:Nat)=>(k:Int)):=by
      intro x hx
      rw[p4]at hx
      simp only[Ajv,Ajp,AmT,AjI]at hx
      obtain⟨⟨l,hl,hxl⟩,hxn⟩:=hx
      have:=((q2 l hl).1.2.1 x hxl).1
      rw[Ajc]
      exact⟨x.toNat,by rw[AkP];omega,by omega⟩
     have hv:∀ v,v∈seen↔(v<(N:Int)∧v∈rings.flatten):=fun v=>by rw[p4,Ajv,Ajp,AjI,and_comm]
     have hS:Sz (N:Int):=⟨by omega,by omega⟩
     by_cases hc:(seen.length:Int)=(N:Int)
     ·rw[AjG hc,AjG]
      refine⟨hS,p1,fun v v1 v2 => ?_⟩
      have:=Q7 q1 hsub (by simp;omega) v (by rw[Ajc];exact⟨v.toNat,by rw[AkP];omega,by omega⟩)
      exact((hv v).1 this).2
     ·rw[AjF hc,AjF]
      rintro⟨_,_,h⟩
      have a1:=Cg q1 hsub
      have hrn:((List.range N).map (fun(k:Nat)=>(k:Int))).Nodup:=by
       rw[List.Nodup,Ake]
       exact List.nodup_range.imp fun h e=>h (by omega)
      have a2:=Cg (a:=(List.range N).map (fun(k:Nat)=>(k:Int))) (b:=seen) hrn fun x hx=>by
       rw[Ajc]at hx
       obtain⟨k,hk,rfl⟩:=hx
       rw[AkP]at hk
       exact(hv _).2 ⟨by omega,h (k:Int) (by omega) (by omega)⟩
      simp only[AkM,Ajx]at a1 a2
      omega
    ·have p2':AY Eb many ((N:Int),rings,EN (AK (N:Int)) false, -1,(0:Int),(0:Int),())=_:=p2
     simp only[p2']
     rw[AjF (fun h=>p1 h.2.1)]
end Go.Pev.Pl
end
section
namespace Go.Pev.Pl
open Tok
theorem Mu(n:Int)(rings:List (List Int))(v:Int)(hlen:rings.length<1073741824)(hr:∀ l∈rings,l.length<9223372036854775808):LF ((n,(rings,())),v,())=some (plc rings v,()):=by
 rw[ASp,TU]
 have e:=HD (step:=H5) (fun i=>(v,n,rings,(i:Int),())) rings (fun l=>decide (v∈l)) (fun i=>.inl ((i:Int),())) (.inr (.inl ())) (by omega)
  (fun i l hi hx=>by
   have hl:=hr l (AjW hx)
   rw[H5,AL,AO,AjG hi]
   simp only[Ag hx,Mv l v (by omega)]
   rw[AN (by omega),Ax]
   by_cases h:v∈l
   ·obtain⟨k,e,_⟩:=AI1 h
    rw[e,AjG (by omega),AjG h];rfl
   ·rw[Qz h,AjF (by omega),AjF h];rfl)
  (by rw[H5,AL,AO,AjF (by omega)])
 have e':AW H5 many (v,n,rings,(0:Int),())=_:=e
 simp only[e',plc]
 cases rings.any (fun l=>decide (v∈l))<;>rfl
end Go.Pev.Pl
end
section
namespace Go.Pev.Pl
open Tok
theorem AYt(rest:List (List Int))(r:List Int)(hlen:rest.length<1073741824)(hne:∀ l∈rest,l≠[])(hp:plain r≠[]):AWW (rest,r,())=some (AAl rest (plain r),()):=by
 rw[Ack,AI0]
 simp only[Wq]
 generalize plain r=p at *
 have e:=HD (step:=Ms) (fun i=>(rest,p,(i:Int),())) rest (fun x => !decide (hd x<hd p)) (fun i=>.inl (rest,p,(i:Int),())) (.inl (rest,p,(rest.length:Int),())) (by omega)
  (fun i x hi hx=>by
   rw[Ms,AL,AO,AjG hi]
   simp only[Ag hx,AW9 (hne x (AjW hx)),AW9 hp,Aeq,Ai]
   rw[AN (by omega)]
   by_cases h:hd x<hd p
   ·rw[AjG h];rfl
   ·rw[AjF h];rfl)
  (by rw[Ms,AL,AO,AjF (by omega)])
 have e':AW Ms many (rest,p,(0:Int),())=_:=e
 have hk:(if rest.any (fun x => !decide (hd x<hd p))then(.inl (rest,p,((rest.findIdx fun x => !decide (hd x<hd p):Nat):Int),()):(List (List Int)×List Int×Int×Unit)⊕Unit)else .inl (rest,p,(rest.length:Int),())) = .inl (rest,p,((rest.findIdx fun x => !decide (hd x<hd p):Nat):Int),()):=by
  split
  ·rfl
  ·rename_i h
   rw[List.findIdx_eq_length.2 fun x hx=>by
    refine Aj6 fun hc=>h (AkS.2 ⟨x,hx,by simpa using hc⟩)]
 rw[e',hk]
 have hle:(rest.findIdx fun x => !decide (hd x<hd p))≤rest.length:=List.findIdx_le_length
 rw[AAl]
 generalize (rest.findIdx fun x => !decide (hd x<hd p))=k at *
 simp only[Hu hle,Da hle]
 rw[BY (by simp only[AL,Ajh,AjY];omega)]
 simp only[]
 rw[BY (by simp only[AL,Cj,AjQ,AjP,Ajh,AjY];omega)]
 simp only[]
 rw[BY (by simp only[AL,Cj,AjQ,AjP,Ajh,AjY,Ajt];omega)]
 simp only[Cj,Ajv,AkF,Ak3]
theorem Om(l:List (List Int))(i:Nat)(hi:i<l.length)(hlen:l.length<1073741824):HX (l,(i:Int),())=some (l.eraseIdx i,()):=by
 rw[AHN,MZ]
 rw[AN (by omega)]
 simp only[Hu (Ak4 hi),Da (show i+1≤l.length by omega)]
 rw[BY (by simp only[AL,Ajh,AjY];omega)]
 simp only[]
 rw[BY (by simp only[AL,Cj,AjQ,Ajh,AjY,Ajt];omega)]
 simp only[Cj,Ajv,List.eraseIdx_eq_take_drop_succ]
end Go.Pev.Pl
end
section
namespace Go.Pev.Pl
open Tok
theorem Afc(n:Int)(rings:List (List Int))(v:Int)(hD:Dom rings):tof ((n,(rings,())),v,())=some (if RF n rings∧In n v then plc rings v else -1,()):=by
 rw[Abo,AVx]
 simp only[Ya,PE n rings hD.1 hD.2,Ho n rings v hD.1 (fun l hl=>(hD.2 l hl).1)]
 by_cases h1:In n v
 ·by_cases h2:RF n rings<;>simp[h1,h2]
 ·simp[h1]
end Go.Pev.Pl
end
section
namespace Go.Pev.Pl
open Go.RowKit Tok
end Go.Pev.Pl
end
section
namespace Go.Pev.Pl
open Tok
end Go.Pev.Pl
end
section
namespace Go.Pev.Pl
open Tok
theorem AO0{n:Int}{rings:List (List Int)}{u v:Int}(h:FR n rings)(iu:In n u)(iv:In n v)(hp:plc rings u=plc rings v):
  Mi ((n,(rings,())),u,v,())=some (n,rings,5,())∧UA ((n,(rings,())),u,v,())=some (n,rings,5,()):=by
 have hD:=h.dom
 have hRF:=L0.2 h
 constructor
 ·rw[Hs,HH]
  simp only[Hf n rings u v hD,hRF,iu,iv,and_self,Ajs,Ar,Ho n rings _ hD.1 (fun l hl=>(hD.2 l hl).1),hp,AjU,AjT]
 ·rw[OF,KX]
  simp only[Ep n rings hD.1 hD.2,hRF,IH,iu,iv,AjU,AjT,Mu n rings _ hD.1 (fun l hl=>(hD.2 l hl).1),Ar,hp]
theorem Adu{n:Int}{rings:List (List Int)}{u v:Int}{i j:Nat}{A B:List Int}(h:FR n rings)(iu:In n u)(iv:In n v)(hi:rings[i]? = some A)(hj:rings[j]? = some B)(hu:u∈A)(hv:v∈B)(hij:i≠j):
  ∃ zs rest,Mi ((n,(rings,())),u,v,())=some (n,zs,0,())∧UA ((n,(rings,())),u,v,())=some (n,zs,0,())∧FR n zs∧rings.Perm (A::B::rest)∧zs.Perm (plain (BG n A B u v)::rest)∧Dis n A B:=by
 have hD:=h.dom
 have hRF:=L0.2 h
 have rA:=h.rg A (AjW hi)
 have rB:=h.rg B (AjW hj)
 have hil:=(AkQ.1 hi).1
 have hjl:=(AkQ.1 hj).1
 have pu:plc rings u=(i:Int):=h.AI2 hi iu.2.2.2 hu
 have pv:plc rings v=(j:Int):=h.AI2 hj iv.2.2.2 hv
 have hperm:rings.Perm (A::B::(rings.eraseIdx (max i j)).eraseIdx (min i j)):=by
  rcases AmD hij with g|g
  ·rw[Alf (by omega),AkG (by omega)]
   exact JM g hi hj
  ·rw[Aln (by omega),Alg (by omega)]
   exact(JM g hj hi).trans (List.Perm.swap _ _ _)
 have hdis:Dis n A B:=by
  have:=Kg hperm h.dis
  rw[Aj9]at this
  exact this.1 B (by simp)
 obtain⟨l1,l2,l3,huv,ho⟩:=OE rA.2.2.2 rB.2.2.2 hu hv iu iv hdis
 obtain⟨hRG,hrot⟩:=ADt l1
 have hall:BG n A B u v=u::EG n u v::(A7 B v++EG n v u::(A7 A u).tail):=rfl
 have lA:(A7 A u).length≤1000:=by rw[← (Cf hu).perm.length_eq];exact rA.1.1
 have lB:(A7 B v).length≤1000:=by rw[← (Cf hv).perm.length_eq];exact rB.1.1
 have hsub:((rings.eraseIdx (max i j)).eraseIdx (min i j)).Sublist rings:=(Aly _ _).trans (Aly _ _)
 have hw1:HX (rings,((max i j:Nat):Int),())=some (rings.eraseIdx (max i j),()):=Om _ _ (by omega) hD.1
 have hel:(rings.eraseIdx (max i j)).length=rings.length-1:=by rw[List.length_eraseIdx];rw[AjV (by omega)]
 have hw2:HX (rings.eraseIdx (max i j),((min i j:Nat):Int),())=some ((rings.eraseIdx (max i j)).eraseIdx (min i j),()):=Om _ _ (by omega) (by have:=hD.1;omega)
 have hdrop:Ct (fun k=>decide ((k:Int)∈[(i:Int),(j:Int)])) 0 rings=(rings.eraseIdx (max i j)).eraseIdx (min i j):=by
  rcases AmD hij with g|g
  ·rw[Alf (by omega),AkG (by omega)]
   exact Lq _ i j g rings 0 (by omega) fun k _=>Akb.2 (by simp only[AjN,Ak7,Alp];omega)
  ·rw[Aln (by omega),Alg (by omega)]
   exact Lq _ j i g rings 0 (by omega) fun k _=>Akb.2 (by simp only[AjN,Ak7,Alp];omega)
 have hrl:((rings.eraseIdx (max i j)).eraseIdx (min i j)).length≤rings.length:=hsub.length_le
 generalize (rings.eraseIdx (max i j)).eraseIdx (min i j)=rest at *
 have hupr:rest.Pairwise (fun a b=>hd a<hd b):=h.up.sublist hsub
 have hner:∀ l∈rest,l≠[]:=fun l hl=>(h.rg l (hsub.subset hl)).2.1
 have hdd:=Kg hperm h.dis
 rw[Aj9,Aj9]at hdd
 have hheads:∀ x∈rest,hd x≠hd (plain (BG n A B u v)):=by
  intro x hx e
  have g1:=OT hRG
  have g2:=(l3 _ g1.2.2.2).1 (hrot.perm.mem_iff.2 (UQ hRG.2.1))
  have g3:hd (plain (BG n A B u v))∈x:=e▸UQ (hner x hx)
  rcases g2 with g|g
  ·exact hdd.1 x (by simp[hx]) _ g g1.2.2.2 g3
  ·exact hdd.2.1 x hx _ g g1.2.2.2 g3
 have hup:=AWV hupr hheads
 have hpz:=AF8 rest (plain (BG n A B u v))
 refine⟨AAl rest (plain (BG n A B u v)),rest,?_,?_,AXY h hperm hRG (fun t ht=>by rw[← hrot.perm.mem_iff];exact l3 t ht) hpz hup,hperm,hpz,hdis⟩
 ·obtain⟨ys,y1,y2,y3⟩:=AFW n rings [(i:Int),(j:Int)] [BG n A B u v] hD.1 (by simp) (by simp) (fun l hl=>(h.rg l hl).2.1) (by simp;exact hRG.2.1)
  have hys:ys=AAl rest (plain (BG n A B u v)):=by
   refine Wh hup (y2.trans ?_) y3
   rw[hdrop]
   exact(Aky (l₁:=rest) (l₂:=[plain (BG n A B u v)])).trans hpz.symm
  rw[hys]at y1
  rw[Hs,HH]
  have s1:By (A7 A u) (0:Int) (1:Int)=some [u]:=by
   have:=AH2 (xs:=A7 A u) (l:=0) (h:=1) (by omega) (by rw[l2];simp)
   rw[l2]at this ⊢
   exact this
  have s2:By (A7 A u) (1:Int) (AI (A7 A u))=some (A7 A u).tail:=by
   have:=Da (xs:=A7 A u) (l:=1) (by rw[l2];simp)
   rw[AlK]at this
   exact this
  have d1:DY 0 (AK (AI [u])) (A7 A u)=[u]:=by rw[l2];rfl
  have d2:DY 1 (AK (AI (A7 A u).tail)) (A7 A u)=(A7 A u).tail:=by
   rw[DY,AL,J0,AlK,Akk]
  have hcat:JQ ([[u],[EG n u v],A7 B v,[EG n v u],(A7 A u).tail],())=some (BG n A B u v,()):=by
   rw[Nc _ (by simp) (by simp;omega)]
   simp[BG]
  have ne:((i:Int))≠(j:Int):=by omega
  simp only[Hf n rings u v hD,hRF,iu,iv,and_self,Ajs,Ar,Ho n rings _ hD.1 (fun l hl=>(hD.2 l hl).1),pu,pv,ne,AjU,Aji,AjT,Ag hi,Ag hj,AF4,JI,rA.1,rB.1,hu,hv,s1,s2,AMK,d1,d2,hcat,y1]
 ·rw[OF,KX]
  have s2:By (A7 A u) (1:Int) (AI (A7 A u))=some (A7 A u).tail:=by
   have:=Da (xs:=A7 A u) (l:=1) (by rw[l2];simp)
   rw[AlK]at this
   exact this
  have d2:DY 1 (AK (AI (A7 A u).tail)) (A7 A u)=(A7 A u).tail:=by
   rw[DY,AL,J0,AlK,Akk]
  have ne:((i:Int))≠(j:Int):=by omega
  have f1:fits (AI [u,EG n u v]+AI (A7 B v))=true:=BY (by simp only[AL,AjP,Ajh];omega)
  have f2:fits (AI (A2 [u,EG n u v] (A7 B v))+AI [EG n v u])=true:=BY (by simp only[AL,Cj,AjQ,AjP,Ajh];omega)
  have f3:fits (AI (A2 (A2 [u,EG n u v] (A7 B v)) [EG n v u])+AI (A7 A u).tail)=true:=BY (by simp only[AL,Cj,AjQ,AjP,Ajh,List.length_tail];omega)
  have hcat:A2 (A2 (A2 [u,EG n u v] (A7 B v)) [EG n v u]) (A7 A u).tail=BG n A B u v:=by simp[Cj,BG]
  have hput:AWW (rest,BG n A B u v,())=some (AAl rest (plain (BG n A B u v)),()):=AYt rest _ (by have:=hD.1;omega) hner hRG.2.1
  simp only[Ep n rings hD.1 hD.2,hRF,IH,iu,iv,AjU,AjT,Mu n rings _ hD.1 (fun l hl=>(hD.2 l hl).1),pu,pv,Ar,ne,Aji,Ag hi,Ag hj,P7 A u (by have:=rA.1.1;omega),P7 B v (by have:=rB.1.1;omega),JI,rA.1,rB.1,hu,hv,and_self,Ajs,AG3,f1,f2,s2,d2,f3,Ad9,Ad8,hw1,hw2,hcat,hput]
theorem AE5{n:Int}{rings:List (List Int)}{u v:Int}(hD:Dom rings)(h:¬ (RF n rings∧In n u∧In n v)):
  ∃ e,e≠0∧(∃ b,e=b∧(b=1∨b=10))∧Mi ((n,(rings,())),u,v,())=some (n,rings,e,())∧UA ((n,(rings,())),u,v,())=some (n,rings,e,()):=by
 by_cases h1:RF n rings
 ·have h2:¬ (In n u∧In n v):=fun h2=>h ⟨h1,h2⟩
  refine⟨10,by omega,⟨10,rfl,.inr rfl⟩,?_,?_⟩
  ·rw[Hs,HH]
   simp only[Hf n rings u v hD,h1,h2,Ajs,Ajb,Ar]
   rfl
  ·rw[OF,KX]
   simp only[Ep n rings hD.1 hD.2,h1,IH,AjU,AjT]
   by_cases hu:In n u
   ·have hv:¬ In n v:=fun hv=>h2 ⟨hu,hv⟩
    simp[hu,hv]
   ·simp[hu]
 ·refine⟨1,by omega,⟨1,rfl,.inl rfl⟩,?_,?_⟩
  ·rw[Hs,HH]
   simp only[Hf n rings u v hD,h1,Ajb,Ar]
   rfl
  ·rw[OF,KX]
   simp only[Ep n rings hD.1 hD.2,h1,Aji,Ajw]
theorem AVa{n:Int}{rings:List (List Int)}(u v:Int)(hD:Dom rings):∃ zs e,Mi ((n,(rings,())),u,v,())=some (n,zs,e,())∧UA ((n,(rings,())),u,v,())=some (n,zs,e,())∧Dom zs:=by
 by_cases h:RF n rings∧In n u∧In n v
 ·obtain⟨h1,iu,iv⟩:=h
  have hF:=L0.1 h1
  obtain⟨i,A,pu,hi,hu,_⟩:=Mt (hF.cov u iu)
  obtain⟨j,B,pv,hj,hv,_⟩:=Mt (hF.cov v iv)
  by_cases hij:i=j
  ·obtain⟨q1,q2⟩:=AO0 hF iu iv (by rw[pu,pv,hij])
   exact⟨_,_,q1,q2,hD⟩
  ·obtain⟨zs,rest,q1,q2,q3,_⟩:=Adu hF iu iv hi hj hu hv hij
   exact⟨_,_,q1,q2,q3.dom⟩
 ·obtain⟨e,_,_,q1,q2⟩:=AE5 hD h
  exact⟨_,_,q1,q2,hD⟩
end Go.Pev.Pl
end
section
namespace Go.Pev.Pl
open Tok
def sel(l:List Edge)(bs:List Bool):List Edge:=((l.zip bs).filter fun p=>p.2).map fun p=>p.1
end Go.Pev.Pl
end
section
namespace Go.Pev.Pl
open Tok
instance (n v:Int):Decidable (In n v):=inferInstanceAs (Decidable (_∧_))
instance (n:Int):Decidable (Sz n):=inferInstanceAs (Decidable (_∧_))
end Go.Pev.Pl
end
section
namespace Go.Pev.Pl
instance (xs:List Int):Decidable (Rt xs):=inferInstanceAs (Decidable (_∧_∧_))
end Go.Pev.Pl
end
section
namespace Go.Pev.Pl
open Tok
noncomputable instance (n:Int) (xs:List Int):Decidable (TI n xs):=Classical.propDecidable _
end Go.Pev.Pl
end
section
namespace Go.Pev.Pl
open Tok
noncomputable instance (n:Int) (rings:List (List Int)):Decidable (RF n rings):=Classical.propDecidable _
noncomputable instance (n:Int) (xs:List Int):Decidable (RG n xs):=Classical.propDecidable _
end Go.Pev.Pl
end
section
namespace Go.Pev.Pl
open Tok
theorem AMJ(n:Int)(rings:List (List Int))(l:List (Int×Int×Unit))(hD:Dom rings)(hs:l.length<9223372036854775808):AH0 ((n,(rings,())),l,())=some (AQW n rings (l.all fun e=>decide (In n e.1)&&decide (In n e.2.1)),()):=by
 rw[ARL,S5]
 simp only[Ep n rings hD.1 hD.2,AQW]
 by_cases h:RF n rings
 ·simp only[h,AjU,AjT,Ajs]
  have e:=HD (step:=Ht) (fun i=>(l,n,rings,(i:Int),())) l (fun e => !(decide (In n e.1)&&decide (In n e.2.1))) (fun _=>.inl ((10:Int),())) (.inr (.inl ())) hs
   (fun i x hi hx=>by
    rw[Ht,AL,AO,AjG hi]
    simp only[Ag hx,Ai,Ax]
    rw[AN (by omega)]
    have q1:=AVh (v:=x.1) h.1
    have q2:=AVh (v:=x.2.1) h.1
    by_cases c1:x.1<0
    ·rw[AjG c1,Bool.true_or]at q1
     have:decide (In n x.1)=false:=by simpa using q1.symm
     simp[c1,this]
    ·by_cases c2:n≤x.1
     ·rw[AjG c2,Bool.or_true]at q1
      have:decide (In n x.1)=false:=by simpa using q1.symm
      simp[c1,c2,this]
     ·rw[AjF c1,AjF c2]at q1
      have g1:decide (In n x.1)=true:=by simpa using q1.symm
      by_cases c3:x.2.1<0
      ·rw[AjG c3,Bool.true_or]at q2
       have:decide (In n x.2.1)=false:=by simpa using q2.symm
       simp[c1,c2,c3,this]
      ·by_cases c4:n≤x.2.1
       ·rw[AjG c4,Bool.or_true]at q2
        have:decide (In n x.2.1)=false:=by simpa using q2.symm
        simp[c1,c2,c3,c4,this]
       ·rw[AjF c3,AjF c4]at q2
        have g2:decide (In n x.2.1)=true:=by simpa using q2.symm
        simp[c1,c2,c3,c4,g1,g2])
   (by rw[Ht,AL,AO,AjF (by omega)])
  have e':AW Ht many (l,n,rings,(0:Int),())=_:=e
  rw[e',List.any_eq_not_all_not]
  simp only[Bool.not_not]
  cases l.all fun e=>decide (In n e.1)&&decide (In n e.2.1)<;>rfl
 ·simp[h]
end Go.Pev.Pl
end
section
namespace Go.Pev.Pl
open Tok
end Go.Pev.Pl
end
section
namespace Go.Pev.Pl
open Tok
end Go.Pev.Pl
end
section
namespace Go.Pev.Pl
open Tok
end Go.Pev.Pl
end
section
namespace Go.Pev.Pl
open Tok
theorem AM5{N:Nat}(h1:1≤N)(hN:N≤64){ts:List Tie}(hs:ts.length≤400)(ho:oks N ts){out:List Int}(hc:MY (N:Int) (trs ts ts.length) out):
  C2 (((N:Int),(ts,())),())=some (decide ((cnt out N:Int)=(N:Int)-(trs ts ts.length).length),()):=by
 have R:=Qr N hN ts hs
 rw[AjV ho]at R
 have hin:=AQ8 hN ho
 have hlen:=AHe ts ts.length
 obtain⟨o2,e2,c2⟩:=DS (N:Int) (trs ts ts.length) ⟨by omega,by omega⟩ (by omega) hin
 have:=MY.unique h1 hN hc c2
 subst this
 have hol:out.length=N:=by have:=hc.len;omega
 rw[Fg,Eo]
 simp only[Ai,AL]
 rw[AjF (show ¬ (N:Int)<1 by omega),AjF (show ¬ 64<(N:Int) by omega),AjF (show ¬ 400<(ts.length:Int) by omega)]
 simp only[R,e2,Oo N hN _ _ out hol,Ar]
 rw[Ah (by omega)]
end Go.Pev.Pl
end
section
namespace Go.Pev.Pl
open Tok
theorem Con.perm{l l':List Edge}(h:∀ e,e∈l↔e∈l'){a b:Int}:Con l a b↔Con l' a b:=
 ⟨fun c=>c.mono fun e he=>⟨e,(h e).1 he,.inl ⟨rfl,rfl⟩⟩,fun c=>c.mono fun e he=>⟨e,(h e).2 he,.inl ⟨rfl,rfl⟩⟩⟩
theorem MY.congr{n:Int}{l l':List Edge}{out:List Int}(h:∀ a b,Con l a b↔Con l' a b)(hc:MY n l out):MY n l' out:=
 ⟨hc.len,fun a b ia ib=>(hc.same a b ia ib).trans (h a b),hc.isin,fun a ia=>(h a _).1 (hc.con a ia),fun a b ia ib c=>hc.least a b ia ib ((h a b).2 c)⟩
end Go.Pev.Pl
end
section
namespace Go.Pev.Pl
open Tok
def AFj(x:Edge)(b:Bool):Tie:=(x.1,x.2.1,0,b,())
def YR(ts:List Tie)(xs:List Edge)(bs:List Bool)(k:Nat):List Tie:=(List.range k).foldl (fun a i=>AAk a (AFj (xs.getD i (0,0,())) (bs.getD i false))) ts
end Go.Pev.Pl
end
section
namespace Go.Pev.Pl
open Tok
def ATg(xs:List Edge)(bs:List Bool)(k:Nat):List Tie:=(List.range k).map fun i=>AFj (xs.getD i (0,0,())) (bs.getD i false)
theorem AG5(ts:List Tie)(xs:List Edge)(bs:List Bool)(k:Nat):YR ts xs bs (k+1)=AAk (YR ts xs bs k) (AFj (xs.getD k (0,0,())) (bs.getD k false)):=by
 unfold YR
 rw[Aki,List.foldl_append]
 rfl
theorem WC(ts:List Tie)(xs:List Edge)(bs:List Bool):∀ k,(YR ts xs bs k).Perm (ts++ATg xs bs k):=by
 intro k
 induction k with
 |zero=>simp[YR,ATg]
 |succ k ih=>
  rw[AG5]
  refine(AF7 _ _).trans ?_
  unfold ATg at *
  rw[Aki,Aks,← AkF]
  refine(List.Perm.cons _ ih).trans ?_
  exact(List.perm_append_singleton _ _).symm
end Go.Pev.Pl
end
section
namespace Go.Pev.Pl
open Tok
theorem AfH{N:Nat}{ts:List Tie}(h:oks N ts)(hv0:0≤Hq N){xs:List Edge}(bs:List Bool)(hp:xs.Pairwise G5)(hx:∀ e∈xs,0≤e.1∧e.1<e.2.1∧e.2.1<(N:Int))(hn:∀ e∈xs,¬ e∈ts.map ed):oks N (YR ts xs bs xs.length):=by
 rw[Q6]at h ⊢
 obtain⟨h1,h2⟩:=h
 have hget:∀ i (hi:i<xs.length),xs.getD i (0,0,())=xs[i]:=fun i hi=>by
  simp only[AjK,AjM hi,Aju]
 have hmem:∀ k,k≤xs.length→∀ t∈YR ts xs bs k,t∈ts∨∃ i,i<k∧t=AFj (xs.getD i (0,0,())) (bs.getD i false):=by
  intro k hk t ht
  rcases AjL.1 ((WC ts xs bs k).mem_iff.1 ht)with h|h
  ·exact .inl h
  ·unfold ATg at h
   obtain⟨i,hi,rfl⟩:=Ajc.1 h
   exact .inr ⟨i,by simpa using hi,rfl⟩
 refine⟨fun t ht => ?_,?_⟩
 ·rcases hmem _ (AjR _) t ht with h|⟨i,hi,rfl⟩
  ·exact h1 t h
  ·rw[hget i hi]
   obtain⟨q1,q2,q3⟩:=hx xs[i] (Akc hi)
   exact⟨q1,q2,q3,by show(0:Int)≤0;omega,hv0⟩
 ·have key:∀ k,k≤xs.length→(YR ts xs bs k).Pairwise ahead:=by
   intro k
   induction k with
   |zero=>intro _;exact h2
   |succ k ih=>
    intro hk
    rw[AG5]
    refine AYs (ih (by omega)) fun t ht => ?_
    rw[hget k (by omega)]
    rintro⟨e1,e2⟩
    rcases hmem k (by omega) t ht with h|⟨i,hi,rfl⟩
    ·refine hn xs[k] (Akc (by omega)) (Ajc.2 ⟨t,h,?_⟩)
     unfold ed
     rw[e1,e2]
     rfl
    ·rw[hget i (by omega)]at e1 e2
     have:=(Akt.1 hp) i k (by omega) (by omega) hi
     unfold G5 at this
     simp only[AFj]at e1 e2
     omega
  exact key _ (AjR _)
end Go.Pev.Pl
end
section
namespace Go.Pev.Pl
open Tok
theorem Aba(ts:List Tie):∀ k,k≤ts.length→trs ts k=((ts.take k).filter fun t=>t.2.2.2.1).map ed:=by
 intro k
 induction k with
 |zero=>intro _;simp[trs]
 |succ k ih=>
  intro hk
  have hk':k<ts.length:=by omega
  rw[ZS,ih (by omega),Akn hk',Ak6,Aks]
  simp only[AjK,AjM hk',Aju]
  cases h:ts[k].2.2.2.1
  ·simp[h]
  ·simp[h]
theorem AHf(ts:List Tie):trs ts ts.length=(ts.filter fun t=>t.2.2.2.1).map ed:=by
 rw[Aba ts _ (AjR _),Akk]
end Go.Pev.Pl
end
section
namespace Go.Pev.Pl
open Tok
theorem Adg{xs:List Edge}{bs:List Bool}(h:bs.length=xs.length):ATg xs bs xs.length=(xs.zip bs).map fun p=>AFj p.1 p.2:=by
 unfold ATg
 apply AmR
 ·simp[h]
 ·intro i h1 h2
  have hi:i<xs.length:=by simpa using h1
  simp[hi,show i<bs.length by omega]
theorem AfG(ts:List Tie){xs:List Edge}{bs:List Bool}(h:bs.length=xs.length):(trs (YR ts xs bs xs.length) (YR ts xs bs xs.length).length).Perm (trs ts ts.length++sel xs bs):=by
 rw[AHf,AHf]
 refine(((WC ts xs bs xs.length).filter _).map ed).trans ?_
 rw[Ak6,Aks,Adg h,List.filter_map,AlX]
 exact List.Perm.refl _
theorem AfI(ts:List Tie)(xs:List Edge)(bs:List Bool):∀ k,(YR ts xs bs k).length=ts.length+k:=by
 intro k
 rw[(WC ts xs bs k).length_eq]
 simp[ATg]
end Go.Pev.Pl
end
end
section
section
namespace Go.Pev.Pl
open Tok
theorem Aey{N:Nat}(hN:N≤64)(ts:List Tie)(l:List Edge):∀ e∈Kj N ts l,In (N:Int) e.1∧In (N:Int) e.2.1:=by
 intro e he
 obtain⟨⟨a,b,c,_⟩,_⟩:=(To N ts l e).1 he
 exact⟨⟨by omega,by omega,a,by omega⟩,⟨by omega,by omega,by omega,c⟩⟩
end Go.Pev.Pl
end
section
namespace Go.Pev.Pl
open Tok
theorem AW6{N:Nat}(h1:1≤N)(hN:N≤64){a:Int}(h:0≤a∧a<(N:Int)):In (N:Int) a:=⟨by omega,by omega,h.1,h.2⟩
theorem Ad6{N:Nat}{e:Edge}(h:In (N:Int) e.1∧In (N:Int) e.2.1):InE N e:=⟨⟨h.1.2.2.1,h.1.2.2.2⟩,⟨h.2.2.2.1,h.2.2.2.2⟩⟩
theorem Aie{N:Nat}(h1:1≤N)(hN:N≤64){l:List Edge}{out:List Int}(hc:MY (N:Int) l out):cnt out N=cc N l:=by
 unfold cnt cc
 rw[List.countP_eq_length_filter]
 congr 1
 refine AlF fun k hk => ?_
 have hk:k<N:=by simpa using hk
 have ik:=AW6 h1 hN (a:=(k:Int)) ⟨by omega,by omega⟩
 have hg:out.getD k 0=cl out (k:Int):=by unfold cl;rw[AkA]
 rw[hg,AkW,Ajy,IE]
 constructor
 ·intro h j hj hcn
  have:=hc.least (k:Int) (j:Int) ik (AW6 h1 hN ⟨by omega,by omega⟩) hcn.symm
  omega
 ·intro h
  have a1:=hc.isin _ ik
  have a2:=hc.con _ ik
  have a3:=hc.least (k:Int) (k:Int) ik ik (.refl _)
  obtain⟨m,hm⟩:=AjO a1.2.2.1
  rw[hm]at a2 a3 ⊢
  by_cases hlt:m<k
  ·exact absurd a2.symm (h m hlt)
  ·omega
theorem FC.congr{n:Int}{rings:List (List Int)}{l l':List Edge}(h:FC n rings l)(hm:∀ e∈l,e∈l')(hc:∀ e∈l',Con l e.1 e.2.1):FC n rings l':=
 ⟨h.fr,fun a b ia ib=>(h.sam a b ia ib).trans ⟨fun c=>c.sub hm,fun c=>c.cut hc⟩,fun A hA u v ho hu=>by
  obtain⟨e,he,q⟩:=h.arcs A hA u v ho hu
  exact⟨e,hm e he,q⟩⟩
theorem AM4{N:Nat}(h1:1≤N)(hN:N≤64){ts:List Tie}(hs:ts.length≤400)(ho:oks N ts):C2 (((N:Int),(ts,())),())=some (true,())↔Fo N (trs ts ts.length):=by
 have hlen:=AHe ts ts.length
 obtain⟨o,_,c⟩:=DS (N:Int) (trs ts ts.length) ⟨by omega,by omega⟩ (by omega) (AQ8 hN ho)
 rw[AM5 h1 hN hs ho c,Aie h1 hN c]
 unfold Fo
 constructor
 ·intro h
  have:decide ((cc N (trs ts ts.length):Int)=(N:Int)-(trs ts ts.length).length)=true:=by injection h with h;injection h
  have:=AlE this
  omega
 ·intro h
  rw[AjG (by omega)]
end Go.Pev.Pl
end
section
namespace Go.Pev.Pl
open Tok
end Go.Pev.Pl
end
section
namespace Go.Pev.Pl.SE
open Go.Sort
def ok(_:Int×Int×Unit):Prop:=True
def okz:Int×Int×Unit:=(0,0,())
theorem Tk:ok okz:=trivial
def lt(x y:Int×Int×Unit):Bool:=decide (x.1<y.1∨(x.1=y.1∧x.2.1<y.2.1))
theorem swo:SWO lt:=⟨fun x=>by simp[lt],fun x y z h1 h2=>by simp only[lt,AjI]at *;omega,fun x y z h1 h2=>by simp only[lt,AkB]at *;omega⟩
theorem XT(a b:Int):Dn (a,b,())=some (if a<b then -1 else if b<a then 1 else 0,()):=by
 rw[Gt,Ej,LN,LO,LN,LO]
 simp only[B9,Ai]
 by_cases h:a<b
 ·simp[h]
 ·by_cases h2:b<a
  ·simp[h,h2]
  ·simp[h,h2]
theorem or_val(a b:Int):orI ([a,b],())=some (if a=0 then b else a,()):=by
 obtain⟨m,hm⟩:∃ m,many=m+3:=⟨many-3,by simp only[many]⟩
 rw[AJT,AGN,An,hm]
 have i0:idx [a,b] (0:Int)=some a:=by rw[idx_eq];rfl
 have i1:idx [a,b] (1:Int)=some b:=by rw[idx_eq];rfl
 have l2:AI [a,b]=(2:Int):=rfl
 have w1:IntKind.wrap .i64 ((0:Int)+1)=1:=by rw[Ah (by omega)];rfl
 have w2:IntKind.wrap .i64 ((1:Int)+1)=2:=by rw[Ah (by omega)];rfl
 have c0:ilt (0:Int) 2=true:=by rw[Ai];rfl
 have c1:ilt (1:Int) 2=true:=by rw[Ai];rfl
 have c2:ilt (2:Int) 2=false:=by rw[Ai];rfl
 by_cases ha:a=0
 ·subst ha
  by_cases hb:b=0
  ·subst hb
   have z:ieq (0:Int) 0=true:=by rw[B9];rfl
   simp only[AY,Fp,l2,i0,i1,w1,w2,c0,c1,c2,z,AjT,Ajs]
  ·have:ieq b 0=false:=by rw[B9];simpa using hb
   have z:ieq (0:Int) 0=true:=by rw[B9];rfl
   simp only[AY,Fp,l2,i0,i1,w1,w2,c0,c1,c2,z,this,AjT,Ajw,Ajs]
 ·have:ieq a 0=false:=by rw[B9];simpa using ha
  simp only[AY,Fp,l2,i0,i1,w1,w2,c0,c1,c2,this,ha,Ajw,Ajb]
end Go.Pev.Pl.SE
end
section
namespace Go.Pev.Pl.ST
open Go.Sort
def ok(_:Int×Int×Int×Bool×Unit):Prop:=True
def okz:Int×Int×Int×Bool×Unit:=(0,0,0,false,())
theorem Tk:ok okz:=trivial
def lt(x y:Int×Int×Int×Bool×Unit):Bool:=decide (x.1<y.1∨(x.1=y.1∧x.2.1<y.2.1))
theorem swo:SWO lt:=⟨fun x=>by simp[lt],fun x y z h1 h2=>by simp only[lt,AjI]at *;omega,fun x y z h1 h2=>by simp only[lt,AkB]at *;omega⟩
theorem XT(a b:Int):Dn (a,b,())=some (if a<b then -1 else if b<a then 1 else 0,()):=by
 rw[Gt,Ej,LN,LO,LN,LO]
 simp only[B9,Ai]
 by_cases h:a<b
 ·simp[h]
 ·by_cases h2:b<a
  ·simp[h,h2]
  ·simp[h,h2]
theorem or_val(a b:Int):orI ([a,b],())=some (if a=0 then b else a,()):=by
 obtain⟨m,hm⟩:∃ m,many=m+3:=⟨many-3,by simp only[many]⟩
 rw[AJT,AGN,An,hm]
 have i0:idx [a,b] (0:Int)=some a:=by rw[idx_eq];rfl
 have i1:idx [a,b] (1:Int)=some b:=by rw[idx_eq];rfl
 have l2:AI [a,b]=(2:Int):=rfl
 have w1:IntKind.wrap .i64 ((0:Int)+1)=1:=by rw[Ah (by omega)];rfl
 have w2:IntKind.wrap .i64 ((1:Int)+1)=2:=by rw[Ah (by omega)];rfl
 have c0:ilt (0:Int) 2=true:=by rw[Ai];rfl
 have c1:ilt (1:Int) 2=true:=by rw[Ai];rfl
 have c2:ilt (2:Int) 2=false:=by rw[Ai];rfl
 by_cases ha:a=0
 ·subst ha
  by_cases hb:b=0
  ·subst hb
   have z:ieq (0:Int) 0=true:=by rw[B9];rfl
   simp only[AY,Fp,l2,i0,i1,w1,w2,c0,c1,c2,z,AjT,Ajs]
  ·have:ieq b 0=false:=by rw[B9];simpa using hb
   have z:ieq (0:Int) 0=true:=by rw[B9];rfl
   simp only[AY,Fp,l2,i0,i1,w1,w2,c0,c1,c2,z,this,AjT,Ajw,Ajs]
 ·have:ieq a 0=false:=by rw[B9];simpa using ha
  simp only[AY,Fp,l2,i0,i1,w1,w2,c0,c1,c2,this,ha,Ajw,Ajb]
end Go.Pev.Pl.ST
end
section
namespace Go.Pev.Pl
open Tok
section
variable {α β:Type} [DecidableEq α]
end
end Go.Pev.Pl
end
section
namespace Go.Pev.Pl
open Tok
theorem Af2:∀ (xs b:List Edge),sel xs (gfl b xs)=MX b xs:=by
 intro xs
 induction xs with
 |nil=>intro b;rfl
 |cons x xs ih=>
  intro b
  have:=ih (b++[x])
  unfold sel at *
  rw[gfl,MX,All,AkL]
  by_cases h:CK b x.1 x.2.1=true
  ·simp[h,this]
  ·simp[h,this]
theorem AhZ{N:Nat}{b xs:List Edge}(h:Fo N b)(hx:∀ e∈xs,InE N e):Fo N (b++MX b xs):=by
 have h1:=OQ xs b hx
 have h2:cc N (b++xs)=cc N (b++MX b xs):=ADc fun a c=>ADS xs b
 unfold Fo at *
 rw[AjQ]
 omega
theorem Wc{N:Nat}(hN:N≤64):0≤Hq N:=by
 have:((List.range 65).all fun k=>decide (0≤Hq k))=true:=by kernel_rfl
 exact AlE (Ajf.1 this N (by simp;omega))
noncomputable def grown(N:Nat)(ts:List Tie)(l:List Edge):List Tie:=YR ts (Kj N ts l) (gfl (trs ts ts.length) (Kj N ts l)) (Kj N ts l).length
theorem AaJ(N:Nat)(ts:List Tie)(l:List Edge):(grown N ts l).length=ts.length+(Kj N ts l).length:=AfI ..
theorem AaH(N:Nat)(ts:List Tie)(l:List Edge):(trs (grown N ts l) (grown N ts l).length).Perm (trs ts ts.length++MX (trs ts ts.length) (Kj N ts l)):=by
 have:=AfG ts (xs:=Kj N ts l) (bs:=gfl (trs ts ts.length) (Kj N ts l)) (AhC _ _)
 rw[Af2]at this
 exact this
theorem AaI{N:Nat}(hN:N≤64){ts:List Tie}(ho:oks N ts)(l:List Edge):oks N (grown N ts l):=
 AfH ho (Wc hN) _ (AVL N ts l) (fun e he=>by
  obtain⟨⟨a,b,c,_⟩,_⟩:=(To N ts l e).1 he
  exact⟨a,b,c⟩) (fun e he=>((To N ts l e).1 he).2)
theorem Aaq{N:Nat}(hN:N≤64)(ts:List Tie)(l:List Edge):∀ e∈Kj N ts l,InE N e:=fun e he=>Ad6 (Aey hN ts l e he)
theorem AeS{N:Nat}(hN:N≤64){ts:List Tie}(h:Fo N (trs ts ts.length))(l:List Edge):Fo N (trs (grown N ts l) (grown N ts l).length):=
 (AhZ h (Aaq hN ts l)).perm (AaH N ts l).symm
structure RG2(N:Nat)(ts:List Tie):Prop where
 h1:1≤N
 hN:N≤64
 ht:ts.length≤400
 oks:oks N ts
 fo:Fo N (trs ts ts.length)
theorem RG2.r21{N:Nat}{ts:List Tie}(h:RG2 N ts):C2 (((N:Int),(ts,())),())=some (true,()):=(AM4 h.h1 h.hN h.ht h.oks).2 h.fo
theorem RG2.lr{N:Nat}{ts:List Tie}(h:RG2 N ts):Pn (((N:Int),(ts,())),())=some (true,()):=by
 obtain⟨b,h1,h2,_⟩:=ADn (N:Int) ts (by have:=h.ht;omega)
 rw[h.r21]at h1
 cases h1
 exact h2
theorem AF3(n:Int)(ts:List Tie)(hl:ts.length<4611686018427387904):(C2 ((n,(ts,())),())=some (false,())∧Pn ((n,(ts,())),())=some (false,()))∨∃ N:Nat,n=(N:Int)∧RG2 N ts:=by
 obtain⟨b,h1,h2,h3⟩:=ADn n ts hl
 cases b
 ·exact .inl ⟨h1,h2⟩
 ·obtain⟨N,rfl,q1,q2,q3,q4⟩:=h3 rfl
  exact .inr ⟨N,rfl,q1,q2,q3,q4,(AM4 q1 q2 q3 q4).1 h1⟩
theorem RG2.inE{N:Nat}{ts:List Tie}(h:RG2 N ts):∀ e∈ts.map ed,In (N:Int) e.1∧In (N:Int) e.2.1:=Aic h.hN h.oks
theorem RG2.grown{N:Nat}{ts:List Tie}(h:RG2 N ts){l:List Edge}(hf:ts.length+(Kj N ts l).length≤400):RG2 N (grown N ts l):=
 ⟨h.h1,h.hN,by rw[AaJ];exact hf,AaI h.hN h.oks l,AeS h.hN h.fo l⟩
end Go.Pev.Pl
end
section
namespace Go.Pev.Pl
open Tok
def FY(u v:Int)(t:Tie):Bool:=decide (t.1=min u v∧t.2.1=max u v)
theorem ACo{N:Nat}{ts:List Tie}(h:RG2 N ts)(u v:Int):UZ (((N:Int),(ts,())),u,v,())=some (if ts.any (FY u v)then((ts.findIdx (FY u v):Nat):Int)else -1,()):=by
 have ht:=h.ht
 rw[AGn,Re]
 simp only[h.r21,AjT]
 have e:=HD (step:=F9) (fun i=>(u,v,(N:Int),ts,(i:Int),())) ts (FY u v) (fun i=>.inl ((i:Int),())) (.inr (.inl ())) (by omega)
  (fun i x hi hx=>by
   rw[F9,AL,AO,AjG hi]
   simp only[Ag hx,AKA,AW8,Ar]
   rw[AN (by omega)]
   unfold FY
   by_cases h1:x.1=min u v
   ·by_cases h2:x.2.1=max u v
    ·rw[AjG h1,AjG h2,AjG (show x.1=min u v∧x.2.1=max u v from⟨h1,h2⟩)]
     rfl
    ·rw[AjG h1,AjF h2,AjF (fun h:x.1=min u v∧x.2.1=max u v=>h2 h.2)]
     rfl
   ·rw[AjF h1,AjF (fun h:x.1=min u v∧x.2.1=max u v=>h1 h.1)]
    rfl)
  (by rw[F9,AL,AO,AjF (by omega)])
 have e':AW F9 many (u,v,(N:Int),ts,(0:Int),())=_:=e
 rw[e']
 by_cases ha:ts.any (FY u v)=true
 ·rw[AjV ha,AjV ha]
 ·rw[AjS ha,AjS ha]
end Go.Pev.Pl
end
end
section
namespace Go.Pev.Pl
open Tok
theorem Abc(ts:List Tie)(t:Tie)(k:Int):trk (ts++[t]) k=trk ts k++if t.2.2.2.1=true∧k≤t.2.2.1 then [ed t]else []:=by
 rw[Bk]
 congr 1
 unfold trk
 rw[AkL]
 by_cases h:t.2.2.2.1=true∧k≤t.2.2.1
 ·rw[AjV h,h.1,AjG h.2];rfl
 ·rw[AjS h,AjS]
  ·rfl
  ·rw[AjJ,AjI];exact h
theorem AL4(k:Int):∀ (ts a:List Tie) (acc:List Edge),acc=trk a k→ts.foldl (fun acc t=>if t.2.2.2.1=true∧k≤t.2.2.1 then acc++[ed t]else acc) acc=trk (a++ts) k:=by
 intro ts
 induction ts with
 |nil=>intro a acc h;simpa using h
 |cons t ts ih=>
  intro a acc h
  rw[AkC,ih (a++[t])]
  ·simp
  ·rw[Abc,← h]
   split<;>simp
theorem AVw(ts:List Tie)(k:Int):(trk ts k).length≤ts.length:=by
 unfold trk
 rw[AkM]
 exact Akz _ _
theorem AHg(ts:List Tie)(k:Int):∀ e∈trk ts k,e∈ts.map ed:=by
 intro e he
 obtain⟨t,h1,_,_,rfl⟩:=DA.1 he
 exact Ajc.2 ⟨t,h1,rfl⟩
theorem AOt(n:Int)(ts:List Tie)(hs:ts.length≤400)(k:Int):Pm ((n,(ts,())),k,())=some (trk ts k,()):=by
 rw[T4,ND]
 have e:=DZ (step:=Cr) (fun i (a:List Edge)=>(k,a,ts,AI ts,(i:Int),())) ts (fun t a=>.inl (if t.2.2.2.1=true∧k≤t.2.2.1 then a++[ed t]else a)) (fun a=>.inl (a,())) (fun i a=>a.length≤i) (by omega)
  (fun i x a hi hx ha=>by
   refine⟨fun m' h' => ?_,fun r h'=>(by cases h')⟩
   cases h'
   constructor
   ·rw[Cr,AL,AO,AjG hi]
    simp only[Ag hx,AL]
    rw[AN (by omega),Ax,BY (by simp only[AjP,Ajh];omega)]
    cases h4:x.2.2.2.1
    ·simp
    ·by_cases h5:k≤x.2.2.1
     ·simp[h5,ed,A2]
     ·simp[h5]
   ·split
    ·rw[AjQ];simp;omega
    ·omega)
  (fun a _=>by rw[Cr,AL,AO,AjF (by omega)]) [] (AjR _)
 have e':AW Cr many (k,[],ts,AI ts,(0:Int),())=_:=e
 simp only[e']
 rw[Bd (fun(t:Tie) (a:List Edge)=>if t.2.2.2.1=true∧k≤t.2.2.1 then a++[ed t]else a),AL4 k ts [] [] rfl]
 rfl
theorem N2(n:Int)(ts:List Tie)(hs:ts.length≤400)(k:Int):Iv ((n,(ts,())),k,())=some (trk ts k,()):=by
 rw[Za,N3]
 have e:=DZ (step:=EX) (fun i (a:List Edge)=>(k,n,ts,a,(i:Int),())) ts (fun t a=>.inl (if t.2.2.2.1=true∧k≤t.2.2.1 then a++[ed t]else a)) (fun a=>.inl (a,())) (fun i a=>a.length≤i) (by omega)
  (fun i x a hi hx ha=>by
   refine⟨fun m' h' => ?_,fun r h'=>(by cases h')⟩
   cases h'
   constructor
   ·rw[EX,AL,AO,AjG hi]
    simp only[Ag hx,AL]
    rw[AN (by omega),Ax,BY (by simp only[AjP,Ajh];omega)]
    cases h4:x.2.2.2.1
    ·simp
    ·by_cases h5:k≤x.2.2.1
     ·simp[h5,ed,A2]
     ·simp[h5]
   ·split
    ·rw[AjQ];simp;omega
    ·omega)
  (fun a _=>by rw[EX,AL,AO,AjF (by omega)]) [] (AjR _)
 have e':AW EX many (k,n,ts,[],(0:Int),())=_:=e
 simp only[e']
 rw[Bd (fun(t:Tie) (a:List Edge)=>if t.2.2.2.1=true∧k≤t.2.2.1 then a++[ed t]else a),AL4 k ts [] [] rfl]
 rfl
theorem AL2{N:Nat}{ts:List Tie}(h:oks N ts):trs ts ts.length=trk ts 0:=by
 rw[AHf]
 unfold trk
 congr 1
 refine AlF fun t ht => ?_
 have:=((Q6 N ts).1 h).1 t ht
 rw[AjG this.2.2.2.1,Bool.and_true]
theorem RG2.fo0{N:Nat}{ts:List Tie}(h:RG2 N ts):Fo N (trk ts 0):=by rw[← AL2 h.oks];exact h.fo
theorem RG2.inK{N:Nat}{ts:List Tie}(h:RG2 N ts)(k:Int):∀ e∈trk ts k,In (N:Int) e.1∧In (N:Int) e.2.1:=fun e he=>h.inE e (AHg ts k e he)
theorem RG2.AiS{N:Nat}{ts:List Tie}(h:RG2 N ts)(k:Int):(trk ts k).length≤400:=AkO (AVw ts k) h.ht
theorem RG2.AjA{N:Nat}{ts:List Tie}(h:RG2 N ts)(k:Int):∃ zs,OG (((N:Int),(ts,())),k,())=some (((N:Int),(zs,())),0,())∧FC (N:Int) zs (trk ts k):=by
 have hl:=h.AiS k
 have h1:=h.h1
 have hN:=h.hN
 rcases(AXJ (N:Int) (trk ts k) ⟨by omega,by omega⟩ (by omega)).symm with⟨hno,_⟩|⟨_,zs,e,hF⟩
 ·exact absurd (h.inK k) hno
 refine⟨zs,?_,hF⟩
 rw[Pp,KY]
 simp only[h.lr,AjT,AOt (N:Int) ts h.ht k,e]
theorem RG2.AXQ{N:Nat}{ts:List Tie}(h:RG2 N ts)(k:Int):∃ out,DT ((N:Int),trk ts k,())=some (out,())∧MY (N:Int) (trk ts k) out:=by
 have:=h.AiS k
 have h1:=h.h1
 have hN:=h.hN
 exact DS (N:Int) (trk ts k) ⟨by omega,by omega⟩ (by omega) (h.inK k)
end Go.Pev.Pl
end
section
namespace Go.Pev.Pl
open Tok
noncomputable def I3(p:Prop):Bool:=@decide p (Classical.propDecidable _)
theorem D1(p:Prop):I3 p=true↔p:=by
 unfold I3
 exact @decide_eq_true_iff _ (Classical.propDecidable _)
theorem Qy{p:Prop}{b:Bool}(h:b=true↔p):b=I3 p:=by rw[AkW,D1];exact h
def XZ(ts:List Tie):Prop:=∀ e∈ts.map ed,Con (trk ts 0) e.1 e.2.1
def ALO(ts:List Tie):Prop:=∀ t∈ts,t.2.2.2.1=false→Con (trk ts t.2.2.1) t.1 t.2.1
def R4(N:Nat)(ts:List Tie):Prop:=∀ k:Nat,(k:Int)≤Hq N→∀ v:Nat,v<N→csz N (trk ts k) v≤max 1 (N/2 ^ k)
theorem Aay{N:Nat}(h1:1≤N)(hN:N≤64){l l':List Edge}{o o':List Int}(hc:MY (N:Int) l o)(hc':MY (N:Int) l' o')(hl:∀ e∈l,In (N:Int) e.1∧In (N:Int) e.2.1)(hl':∀ e∈l',In (N:Int) e.1∧In (N:Int) e.2.1):
  o=o'↔(∀ e∈l,Con l' e.1 e.2.1)∧(∀ e∈l',Con l e.1 e.2.1):=by
 constructor
 ·rintro rfl
  refine⟨fun e he => ?_,fun e he => ?_⟩
  ·obtain⟨i1,i2⟩:=hl e he
   exact(hc'.same _ _ i1 i2).1 ((hc.same _ _ i1 i2).2 (.edge e he))
  ·obtain⟨i1,i2⟩:=hl' e he
   exact(hc.same _ _ i1 i2).1 ((hc'.same _ _ i1 i2).2 (.edge e he))
 ·rintro⟨q1,q2⟩
  exact MY.unique h1 hN hc (MY.congr (fun a b=>⟨fun c=>c.cut q2,fun c=>c.cut q1⟩) hc')
noncomputable def ATb(ts:List Tie)(t:Tie):Bool := !t.2.2.2.1 && !CK (trk ts t.2.2.1) t.1 t.2.1
theorem Agb(ts:List Tie):(!ts.any (ATb ts))=I3 (ALO ts):=by
 refine Qy ?_
 rw[AkN,Als]
 unfold ATb ALO
 constructor
 ·intro h t ht hf
  have:=h t ht
  rw[hf]at this
  rw[← BC]
  simpa using this
 ·intro h t ht
  cases hf:t.2.2.2.1
  ·have:=h t ht hf
   rw[← BC]at this
   simp[this]
  ·simp
theorem RG2.tie{N:Nat}{ts:List Tie}(h:RG2 N ts){t:Tie}(ht:t∈ts):In (N:Int) t.1∧In (N:Int) t.2.1∧t.1<t.2.1∧0≤t.2.2.1∧t.2.2.1≤Hq N:=by
 have h1:=((Q6 N ts).1 h.oks).1 t ht
 have h2:=h.inE (ed t) (Ajc.2 ⟨t,ht,rfl⟩)
 exact⟨h2.1,h2.2,h1.2.1,h1.2.2.2.1,h1.2.2.2.2⟩
end Go.Pev.Pl
end
section
namespace Go.Pev.Pl
open Tok
noncomputable def ALC(N:Nat)(ts:List Tie)(k:Nat):Bool:=(List.range N).any fun v=>decide (max 1 (N/2 ^ k)<csz N (trk ts k) (v:Int))
def CS(N:Nat):Nat:=(Hq N).toNat
theorem E6{N:Nat}(hN:N≤64):Hq N=(CS N:Int):=by
 have:=Wc hN
 unfold CS
 omega
theorem YX{N:Nat}(hN:N≤64):CS N<64:=by
 have:((List.range 65).all fun k=>decide (Hq k<64))=true:=by kernel_rfl
 have h1:=AlE (Ajf.1 this N (by simp;omega))
 have:=E6 hN
 omega
theorem Ae8{N:Nat}(hN:N≤64)(ts:List Tie):(!(List.range (CS N+1)).any (ALC N ts))=I3 (R4 N ts):=by
 refine Qy ?_
 rw[AkN,Als]
 unfold ALC R4
 constructor
 ·intro h k hk v hv
  have h1:=h k (by rw[AkP];have:=E6 hN;omega)
  rw[AmX,Als]at h1
  have:=h1 v (by simpa using hv)
  rw[Ajy]at this
  omega
 ·intro h k hk
  rw[AkP]at hk
  rw[AmX,Als]
  intro v hv
  have:=h k (by rw[E6 hN];omega) v (by simpa using hv)
  rw[Ajy]
  omega
theorem Yr(N:Nat)(l:List Edge)(v:Int):csz N l v≤N:=by
 unfold csz
 have:=List.countP_le_length (p:=fun(w:Nat)=>CK l v (w:Int)) (l:=List.range N)
 rw[Ajx]at this
 exact this
theorem RG2.snd{N:Nat}{ts:List Tie}(h:RG2 N ts)(hs:XZ ts∧ALO ts∧R4 N ts):Snd N (CS N:Int) ts:=by
 refine⟨fun x hx => ?_,fun x hx=>Ad6 (h.inE _ (Ajc.2 ⟨x,hx,rfl⟩)),h.fo0,hs.2.1,fun k hk v hv=>hs.2.2 k (by rw[E6 h.hN];exact hk) v hv⟩
 rw[← E6 h.hN]
 exact(h.tie hx).2.2.2
theorem Snd.parts{N:Nat}{ts:List Tie}(h:RG2 N ts)(hs:Snd N (CS N:Int) ts):XZ ts∧ALO ts∧R4 N ts:=by
 refine⟨fun e he=>(hs.span _ _).1 (.edge e he),hs.lie,fun k hk v hv=>hs.halv k (by rw[← E6 h.hN];exact hk) v hv⟩
end Go.Pev.Pl
end
section
namespace Go.Pev.Pl
open Tok
theorem AfZ{N:Nat}(hN:N≤64):N/2 ^ CS N≤1:=by
 have:((List.range 65).all fun k=>decide (k/2 ^ CS k≤1))=true:=by kernel_rfl
 exact AlE (Ajf.1 this N (by simp;omega))
theorem RG2.below{N:Nat}{ts:List Tie}(h:RG2 N ts)(hs:Snd N (CS N:Int) ts){t:Tie}(ht:t∈ts):t.2.2.1<(CS N:Int):=
 hs.below (AfZ h.hN) ht (by have:=(h.tie ht).2.2.1;omega)
end Go.Pev.Pl
end
section
namespace Go.Pev.Pl
open Tok
noncomputable def LR(N:Nat)(l:List Edge)(v:Int):List Int:=((List.range N).filter fun(w:Nat)=>CK l v (w:Int)).map fun(w:Nat)=>(w:Int)
theorem NA(N:Nat)(l:List Edge)(v:Int):(LR N l v).length=csz N l v:=by
 unfold LR csz
 rw[AkM,List.countP_eq_length_filter]
theorem ABs{N:Nat}{l:List Edge}{v x:Int}:x∈LR N l v↔(0≤x∧x<(N:Int))∧Con l v x:=by
 unfold LR
 simp only[Ajc,Ajp,AkP,BC]
 constructor
 ·rintro⟨w,⟨h1,h2⟩,rfl⟩
  exact⟨by omega,h2⟩
 ·rintro⟨⟨h1,h2⟩,h3⟩
  obtain⟨w,rfl⟩:=AjO h1
  exact⟨w,⟨by omega,h3⟩,rfl⟩
theorem Jj{N:Nat}(h1:1≤N)(hN:N≤64)(ts:List Tie)(ht:ts.length≤400)(hin:∀ e∈ts.map ed,In (N:Int) e.1∧In (N:Int) e.2.1)(v:Nat)(hv:v<N)(k:Int):Fs (((N:Int),(ts,())),(v:Int),k,())=some (LR N (trk ts k) (v:Int),()):=by
 obtain⟨o,e1,c1⟩:=DS (N:Int) (trk ts k) ⟨by omega,by omega⟩ (by have:=AVw ts k;omega) (fun e he=>hin e (AHg ts k e he))
 have ho:o.length=N:=by have:=c1.len;omega
 have hi:∀ k:Nat,k<N→In (N:Int) (k:Int):=fun k hk=>AW6 h1 hN ⟨by omega,by omega⟩
 have hg:∀ k:Nat,o.getD k 0=cl o (k:Int):=fun k=>by unfold cl;rw[AkA]
 rw[RC,I5]
 simp only[N2 (N:Int) ts ht,e1]
 have e:=DZ (step:=C9) (fun i (a:List Int)=>((v:Int),(N:Int),ts,o,a,(i:Int),())) (List.range N) (fun(w:Nat) a=>.inl (if CK (trk ts k) (v:Int) (w:Int)=true then a++[(w:Int)]else a)) (fun a=>.inl (a,())) (fun i a=>a.length≤i) (by simp;omega)
  (fun i x a hx0 hx ha=>by
   refine⟨fun m' h' => ?_,fun r h'=>(by cases h')⟩
   cases h'
   have:=Dh hx
   subst this
   rw[Ajx]at hx0
   constructor
   ·rw[C9,AO,AjG hx0]
    simp only[Cc 0 (show x<o.length by omega),Cc 0 (show v<o.length by omega),Eg,Ar]
    rw[BY (by simp only[AL,AjP,Ajh];omega),AN (by omega)]
    have:decide (o.getD x 0=o.getD v 0)=CK (trk ts k) (v:Int) (x:Int):=by
     rw[AkW,Ajy,BC,hg,hg,c1.same _ _ (hi x hx0) (hi v hv)]
     exact⟨fun c=>c.symm,fun c=>c.symm⟩
    rw[this]
    cases CK (trk ts k) (v:Int) (x:Int)<;>simp[A2]
   ·split
    ·rw[AjQ];simp;omega
    ·omega)
  (fun a _=>by rw[C9,Ajx,AO,AjF (by omega)]) [] (AjR _)
 have e':AW C9 many ((v:Int),(N:Int),ts,o,[],(0:Int),())=_:=e
 simp only[e']
 rw[Bd (fun(w:Nat) (a:List Int)=>if CK (trk ts k) (v:Int) (w:Int)=true then a++[(w:Int)]else a),AKY (fun w:Nat=>CK (trk ts k) (v:Int) (w:Int)=true) (fun w:Nat=>(w:Int))]
 unfold LR
 simp
theorem UR(l:List Int)(x:Int)(hs:l.length<1073741824):Kd (l,x,())=some (decide (x∈l),()):=by
 rw[APX,Ym]
 have e:=HD (step:=IQ) (fun i=>(l,x,(i:Int),())) l (fun y=>decide (y=x)) (fun _=>.inl (true,())) (.inr (.inl ())) (by omega)
  (fun i y hi hy=>by
   rw[IQ,AL,AO,AjG hi]
   simp only[Ag hy,Ar]
   rw[AN (by omega)]
   by_cases h:y=x<;>simp[h])
  (by rw[IQ,AL,AO,AjF (by omega)])
 have e':AW IQ many (l,x,(0:Int),())=_:=e
 simp only[e']
 rw[ALJ]
 by_cases h:x∈l
 ·simp[h]
 ·simp[h]
theorem AO9(n:Int)(ts:List Tie)(v:Int):APA ((n,(ts,())),v,())=some (decide (0≤v∧v<n),()):=by
 rw[AW7,AJ7,Ax]
 by_cases h:0≤v
 ·rw[AjG h,Ai]
  by_cases h2:v<n
  ·rw[AjG h2,AjG (show 0≤v∧v<n from⟨h,h2⟩)]
  ·rw[AjF h2,AjF (fun q:0≤v∧v<n=>h2 q.2)]
 ·rw[AjF h,AjF (fun q:0≤v∧v<n=>h q.1)]
noncomputable def EC(N:Nat)(ts:List Tie)(u v k:Int):List Int:=
 if I3 (RG2 N ts)=true then
  if CK (trk ts k) u v=true then []else
  if csz N (trk ts k) u<csz N (trk ts k) v∨(csz N (trk ts k) u=csz N (trk ts k) v∧(LR N (trk ts k) u).headD 0<(LR N (trk ts k) v).headD 0)then LR N (trk ts k) u else LR N (trk ts k) v
 else []
theorem AYR(N:Nat)(ts:List Tie)(u v k:Int):(EC N ts u v k).length≤N:=by
 unfold EC
 have h1:=Yr N (trk ts k) u
 have h2:=Yr N (trk ts k) v
 split
 ·split
  ·simp
  ·split
   ·rw[NA];exact h1
   ·rw[NA];exact h2
 ·simp
theorem AGO{N:Nat}{l:List Edge}{v:Nat}(hv:v<N):idx (LR N l (v:Int)) (0:Int)=some ((LR N l (v:Int)).headD 0):=by
 have:(v:Int)∈LR N l (v:Int):=ABs.2 ⟨⟨by omega,by omega⟩,.refl _⟩
 cases hm:LR N l (v:Int)with
 |nil=>rw[hm]at this;cases this
 |cons a b=>rw[EK];rfl
theorem AR0{N:Nat}(hN:N≤64)(ts:List Tie)(ht:ts.length≤400)(u v:Nat)(hu:u<N)(hv:v<N)(k:Int):∃ e,Z9 (((N:Int),(ts,())),(u:Int),(v:Int),k,())=some (EC N ts u v k,e,()):=by
 rw[AFs,Qm]
 rcases AF3 (N:Int) ts (by omega)with⟨r,_⟩|⟨N',hn,h⟩
 ·have:I3 (RG2 N ts)=false:=by
   rw[← AmX,D1]
   intro h
   rw[h.r21]at r;cases r
  refine⟨1,?_⟩
  unfold EC
  rw[this]
  simp only[r,Ajw]
  rfl
 ·have:N'=N:=by omega
  subst this
  have hu1:=Jj h.h1 h.hN ts ht h.inE u hu k
  have hv1:=Jj h.h1 h.hN ts ht h.inE v hv k
  have l1:=NA N' (trk ts k) (u:Int)
  have l2:=NA N' (trk ts k) (v:Int)
  have b1:=Yr N' (trk ts k) (u:Int)
  have hh:=UR (LR N' (trk ts k) (u:Int)) (v:Int) (by omega)
  have hd:decide ((v:Int)∈LR N' (trk ts k) (u:Int))=CK (trk ts k) (u:Int) (v:Int):=by
   rw[AkW,Ajy,BC,ABs]
   exact⟨fun q=>q.2,fun q=>⟨⟨by omega,by omega⟩,q⟩⟩
  rw[hd]at hh
  unfold EC
  rw[(D1 _).2 h,AjV rfl]
  simp only[h.r21,AjT,AO9,hu1,hv1,hh]
  rw[AjG (show 0≤(u:Int)∧(u:Int)<(N':Int) by omega),AjG (show 0≤(v:Int)∧(v:Int)<(N':Int) by omega)]
  simp only[AjT]
  cases hc:CK (trk ts k) (u:Int) (v:Int)
  ·simp only[Aja,Ajb,AL,l1,l2,AO,AKB]
   by_cases q1:csz N' (trk ts k) (u:Int)<csz N' (trk ts k) (v:Int)
   ·rw[AjG q1,AjV (.inl q1)]
    exact⟨0,rfl⟩
   ·rw[AjF q1]
    by_cases q2:csz N' (trk ts k) (u:Int)=csz N' (trk ts k) (v:Int)
    ·rw[AjG q2]
     have hg:∀ l:List Int,AU l 0 0=l.headD 0:=fun l=>by cases l<;>rfl
     simp only[AGO hu,AGO hv,hg,Ai]
     by_cases q3:(LR N' (trk ts k) (u:Int)).headD 0<(LR N' (trk ts k) (v:Int)).headD 0
     ·rw[AjG q3,AjV (.inr ⟨q2,q3⟩)]
      exact⟨0,rfl⟩
     ·rw[AjF q3,AjS (fun q=>by rcases q with q|q;exact q1 q;exact q3 q.2)]
      exact⟨0,rfl⟩
    ·rw[AjF q2,AjS (fun q=>by rcases q with q|q;exact q1 q;exact q2 q.1)]
     exact⟨0,rfl⟩
  ·simp only[Ajs]
   exact⟨5,rfl⟩
end Go.Pev.Pl
end
section
namespace Go.Pev.Pl
open Tok
abbrev W23:=Int×Bool×Bool×Int×Int×Int×Int×Int×Int×Bool
theorem AVv{α:Type}{A R:List α}{x:α}{i:Nat}(h:A.length=i):(A++x::R)[i]? = some x:=by
 rw[Ajq (by omega),h,Akj];rfl
theorem YT{α:Type}{A R:List α}{x y:α}{i:Nat}(h:A.length=i):A4 (A++x::R) (AK (i:Int)) y=A++y::R:=by
 rw[ADA,List.set_append_right _ _ (by omega),h,Akj];rfl
noncomputable def Aq(s:List Int)(w:Int):Bool:=decide (w∈s)
def VY(S:Int→Bool)(i:Int)(ts:List Tie):Nat:=ts.countP fun t=>t.2.2.2.1&&(decide (t.2.2.1=i)&&both S t)
theorem AOT(w:W23)(wt wf:Bool)(bu bv top:Int)(i:Nat)(hi:i<64)(s:List Int)(hs:s.length≤64)(n:Int)(b:Bool)(O:List Tie)(hO:O.length≤400)(r:Nat)(hr:r<1073741824):
  AW Gn many (w.1,w.2.1,w.2.2.1,w.2.2.2.1,w.2.2.2.2.1,w.2.2.2.2.2.1,w.2.2.2.2.2.2.1,w.2.2.2.2.2.2.2.1,w.2.2.2.2.2.2.2.2.1,w.2.2.2.2.2.2.2.2.2,n,O,wt,wf,bu,bv,(r:Int),top,(i:Int),s,(0:Int),b,()) =
  some (.inl (w.1,w.2.1,w.2.2.1,w.2.2.2.1,w.2.2.2.2.1,w.2.2.2.2.2.1,w.2.2.2.2.2.2.1,w.2.2.2.2.2.2.2.1,w.2.2.2.2.2.2.2.2.1,w.2.2.2.2.2.2.2.2.2,n,O.map (rT (Aq s) top i),wt,wf,bu,bv,((r+VY (Aq s) i O:Nat):Int),top,(i:Int),s,b,())):=by
 obtain⟨w0,w1,w2,w3,w4,w5,w6,w7,w8,w9⟩:=w
 simp only
 have key:∀ (R A:List Tie) (j cnt q:Nat),A.length=j→A.length+R.length=O.length→R.length<cnt→q+R.length<2147483648 →
   AY Gn cnt (w0,w1,w2,w3,w4,w5,w6,w7,w8,w9,n,A++R,wt,wf,bu,bv,(q:Int),top,(i:Int),s,(j:Int),b,()) =
   some (.inl (w0,w1,w2,w3,w4,w5,w6,w7,w8,w9,n,A++R.map (rT (Aq s) top i),wt,wf,bu,bv,((q+VY (Aq s) i R:Nat):Int),top,(i:Int),s,b,())):=by
  intro R
  induction R with
  |nil=>
   intro A j cnt q hA hl hc hq
   obtain⟨cnt,rfl⟩:∃ c,cnt=c+1:=⟨cnt-1,by omega⟩
   rw[AY,Gn,AL,AO,AjF (by simp;omega)]
   simp[VY]
  |cons x R ih=>
   intro A j cnt q hA hl hc hq
   obtain⟨cnt,rfl⟩:∃ c,cnt=c+1:=⟨cnt-1,by omega⟩
   rw[AjP]at hl hc hq
   have hg:=AVv (R:=R) (x:=x) hA
   have next:∀ (y:Tie) (q':Nat),q'+R.length<2147483648→rT (Aq s) top i x=y→q'+VY (Aq s) i R=q+VY (Aq s) i (x::R) →
     AY Gn cnt (w0,w1,w2,w3,w4,w5,w6,w7,w8,w9,n,A++y::R,wt,wf,bu,bv,(q':Int),top,(i:Int),s,((j+1:Nat):Int),b,()) =
     some (.inl (w0,w1,w2,w3,w4,w5,w6,w7,w8,w9,n,A++(x::R).map (rT (Aq s) top i),wt,wf,bu,bv,((q+VY (Aq s) i (x::R):Nat):Int),top,(i:Int),s,b,())):=by
    intro y q' hq' hy hcnt
    have:=ih (A++[y]) (j+1) cnt q' (by simp[hA]) (by simp;omega) (by omega) hq'
    rw[AkF]at this
    rw[Ak3]at this
    rw[this,hcnt,Ajm,hy,AkF]
    rfl
   have hcc:VY (Aq s) i (x::R)=VY (Aq s) i R+if(x.2.2.2.1&&(decide (x.2.2.1=(i:Int))&&both (Aq s) x))=true then 1 else 0:=by
    unfold VY
    rw[Alh]
   rw[AY,Gn,AL,AO,AjG (by simp;omega)]
   simp only[Ag hg,VN hg]
   rw[AN (show j+1<9223372036854775808 by omega),AN (show q+1<9223372036854775808 by omega),Ar]
   simp only[UR s _ (show s.length<1073741824 by omega)]
   cases h4:x.2.2.2.1
   ·simp only[]
    refine next x q (by omega) ?_ ?_
    ·exact Gi h4
    ·rw[hcc,h4];simp
   ·by_cases h3:x.2.2.1=(i:Int)
    ·rw[AjG h3]
     simp only[]
     by_cases h1:x.1∈s
     ·rw[AjG h1]
      simp only[]
      by_cases h2:x.2.1∈s
      ·rw[AjG h2]
       simp only[]
       have hb:both (Aq s) x=true:=by unfold both Aq;rw[AjG h1,AjG h2];rfl
       rw[YT hA,AKA,AN (show i+1<9223372036854775808 by omega)]
       refine next _ (q+1) (by omega) ?_ ?_
       ·unfold rT
        rw[AjV ⟨h4,h3,hb⟩]
        unfold LD
        rw[h3,h4]
        rfl
       ·rw[hcc,h4,AjG h3,hb];simp;omega
      ·rw[AjF h2]
       simp only[]
       have hb:both (Aq s) x=false:=by unfold both Aq;rw[AjF h2,AmE]
       refine next x q (by omega) ?_ ?_
       ·unfold rT
        rw[AjS (fun hh=>by rw[hb]at hh;exact absurd hh.2.2 (by simp))]
       ·rw[hcc,hb];simp
     ·rw[AjF h1]
      simp only[]
      have hb:both (Aq s) x=false:=by unfold both Aq;rw[AjF h1,AlC]
      refine next x q (by omega) ?_ ?_
      ·unfold rT
       rw[AjS (fun hh=>by rw[hb]at hh;exact absurd hh.2.2 (by simp))]
      ·rw[hcc,hb];simp
    ·rw[AjF h3]
     simp only[]
     refine next x q (by omega) ?_ ?_
     ·unfold rT
      rw[AjS (fun hh=>h3 hh.2.1)]
     ·rw[hcc,AjF h3];simp
 have:=key O [] 0 many r rfl (by simp) (by simp only[many];omega) (by omega)
 rw[An]
 exact this
theorem AJW(w:W23)(wt wf:Bool)(bu bv top:Int)(i:Nat)(hi:i<64)(s:List Int)(hs:s.length≤64)(n:Int)(b:Bool)(O:List Tie)(hO:O.length≤400)(r:Nat)(hr:r<1073741824):
  AW Gm many (w.1,w.2.1,w.2.2.1,w.2.2.2.1,w.2.2.2.2.1,w.2.2.2.2.2.1,w.2.2.2.2.2.2.1,w.2.2.2.2.2.2.2.1,w.2.2.2.2.2.2.2.2.1,w.2.2.2.2.2.2.2.2.2,n,O,wt,wf,bu,bv,(r:Int),top,(i:Int),s,(0:Int),b,()) =
  some (match(BN (Aq s) top i O).2.2 with
   |some e=>.inl (n,(BN (Aq s) top i O).1,wt,true,e.1,e.2.1,((r+(BN (Aq s) top i O).2.1:Nat):Int),(0:Int),())
   |none=>.inr (.inl (w.1,w.2.1,w.2.2.1,w.2.2.2.1,w.2.2.2.2.1,w.2.2.2.2.2.1,w.2.2.2.2.2.2.1,w.2.2.2.2.2.2.2.1,w.2.2.2.2.2.2.2.2.1,w.2.2.2.2.2.2.2.2.2,n,(BN (Aq s) top i O).1,wt,wf,bu,bv,((r+(BN (Aq s) top i O).2.1:Nat):Int),top,(i:Int),b,()))):=by
 obtain⟨w0,w1,w2,w3,w4,w5,w6,w7,w8,w9⟩:=w
 simp only
 have key:∀ (R A:List Tie) (j cnt q:Nat),A.length=j→A.length+R.length=O.length→R.length<cnt→q+R.length<2147483648 →
   AY Gm cnt (w0,w1,w2,w3,w4,w5,w6,w7,w8,w9,n,A++R,wt,wf,bu,bv,(q:Int),top,(i:Int),s,(j:Int),b,()) =
   some (match(BN (Aq s) top i R).2.2 with
    |some e=>.inl (n,A++(BN (Aq s) top i R).1,wt,true,e.1,e.2.1,((q+(BN (Aq s) top i R).2.1:Nat):Int),(0:Int),())
    |none=>.inr (.inl (w0,w1,w2,w3,w4,w5,w6,w7,w8,w9,n,A++(BN (Aq s) top i R).1,wt,wf,bu,bv,((q+(BN (Aq s) top i R).2.1:Nat):Int),top,(i:Int),b,()))):=by
  intro R
  induction R with
  |nil=>
   intro A j cnt q hA hl hc hq
   obtain⟨cnt,rfl⟩:∃ c,cnt=c+1:=⟨cnt-1,by omega⟩
   rw[AY,Gm,AL,AO,AjF (by simp;omega)]
   rfl
  |cons x R ih=>
   intro A j cnt q hA hl hc hq
   obtain⟨cnt,rfl⟩:∃ c,cnt=c+1:=⟨cnt-1,by omega⟩
   rw[AjP]at hl hc hq
   have hg:=AVv (R:=R) (x:=x) hA
   have next:∀ (y:Tie) (q':Nat),q'+R.length<2147483648→BN (Aq s) top i (x::R)=(y::(BN (Aq s) top i R).1,(BN (Aq s) top i R).2.1+(q'-q),(BN (Aq s) top i R).2.2)→q≤q' →
     AY Gm cnt (w0,w1,w2,w3,w4,w5,w6,w7,w8,w9,n,A++y::R,wt,wf,bu,bv,(q':Int),top,(i:Int),s,((j+1:Nat):Int),b,()) =
     some (match(BN (Aq s) top i (x::R)).2.2 with
     |some e=>.inl (n,A++(BN (Aq s) top i (x::R)).1,wt,true,e.1,e.2.1,((q+(BN (Aq s) top i (x::R)).2.1:Nat):Int),(0:Int),())
     |none=>.inr (.inl (w0,w1,w2,w3,w4,w5,w6,w7,w8,w9,n,A++(BN (Aq s) top i (x::R)).1,wt,wf,bu,bv,((q+(BN (Aq s) top i (x::R)).2.1:Nat):Int),top,(i:Int),b,()))):=by
    intro y q' hq' hy hqq
    have:=ih (A++[y]) (j+1) cnt q' (by simp[hA]) (by simp;omega) (by omega) hq'
    rw[AkF,Ak3]at this
    rw[this,hy]
    have e1:A++[y]++(BN (Aq s) top i R).1=A++y::(BN (Aq s) top i R).1:=by simp
    have e2:q'+(BN (Aq s) top i R).2.1=q+((BN (Aq s) top i R).2.1+(q'-q)):=by omega
    rw[e1,e2]
   rw[AY,Gm,AL,AO,AjG (by simp;omega)]
   simp only[Ag hg,VN hg]
   rw[AN (show j+1<9223372036854775808 by omega),AN (show q+1<9223372036854775808 by omega),Ar]
   simp only[UR s _ (show s.length<1073741824 by omega)]
   have skip:(x.2.2.2.1=true∨x.2.2.1≠(i:Int))→BN (Aq s) top i (x::R)=(x::(BN (Aq s) top i R).1,(BN (Aq s) top i R).2.1+(q-q),(BN (Aq s) top i R).2.2):=fun h=>by
    rw[BN,AjV h,Akj];rfl
   cases h4:x.2.2.2.1
   ·simp only[]
    by_cases h3:x.2.2.1=(i:Int)
    ·rw[AjG h3]
     simp only[AjT]
     have hn:¬ (x.2.2.2.1=true∨x.2.2.1≠(i:Int)):=by rw[h4];simp[h3]
     have found:∀ (hne:EM (Aq s) x) (hnb:both (Aq s) x=false),BN (Aq s) top i (x::R)=(Dq x::R,0,some (ed x)):=fun hne hnb=>by
      rw[BN,AjS hn,AjS (by rw[hnb];simp),AjV hne]
     by_cases h1:x.1∈s
     ·rw[AjG h1]
      simp only[]
      by_cases h2:x.2.1∈s
      ·rw[AjG h2]
       simp only[]
       have hb:both (Aq s) x=true:=by unfold both Aq;rw[AjG h1,AjG h2];rfl
       rw[YT hA,AKA,AN (show i+1<9223372036854775808 by omega)]
       refine next _ (q+1) (by omega) ?_ (by omega)
       rw[BN,AjS hn,AjV hb]
       unfold LD
       rw[h3,h4,show q+1-q=1 by omega]
       rfl
      ·rw[AjF h2]
       simp only[]
       have hb:both (Aq s) x=false:=by unfold both Aq;rw[AjF h2,AmE]
       have hne:EM (Aq s) x:=by unfold EM Aq;rw[AjG h1,AjF h2];simp
       rw[YT hA,found hne hb]
       simp only[]
       unfold Dq ed
       rfl
     ·rw[AjF h1]
      simp only[]
      by_cases h2:x.2.1∈s
      ·rw[AjG h2]
       simp only[]
       have hb:both (Aq s) x=false:=by unfold both Aq;rw[AjF h1,AlC]
       have hne:EM (Aq s) x:=by unfold EM Aq;rw[AjF h1,AjG h2];simp
       rw[YT hA,found hne hb]
       simp only[]
       unfold Dq ed
       rfl
      ·rw[AjF h2]
       simp only[]
       refine next x q (by omega) ?_ (AjR _)
       have hb:both (Aq s) x=false:=by unfold both Aq;rw[AjF h1,AlC]
       have hne:¬ EM (Aq s) x:=by unfold EM Aq;rw[AjF h1,AjF h2];simp
       rw[BN,AjS hn,AjS (by rw[hb];simp),AjS hne,Akj]
       rfl
    ·rw[AjF h3]
     simp only[Ajw]
     exact next x q (by omega) (skip (.inr h3)) (AjR _)
   ·simp only[]
    exact next x q (by omega) (skip (.inl h4)) (AjR _)
 have:=key O [] 0 many r rfl (by simp) (by simp only[many];omega) (by omega)
 rw[An]
 exact this
end Go.Pev.Pl
end
section
namespace Go.Pev.Pl
open Tok
noncomputable def S8(N u v:Nat)(top:Int):Nat→List Tie→Nat→List Tie×Option Edge×Nat
 |0,O,r=>(O,none,r)
 |i+1,O,r=>match(BN (Aq (EC N O u v i)) top i (O.map (rT (Aq (EC N O u v i)) top i))).2.2 with
  |some e=>((BN (Aq (EC N O u v i)) top i (O.map (rT (Aq (EC N O u v i)) top i))).1,some e,r+VY (Aq (EC N O u v i)) i O+(BN (Aq (EC N O u v i)) top i (O.map (rT (Aq (EC N O u v i)) top i))).2.1)
  |none=>S8 N u v top i (BN (Aq (EC N O u v i)) top i (O.map (rT (Aq (EC N O u v i)) top i))).1 (r+VY (Aq (EC N O u v i)) i O+(BN (Aq (EC N O u v i)) top i (O.map (rT (Aq (EC N O u v i)) top i))).2.1)
theorem AY9(S:Int→Bool)(top i:Int):∀ ts:List Tie,(BN S top i ts).1.length=ts.length∧(BN S top i ts).2.1≤ts.length:=by
 intro ts
 induction ts with
 |nil=>exact⟨rfl,AjR _⟩
 |cons t ts ih=>
  rw[BN]
  split
  ·exact⟨by simp[ih.1],by have:=ih.2;simp;omega⟩
  ·split
   ·exact⟨by simp[ih.1],by have:=ih.2;simp;omega⟩
   ·split
    ·exact⟨by simp,by simp⟩
    ·exact⟨by simp[ih.1],by have:=ih.2;simp;omega⟩
theorem AhL(S:Int→Bool)(i:Int)(ts:List Tie):VY S i ts≤ts.length:=List.countP_le_length
theorem AJU{N:Nat}(hN:N≤64)(u v:Nat)(hu:u<N)(hv:v<N)(top w8:Int):
  ∀ (m:Nat) (O:List Tie) (r cnt:Nat),m≤64→O.length≤400→r+1000*m<1073741824→m<cnt →
  AY FA cnt ((0:Int),false,false,(0:Int),(0:Int),(0:Int),(u:Int),(v:Int),w8,true,(N:Int),O,true,false,(0:Int),(0:Int),(r:Int),top,(m:Int)-1,()) =
  some (match(S8 N u v top m O r).2.1 with
   |some e=>.inl ((N:Int),(S8 N u v top m O r).1,true,true,e.1,e.2.1,((S8 N u v top m O r).2.2:Int),(0:Int),())
   |none=>.inr (.inl ((0:Int),false,false,(0:Int),(0:Int),(0:Int),(N:Int),(S8 N u v top m O r).1,true,false,(0:Int),(0:Int),((S8 N u v top m O r).2.2:Int),()))):=by
 intro m
 induction m with
 |zero=>
  intro O r cnt hm hO hr hc
  obtain⟨cnt,rfl⟩:∃ c,cnt=c+1:=⟨cnt-1,by omega⟩
  rw[AY,FA,Ax,AjF (by omega)]
  rfl
 |succ m ih=>
  intro O r cnt hm hO hr hc
  obtain⟨cnt,rfl⟩:∃ c,cnt=c+1:=⟨cnt-1,by omega⟩
  have em:((m+1:Nat):Int)-1=(m:Int):=by omega
  obtain⟨e,hs⟩:=AR0 hN O hO u v hu hv (m:Int)
  have hsl:=AYR N O u v (m:Int)
  rw[em,AY,FA,Ax,AjG (show(0:Int)≤(m:Int) by omega)]
  simp only[hs]
  have ht:=AOT ((0:Int),false,false,(0:Int),(0:Int),(0:Int),(u:Int),(v:Int),w8,true) true false 0 0 top m (by omega) (EC N O u v m) (by omega) (N:Int) true O hO r (by omega)
  simp only at ht
  rw[S8]
  generalize hS:EC N O u v (m:Int)=s at *
  have hcl:=AhL (Aq s) (m:Int) O
  have hml:(O.map (rT (Aq s) top m)).length≤400:=by rw[AkM];exact hO
  have ho:=AJW ((0:Int),false,false,(0:Int),(0:Int),(0:Int),(u:Int),(v:Int),w8,true) true false 0 0 top m (by omega) s (by omega) (N:Int) true (O.map (rT (Aq s) top m)) hml (r+VY (Aq s) m O) (by omega)
  simp only at ho
  simp only[ht,ho]
  have hpl:=AY9 (Aq s) top m (O.map (rT (Aq s) top m))
  cases hp:(BN (Aq s) top m (O.map (rT (Aq s) top m))).2.2 with
  |some e=>rfl
  |none=>
   simp only[]
   rw[Ah (by omega)]
   exact ih _ _ cnt (by omega) (by omega) (by omega) (by omega)
def Ahb(tree:Bool)(f:Option Edge)(r:Nat):Bool×Bool×Edge×Int×Unit:=(tree,f.isSome,((f.getD (0,0,())).1,((f.getD (0,0,())).2.1,())),(r:Int),())
def Aha:Bool×Bool×Edge×Int×Unit:=(false,(false,(((0:Int),((0:Int),())),((0:Int),()))))
noncomputable def AGh(N:Nat)(ts:List Tie)(p:Nat)(t:Tie):List Tie×Option Edge×Nat:=
 if t.2.2.2.1=true then S8 N t.1.toNat t.2.1.toNat (CS N:Int) (t.2.2.1.toNat+1) (ts.take p++ts.drop (p+1)) 0 else(ts.take p++ts.drop (p+1),none,0)
theorem AZN{N:Nat}{ts:List Tie}(h:RG2 N ts)(u v:Int):
  (¬ ((0≤u∧u<(N:Int))∧(0≤v∧v<(N:Int)))∧ABo (((N:Int),(ts,())),u,v,())=some ((N:Int),ts,Aha,10,())) ∨
  (((0≤u∧u<(N:Int))∧(0≤v∧v<(N:Int)))∧ts.any (FY u v)=false∧ABo (((N:Int),(ts,())),u,v,())=some ((N:Int),ts,Aha,6,())) ∨
  (((0≤u∧u<(N:Int))∧(0≤v∧v<(N:Int)))∧ts.any (FY u v)=true∧∃ t,ts[ts.findIdx (FY u v)]? = some t ∧
   ABo (((N:Int),(ts,())),u,v,())=some ((N:Int),(AGh N ts (ts.findIdx (FY u v)) t).1,Ahb t.2.2.2.1 (AGh N ts (ts.findIdx (FY u v)) t).2.1 (AGh N ts (ts.findIdx (FY u v)) t).2.2,0,())):=by
 have ht:=h.ht
 have hN:=h.hN
 rw[AOd,Yi]
 simp only[h.r21,AjT,AO9]
 by_cases hu:0≤u∧u<(N:Int)
 ·rw[AjG hu]
  by_cases hv:0≤v∧v<(N:Int)
  ·right
   rw[AjG hv]
   simp only[AjT,ACo h]
   cases ha:ts.any (FY u v)
   ·left
    refine⟨⟨hu,hv⟩,rfl,?_⟩
    simp only[Aja,Ajb,Ai]
    rw[AjG (by omega)]
    rfl
   ·right
    have hk:ts.findIdx (FY u v)<ts.length:=Ak2.2 (AkS.1 ha)
    have hx:ts[ts.findIdx (FY u v)]? = some ts[ts.findIdx (FY u v)]:=AjM hk
    refine⟨⟨hu,hv⟩,rfl,_,hx,?_⟩
    have hm:ts[ts.findIdx (FY u v)]∈ts:=Akc hk
    generalize ts[ts.findIdx (FY u v)]=t at *
    generalize ts.findIdx (FY u v)=p at *
    obtain⟨i1,i2,hlt,l1,l2⟩:=h.tie hm
    obtain⟨a,ha'⟩:=AjO i1.2.2.1
    obtain⟨b,hb'⟩:=AjO i2.2.2.1
    obtain⟨lv,hlv⟩:=AjO l1
    have haN:a<N:=by have:=i1.2.2.2;omega
    have hbN:b<N:=by have:=i2.2.2.2;omega
    have hT:=E6 hN
    have hT64:=YX hN
    have s1:By ts (0:Int) (p:Int)=some (ts.take p):=Hu (by omega)
    have s2:By ts ((p+1:Nat):Int) (ts.length:Int)=some (ts.drop (p+1)):=Da (by omega)
    have hfit1:fits (AI ([]:List Tie)+AI (ts.take p))=true:=BY (by simp only[AL,Ajh,AjY];omega)
    have hfit2:fits (AI (ts.take p)+AI (ts.drop (p+1)))=true:=BY (by simp only[AL,AjY,Ajt];omega)
    have hd0:A2 ([]:List Tie) (ts.take p)=ts.take p:=by simp[A2]
    simp only[Ajs,Ai]
    rw[AjF (show ¬ (p:Int)<0 by omega)]
    simp only[Ag hx,s1,hfit1,hd0]
    rw[AN (by omega)]
    simp only[AL]at hfit2
    simp only[AL,s2,hfit2,N5 N hN,hT,Cj]
    unfold AGh
    cases h4:t.2.2.2.1
    ·obtain⟨m,hmany⟩:∃ m,many=m+1:=⟨many-1,by simp only[many]⟩
     have:AW FA many ((0:Int),false,false,(0:Int),(0:Int),(0:Int),t.1,t.2.1,t.2.2.1,false,(N:Int),ts.take p++ts.drop (p+1),false,false,(0:Int),(0:Int),(0:Int),(CS N:Int),t.2.2.1,()) =
       some (.inr (.inl ((0:Int),false,false,(0:Int),(0:Int),(0:Int),(N:Int),ts.take p++ts.drop (p+1),false,false,(0:Int),(0:Int),(0:Int),()))):=by
      rw[An,hmany,AY,FA]
      cases ile (0:Int) t.2.2.1<;>rfl
     simp only[this]
     rfl
    ·simp only[Ajs]
     have hlen:(ts.take p++ts.drop (p+1)).length≤400:=by rw[AjQ,AjY,Ajt];omega
     have hs:=AJU hN a b haN hbN (CS N:Int) t.2.2.1 (lv+1) (ts.take p++ts.drop (p+1)) 0 many (by omega) hlen (by omega) (by simp only[many];omega)
     rw[← ha',← hb',show((lv+1:Nat):Int)-1=t.2.2.1 by omega]at hs
     have e2:t.1.toNat=a:=by omega
     have e3:t.2.1.toNat=b:=by omega
     have e4:t.2.2.1.toNat+1=lv+1:=by omega
     rw[e2,e3,e4]
     rw[← An]at hs
     have hs':AW FA many ((0:Int),false,false,(0:Int),(0:Int),(0:Int),t.1,t.2.1,t.2.2.1,true,(N:Int),ts.take p++ts.drop (p+1),true,false,(0:Int),(0:Int),(0:Int),(CS N:Int),t.2.2.1,())=_:=hs
     simp only[hs']
     cases (S8 N a b (CS N:Int) (lv+1) (ts.take p++ts.drop (p+1)) 0).2.1 with
     |some e=>rfl
     |none=>rfl
  ·left
   rw[AjF hv]
   exact⟨fun q=>hv q.2,rfl⟩
 ·left
  rw[AjF hu]
  exact⟨fun q=>hu q.1,rfl⟩
end Go.Pev.Pl
end
section
namespace Go.Pev.Pl
open Tok
theorem AcZ{N:Nat}(h1:1≤N)(hN:N≤64){O:List Tie}(ht:O.length≤400)(hE:(O.map ed).Pairwise G5)(hlt:∀ e∈O.map ed,e.1<e.2.1)(hin:∀ x∈O,InE N (ed x))(hl:∀ x∈O,0≤x.2.2.1∧x.2.2.1≤(CS N:Int))(hfo:Fo N (trk O 0)):RG2 N O:=by
 have ho:oks N O:=by
  rw[Q6]
  refine⟨fun t ht => ?_,?_⟩
  ·have a:=hlt (ed t) (Ajc.2 ⟨t,ht,rfl⟩)
   obtain⟨⟨b1,b2⟩,c1,c2⟩:=hin t ht
   have d:=hl t ht
   rw[← E6 hN]at d
   exact⟨b1,a,c2,d.1,d.2⟩
  ·rw[Ake]at hE
   exact hE
 exact⟨h1,hN,ht,ho,by rw[AL2 ho];exact hfo⟩
theorem RG2.edP{N:Nat}{ts:List Tie}(h:RG2 N ts):(ts.map ed).Pairwise G5:=by
 rw[Ake]
 exact((Q6 N ts).1 h.oks).2
theorem RG2.AjB{N:Nat}{ts:List Tie}(h:RG2 N ts):∀ e∈ts.map ed,e.1<e.2.1:=by
 intro e he
 obtain⟨t,ht,rfl⟩:=Ajc.1 he
 exact(h.tie ht).2.2.1
theorem AIZ{N:Nat}{O:List Tie}(h:RG2 N O){u v i:Nat}(hu:u<N)(hv:v<N)(hn:¬ Con (trk O i) (u:Int) (v:Int)):∃ c,L3 N ((u:Int),((v:Int),())) i O (Aq (EC N O u v i)) c:=by
 unfold EC
 rw[(D1 _).2 h,AjV rfl,AjS (by rw[BC];exact hn)]
 have key:∀ c:Nat,c<N→∀ w:Nat,w<N→(Aq (LR N (trk O i) (c:Int)) (w:Int)=true↔Con (trk O i) (c:Int) (w:Int)):=by
  intro c hc w hw
  unfold Aq
  rw[Ajy,ABs]
  exact⟨fun q=>q.2,fun q=>⟨⟨by omega,by omega⟩,q⟩⟩
 split
 ·rename_i q
  exact⟨u,hu,.inl rfl,key u hu,by show 2*_≤csz N (trk O i) (u:Int)+csz N (trk O i) (v:Int);omega⟩
 ·rename_i q
  exact⟨v,hv,.inr rfl,key v hv,by show 2*_≤csz N (trk O i) (u:Int)+csz N (trk O i) (v:Int);omega⟩
end Go.Pev.Pl
end
section
namespace Go.Pev.Pl
open Tok
noncomputable def AOf(ts:List Tie)(k:Nat):Bool:=ts.any fun t => !t.2.2.2.1&&(decide (t.2.2.1=(k:Int)) && !CK (trk ts k) t.1 t.2.1)
theorem AMU{N:Nat}{ts:List Tie}(h:RG2 N ts)(s:Int)(k:Nat){o:List Int}(hc:MY (N:Int) (trk ts k) o):
  AW Dd many ((N:Int),ts,s,(k:Int),o,(0:Int),())=some (if AOf ts k then .inl (false,())else .inr (.inl ((N:Int),ts,s,(k:Int),()))):=by
 have ht:=h.ht
 have ho:o.length=N:=by have:=hc.len;omega
 have e:=HD (step:=Dd) (fun i=>((N:Int),ts,s,(k:Int),o,(i:Int),())) ts (fun t => !t.2.2.2.1&&(decide (t.2.2.1=(k:Int)) && !CK (trk ts k) t.1 t.2.1)) (fun _=>.inl (false,())) (.inr (.inl ((N:Int),ts,s,(k:Int),()))) (by omega)
  (fun i x hi hx=>by
   obtain⟨i1,i2,_,l1,l2⟩:=h.tie (AjW hx)
   rw[Dd,AL,AO,AjG hi]
   simp only[Ag hx,Ae3 ho (show InV N x.1 from⟨i1.2.2.1,i1.2.2.2⟩),Ae3 ho (show InV N x.2.1 from⟨i2.2.2.1,i2.2.2.2⟩)]
   have hd:∀ w:Int,AU o (AK w) 0=cl o w:=fun _=>rfl
   rw[AN (by omega),hd,hd,Ar,Ar]
   have:decide (cl o x.1=cl o x.2.1)=CK (trk ts k) x.1 x.2.1:=by
    rw[AkW,Ajy,BC]
    exact hc.same _ _ i1 i2
   rw[this]
   generalize CK (trk ts (k:Int)) x.1 x.2.1=c
   generalize decide (x.2.2.1=(k:Int))=d
   generalize x.2.2.2.1=f
   cases f<;>cases d<;>cases c<;>rfl)
  (by rw[Dd,AL,AO,AjF (by omega)])
 have e':AW Dd many ((N:Int),ts,s,(k:Int),o,(0:Int),())=_:=e
 rw[e']
 rfl
theorem AMV{N:Nat}{ts:List Tie}(h:RG2 N ts)(k:Nat):
  AW Dc many ((N:Int),ts,((N/2 ^ k:Nat):Int),(k:Int),(0:Int),())=some (if ALC N ts k then .inl (false,())else .inr (.inl ((N:Int),ts,((N/2 ^ k:Nat):Int),(k:Int),()))):=by
 have hN:=h.hN
 have e:=HD (step:=Dc) (fun i=>((N:Int),ts,((N/2 ^ k:Nat):Int),(k:Int),(i:Int),())) (List.range N) (fun v=>decide (max 1 (N/2 ^ k)<csz N (trk ts k) (v:Int))) (fun _=>.inl (false,())) (.inr (.inl ((N:Int),ts,((N/2 ^ k:Nat):Int),(k:Int),()))) (by simp;omega)
  (fun i x hi hx=>by
   have:=Dh hx
   subst this
   rw[Ajx]at hi
   have hle:=Yr N (trk ts k) (x:Int)
   have hdl:N/2 ^ k≤N:=Nat.div_le_self _ _
   rw[Dc,AO,AjG hi]
   simp only[Jj h.h1 h.hN ts h.ht h.inE x hi,AL,NA,AW8]
   rw[AN (by omega),Ai]
   have:decide (max (1:Int) ((N/2 ^ k:Nat):Int)<(csz N (trk ts k) (x:Int):Int))=decide (max 1 (N/2 ^ k)<csz N (trk ts k) (x:Int)):=Akb.2 (by omega)
   rw[this]
   cases decide (max 1 (N/2 ^ k)<csz N (trk ts k) (x:Int))<;>simp)
  (by rw[Dc,Ajx,AO,AjF (by omega)])
 have e':AW Dc many ((N:Int),ts,((N/2 ^ k:Nat):Int),(k:Int),(0:Int),())=_:=e
 rw[e']
 rfl
theorem Agc{N:Nat}{ts:List Tie}(h:RG2 N ts):((List.range (CS N+1)).any fun k=>AOf ts k)=ts.any (ATb ts):=by
 rw[AkW,AkS,AkS]
 constructor
 ·rintro⟨k,_,hk⟩
  unfold AOf at hk
  rw[AkS]at hk
  obtain⟨t,ht,q⟩:=hk
  simp only[AjJ,AjI]at q
  refine⟨t,ht,?_⟩
  unfold ATb
  rw[q.2.1,AjJ]
  exact⟨q.1,q.2.2⟩
 ·rintro⟨t,ht,q⟩
  unfold ATb at q
  rw[AjJ]at q
  obtain⟨_,_,_,l1,l2⟩:=h.tie ht
  obtain⟨k,hk⟩:=AjO l1
  have hT:=E6 h.hN
  refine⟨k,by rw[AkP];omega,?_⟩
  unfold AOf
  rw[AkS]
  refine⟨t,ht,?_⟩
  rw[hk]at q
  simp only[AjJ,AjI]
  exact⟨q.1,hk,q.2⟩
theorem Wg{N:Nat}{ts:List Tie}(h:RG2 N ts):K5 (((N:Int),(ts,())),())=some (I3 (XZ ts∧ALO ts∧R4 N ts),()):=by
 have ht:=h.ht
 have h1:=h.h1
 have hN:=h.hN
 have hT:=YX h.hN
 have hTe:=E6 h.hN
 obtain⟨o1,e1,c1⟩:=DS (N:Int) (ts.map ed) ⟨by omega,by omega⟩ (by rw[AkM];omega) h.inE
 obtain⟨o2,e2,c2⟩:=h.AXQ 0
 have l1:o1.length=N:=by have:=c1.len;omega
 have l2:o2.length=N:=by have:=c2.len;omega
 rw[PJ,KG]
 simp only[h.r21,AjT,APy (N:Int) ts h.ht h.r21,e1,N2 (N:Int) ts h.ht,e2]
 have f0:=HD (step:=EZ) (fun i=>((N:Int),ts,o1,o2,(i:Int),())) (List.range N) (fun k => !decide (o1.getD k 0=o2.getD k 0)) (fun _=>.inl (false,())) (.inr (.inl ((N:Int),ts,()))) (by simp;omega)
  (fun i x hi hx=>by
   have:=Dh hx
   subst this
   rw[Ajx]at hi
   rw[EZ,AO,AjG hi]
   simp only[Cc 0 (show x<o1.length by omega),Cc 0 (show x<o2.length by omega),Eg,Ar]
   rw[AN (by omega)]
   cases decide (o1.getD x 0=o2.getD x 0)<;>simp)
  (by rw[EZ,Ajx,AO,AjF (by omega)])
 have f0':AW EZ many ((N:Int),ts,o1,o2,(0:Int),())=_:=f0
 have hsame:(!(List.range N).any fun k => !decide (o1.getD k 0=o2.getD k 0))=I3 (XZ ts):=by
  refine Qy ?_
  have e0:(!(List.range N).any fun k => !decide (o1.getD k 0=o2.getD k 0))=true↔o1=o2:=by
   rw[AkN,Als]
   constructor
   ·intro hh
    refine HP 0 (by omega) fun k hk => ?_
    have:=hh k (by rw[AkP];omega)
    simpa using this
   ·rintro rfl k _
    simp
  rw[e0,Aay h1 hN c1 c2 h.inE (h.inK 0)]
  exact⟨fun q=>q.1,fun q=>⟨q,fun e he=>.edge e (AHg ts 0 e he)⟩⟩
 have f1:=HD (step:=EY) (fun i=>((N:Int),ts,((N/2 ^ i:Nat):Int),(i:Int),())) (List.range (CS N+1)) (fun k=>AOf ts k||ALC N ts k) (fun _=>.inl (false,())) (.inr (.inl ())) (by simp;omega)
  (fun i x hi hx=>by
   have:=Dh hx
   subst this
   rw[Ajx]at hi
   obtain⟨o,g1,g2⟩:=h.AXQ x
   have hdl:N/2 ^ x≤N:=Nat.div_le_self _ _
   rw[EY]
   simp only[N5 N h.hN,hTe]
   rw[ET,AjG (by omega)]
   simp only[N2 (N:Int) ts h.ht,g1,AMU h _ x g2]
   cases AOf ts x
   ·simp only[Aja,Ajb,AMV h x,Bool.false_or]
    cases ALC N ts x
    ·simp only[Aja,Ajb]
     rw[Ahf (by omega),AN (by omega)]
     simp only[]
     rw[Nat.pow_succ,Nat.div_div_eq_div_mul]
    ·rfl
   ·rfl)
  (by
   rw[EY,Ajx]
   simp only[N5 N h.hN,hTe]
   rw[ET,AjF (by omega)])
 have hz:((N/2 ^ 0:Nat):Int)=(N:Int):=by simp
 have f1':AW EY many ((N:Int),ts,((N/2 ^ 0:Nat):Int),(0:Int),())=_:=f1
 rw[hz]at f1'
 have hor:((List.range (CS N+1)).any fun k=>AOf ts k||ALC N ts k)=(ts.any (ATb ts)||(List.range (CS N+1)).any (ALC N ts)):=by
  rw[← Agc h]
  generalize List.range (CS N+1)=xs
  induction xs with
  |nil=>rfl
  |cons x xs ih=>simp only[AmP,ih];cases AOf ts x<;>cases ALC N ts x<;>simp
 have b1:=Agb ts
 have b2:=Ae8 hN ts
 rw[hor]at f1'
 simp only[f0']
 have fin:I3 (XZ ts∧ALO ts∧R4 N ts)=(I3 (XZ ts)&&(I3 (ALO ts)&&I3 (R4 N ts))):=by
  symm
  refine Qy ?_
  rw[AjJ,AjJ,D1,D1,D1]
 rw[fin,← hsame,← b1,← b2]
 cases (List.range N).any fun k => !decide (o1.getD k 0=o2.getD k 0)
 ·simp only[Aja,Ajb,f1']
  cases ts.any (ATb ts)<;>cases (List.range (CS N+1)).any (ALC N ts)<;>rfl
 ·rfl
end Go.Pev.Pl
end
section
namespace Go.Pev.Pl
section
variable {N top:Nat} {ts w:List Tie} (hp:w.Perm ts) (hi:∀ x∈ts,InE N (ed x)) (hl:∀ t∈ts,0≤t.2.2.1∧t.2.2.1≤(top:Int)) (hfo:Fo N (trk ts 0)) (hlie:∀ x∈ts,x.2.2.2.1=false→Con (trk ts x.2.2.1) x.1 x.2.1)
include hp hi
include hl hfo hlie
end
end Go.Pev.Pl
end
section
namespace Go.Pev.Pl
open Tok
end Go.Pev.Pl
end
section
namespace Go.Pev.Pl
open Tok
def bef(x y:Tie):Prop:=y.2.2.1<x.2.2.1∨(x.2.2.1=y.2.2.1∧ahead x y)
theorem bef.trans{x y z:Tie}(h:bef x y)(h':bef y z):bef x z:=by
 unfold bef ahead at *
 omega
def Mrg(u v w:List Tie):Prop:=w.Perm (u++v)∧w.Pairwise bef
end Go.Pev.Pl
end
section
namespace Go.Pev.Pl
open Tok
noncomputable section
end
theorem Mrg.append{u1 u2 v1 v2 w1 w2:List Tie}(h1:Mrg u1 v1 w1)(h2:Mrg u2 v2 w2)(hu:(u1++u2).Pairwise bef)(hv:(v1++v2).Pairwise bef)(c1:∀ x∈u1,∀ y∈v2,bef x y)(c2:∀ y∈v1,∀ x∈u2,bef y x):Mrg (u1++u2) (v1++v2) (w1++w2):=by
 rw[Al2]at hu hv
 refine⟨?_,?_⟩
 ·refine(h1.1.append h2.1).trans ?_
  rw[AkF,AkF]
  refine List.Perm.append_left _ ?_
  rw[← AkF,← AkF]
  exact List.Perm.append_right _ Aky
 ·rw[Al2]
  refine⟨h1.2,h2.2,fun x hx y hy => ?_⟩
  have hx:=AjL.1 (h1.1.mem_iff.1 hx)
  have hy:=AjL.1 (h2.1.mem_iff.1 hy)
  rcases hx with hx|hx<;>rcases hy with hy|hy
  ·exact hu.2.2 x hx y hy
  ·exact c1 x hx y hy
  ·exact c2 x hx y hy
  ·exact hv.2.2 x hx y hy
end Go.Pev.Pl
end
section
namespace Go.Pev.Pl
open Tok
end Go.Pev.Pl
end
section
namespace Go.Pev.Pl
open Tok
end Go.Pev.Pl
end
section
namespace Go.Pev.Pl
open Tok
def lvl(ts:List Tie)(k:Int):List Tie:=ts.filter fun t=>decide (t.2.2.1=k)
end Go.Pev.Pl
end
section
namespace Go.Pev.Pl
open Tok
section
variable (n:Int) (ts:List Tie)
end
end Go.Pev.Pl
end
section
namespace Go.Pev.Pl
open Tok
def mid(f:Int→Int)(xs:List Int)(i:Nat):List Int:=(xs.take i).map f++xs.drop i
def lb(at0:List Int)(v:Int):Int:=at0.getD v.toNat 0
end Go.Pev.Pl
end
section
namespace Go.Pev.Pl
open Tok
end Go.Pev.Pl
end
section
namespace Go.Pev.Pl
section
variable {α β:Type} [DecidableEq α]
theorem AB6(es:List (α×β))(k:α)(v:β)(j:α):AP (Ae es k v) j=if j=k then some v else AP es j:=by
 induction es with
 |nil=>
  simp only[Ae,AP]
  by_cases h:j=k
  ·rw[AjV h,AjV h.symm]
  ·rw[AjS h,AjS (Ajz h)]
 |cons e es ih=>
  obtain⟨a,x⟩:=e
  by_cases h1:a=k
  ·subst h1
   simp only[Ae,AP,Ajs]
   by_cases h:j=a
   ·rw[AjV h,AjV h.symm]
   ·rw[AjS h,AjS (Ajz h),AjS (Ajz h)]
  ·simp only[Ae,AP,h1,Ajb,ih]
   by_cases h:a=j
   ·subst h
    rw[AjV rfl,AjS h1,AjV rfl]
   ·rw[AjS h,AjS h]
theorem AGA:∀ (es:List (α×β)) (k:α),EF es k=none→∀ v,Ae es k v=es++[(k,v)]:=by
 intro es
 induction es with
 |nil=>intro k _ v;rfl
 |cons e es ih=>
  intro k h v
  obtain⟨a,b⟩:=e
  by_cases hk:a=k
  ·simp[EF,hk]at h
  ·simp only[EF,hk,Ajb,AmJ]at h
   simp only[Ae,hk,Ajb,ih k h v,Ajl]
theorem AF9:∀ (es:List (α×β)) (k:α) (n:Nat),EF es k=some n→∀ v,n<es.length∧Ae es k v=es.modify n fun e=>(e.1,v):=by
 intro es
 induction es with
 |nil=>intro k n h;simp[EF]at h
 |cons e es ih=>
  intro k n h v
  obtain⟨a,b⟩:=e
  by_cases hk:a=k
  ·simp only[EF,hk,Ajs,AjH]at h
   subst h
   simp[Ae,hk]
  ·simp only[EF,hk,Ajb,AjX]at h
   obtain⟨m,hm,rfl⟩:=h
   obtain⟨h1,h2⟩:=ih k m hm v
   simp only[Ae,hk,Ajb,AjP]
   exact⟨by omega,by rw[h2];rfl⟩
theorem ATk(es:List (α×β))(k:α)(z v:β):(ile (0:Int) (Q0 es k)&&ilt (Q0 es k) (AI (Ae es k z)))=true∧AOi (Ae es k z) (Q0 es k) v=Ae es k v:=by
 rw[Ax,Ai]
 unfold Q0 AOi
 cases h:EF es k with
 |none=>
  rw[AGA es k h,AGA es k h,Option.getD_none,AkA]
  constructor
  ·rw[AjG (by omega),AjG (by rw[AL,AjQ];simp;omega)];rfl
  ·have:∀ (xs:List (α×β)),(xs++[(k,z)]).modify xs.length (fun e=>(e.1,v))=xs++[(k,v)]:=by
    intro xs
    induction xs with
    |nil=>rfl
    |cons x xs ih=>rw[Ajl,AjP,List.modify_succ_cons,ih];rfl
   exact this es
 |some n=>
  obtain⟨h1,h2⟩:=AF9 es k n h z
  obtain⟨_,h3⟩:=AF9 es k n h v
  rw[h2,h3,Aju,AkA]
  constructor
  ·rw[AjG (by omega),AjG (by rw[AL,List.length_modify];omega)];rfl
  ·apply AlD
   intro i
   simp only[Al0]
   cases es[i]? with
   |none=>split<;>rfl
   |some e=>split<;>rfl
end
end Go.Pev.Pl
end
section
namespace Go.Pev.Pl
open Tok
end Go.Pev.Pl
end
section
namespace Go.Pev.Pl
open Tok
end Go.Pev.Pl
end
section
namespace Go.Pev.Pl
open Tok
end Go.Pev.Pl
end
section
namespace Go.Pev.Pl
open Tok
section
variable (n:Int) (a2 a3:Bool) (a4 a5 top:Int)
end
end Go.Pev.Pl
end
section
namespace Go.Pev.Pl
section
variable {α:Type} (z:α)
theorem ACb{a o:List α}{m k:Nat}(h:a.drop m=o.drop m)(hk:m≤k):a.getD k z=o.getD k z:=by
 have:=AkZ (fun l=>l.getD (k-m) z) h
 simp only[AjK,AkI]at this
 rw[Nat.add_sub_cancel' hk]at this
 simpa [AjK]using this
theorem MM{xs:List α}{i:Nat}(h:i<xs.length):xs.take (i+1)=xs.take i++[xs.getD i z]:=by
 rw[Akn h];simp[h]
theorem Aer{σ ρ:Type}{step:σ→Option (σ⊕ρ)}(st:List α→Nat→Nat→σ)(fin:List α→Nat→ρ)(keep:α→Bool)(o:List α)
  (h:∀ a w j,a.length=o.length→j<o.length→w<j→a.getD j z=o.getD j z→step (st a w j)=some (.inl (if keep (o.getD j z)=true then st (a.set w (o.getD j z)) (w+1) (j+1)else st a w (j+1))))
  (hN:∀ a w,a.length=o.length→step (st a w o.length)=some (.inr (fin a w))) :
  ∀ (k j w:Nat) (a:List α) (cnt:Nat),j+k=o.length→a.length=o.length→w=((o.take j).filter keep).length→a.take w=(o.take j).filter keep→w<j→a.drop j=o.drop j→k<cnt →
  ∃ a':List α,AY step cnt (st a w j)=some (fin a' (o.filter keep).length)∧a'.length=o.length∧a'.take (o.filter keep).length=o.filter keep:=by
 intro k
 induction k with
 |zero=>
  intro j w a cnt hk hl hw hq hwj hd hn
  obtain⟨cnt,rfl⟩:∃ k,cnt=k+1:=⟨cnt-1,by omega⟩
  have e:j=o.length:=by omega
  subst e
  rw[Akk]at hw hq
  rw[AY,hN a w hl]
  exact⟨a,by rw[hw],hl,by rw[← hw];exact hq⟩
 |succ k ih=>
  intro j w a cnt hk hl hw hq hwj hd hn
  obtain⟨cnt,rfl⟩:∃ k,cnt=k+1:=⟨cnt-1,by omega⟩
  have g1:=ACb z hd (AjR j)
  have hdd:a.drop (j+1)=o.drop (j+1):=by
   have:=AkZ (List.drop 1) hd
   simpa only[Ak9]using this
  have hst:(o.take (j+1)).filter keep=(o.take j).filter keep++if keep (o.getD j z)=true then [o.getD j z]else []:=by
   rw[MM z (by omega),Ak6]
   generalize o.getD j z=v
   by_cases h:keep v=true<;>simp[h]
  rw[AY,h a w j hl (by omega) hwj g1]
  by_cases hv:keep (o.getD j z)=true
  ·rw[AjV hv]at hst ⊢
   refine ih (j+1) (w+1) (a.set w (o.getD j z)) cnt (by omega) (by simp[hl]) (by rw[hst];simp[hw]) ?_ (by omega) ?_ (by omega)
   ·rw[hst,← hq,Akn (by simp;omega)]
    simp[List.take_set_of_le]
   ·rw[List.drop_set_of_lt (by omega)]
    exact hdd
  ·rw[AjS hv]at hst ⊢
   rw[AkV]at hst
   exact ih (j+1) w a cnt (by omega) hl (by rw[hst];exact hw) (by rw[hst];exact hq) (by omega) hdd (by omega)
theorem AGs{σ ρ σ' ρ':Type}{find:σ'→Option (σ'⊕ρ')}{step:σ→Option (σ⊕ρ)}(st:List α→Nat→Nat→σ)(fin:List α→Nat→ρ)(sf:Nat→σ')(fr:Nat→ρ')(fn:ρ')(keep:α→Bool)(o:List α)(hs:o.length<4294967296)
  (h:∀ a w j,a.length=o.length→j<o.length→w<j→a.getD j z=o.getD j z→step (st a w j)=some (.inl (if keep (o.getD j z)=true then st (a.set w (o.getD j z)) (w+1) (j+1)else st a w (j+1))))
  (hN:∀ a w,a.length=o.length→step (st a w o.length)=some (.inr (fin a w)))
  (f:∀ i,i<o.length→find (sf i)=if keep (o.getD i z)=true then some (.inl (sf (i+1)))else some (.inr (fr i))) (fN:find (sf o.length)=some (.inr fn)) :
  (o.filter keep=o∧AW find many (sf 0)=some fn) ∨
  (∃ k a',k<o.length∧AW find many (sf 0)=some (fr k)∧AW step many (st o k (k+1))=some (fin a' (o.filter keep).length)∧a'.length=o.length∧(o.filter keep).length≤o.length∧a'.take (o.filter keep).length=o.filter keep):=by
 have hm:4294967296<many:=by simp only[many];omega
 have hall:∀ n,(∀ j,j<n→j<o.length→keep (o.getD j z)=true)→(o.take n).filter keep=o.take n:=by
  intro n hj
  rw[Al6]
  intro x hx
  obtain⟨j,h1,rfl⟩:=AlP.1 hx
  have:=hj j (by omega) (by omega)
  simpa [show j<o.length by omega]using this
 rcases AMs (step:=find) sf o.length (fun i => !keep (o.getD i z)) fr fn (by omega) (fun i hi=>by rw[f i hi];cases keep (o.getD i z)<;>rfl) fN with⟨k,hk,hP,hF,e⟩|⟨hP,e⟩
 ·right
  have hkf:keep (o.getD k z)=false:=by
   cases hq:keep (o.getD k z)
   ·rfl
   ·rw[hq]at hP;cases hP
  have h1:(o.take k).filter keep=o.take k:=hall k fun j h1 _=>by
   have:=hF j h1
   cases hq:keep (o.getD j z)
   ·rw[hq]at this;cases this
   ·rfl
  have h2:(o.take (k+1)).filter keep=o.take k:=by
   rw[MM z hk,Ak6,h1,AkL,hkf]
   simp
  obtain⟨a',e2,e3,e4⟩:=Aer z st fin keep o h hN (o.length-(k+1)) (k+1) k o many (by omega) rfl (by rw[h2,AjY];omega) (by rw[h2]) (by omega) rfl (by omega)
  exact⟨k,a',hk,e,by rw[An];exact e2,e3,Akz _ _,e4⟩
 ·left
  refine⟨?_,e⟩
  have:=hall o.length fun j _ h2=>by
   have:=hP j h2
   cases hq:keep (o.getD j z)
   ·rw[hq]at this;cases this
   ·rfl
  rwa [Akk]at this
theorem ADX{a:List α}{w:Nat}(h:w≤a.length):(Bo w (a.length-w) z a).take w=a.take w∧(Bo w (a.length-w) z a).length=a.length:=by
 constructor
 ·rw[Bo,List.take_append_of_le_length (by simp;omega),AlV,Nat.min_self]
 ·simp[Bo];omega
end
end Go.Pev.Pl
end
section
namespace Go.Pev.Pl
open Tok
end Go.Pev.Pl
end
section
namespace Go.Pev.Pl
open Tok
end Go.Pev.Pl
end
section
namespace Go.Pev.Pl
open Tok
end Go.Pev.Pl
end
section
namespace Go.Pev.Pl
open Tok
theorem YP{n:Int}(l:List Edge)(hs:l.length<1073741824)(ha:∀ e∈l,In n e.1∧In n e.2.1):
  ∀ (m i c1 c2:Nat) (rings:List (List Int)) (t1 t2:List Bool),i+m=l.length→t1.length=i→t2.length=i→FC n rings (l.take i)→m<c1→m<c2 →
  ∃ zs b1 b2,AY IF c1 (l,n,rings,(0:Int),t1,(i:Int),())=some (.inl (n,zs,(0:Int),b1,()))∧AY B4 c2 (n,rings,(0:Int),t2,l,(l.length:Int),(i:Int),())=some (.inl (n,zs,(0:Int),b2,()))∧FC n zs l:=by
 intro m
 induction m with
 |zero=>
  intro i c1 c2 rings t1 t2 hi ht1 ht2 h hc1 hc2
  obtain⟨c1,rfl⟩:∃ c,c1=c+1:=⟨c1-1,by omega⟩
  obtain⟨c2,rfl⟩:∃ c,c2=c+1:=⟨c2-1,by omega⟩
  rw[AkE (by omega)]at h
  refine⟨rings,t1,t2,?_,?_,h⟩
  ·rw[AY,IF,AL,AO,AjF (by omega)]
  ·rw[AY,B4,AO,AjF (by omega)]
 |succ m ih=>
  intro i c1 c2 rings t1 t2 hi ht1 ht2 h hc1 hc2
  obtain⟨c1,rfl⟩:∃ c,c1=c+1:=⟨c1-1,by omega⟩
  obtain⟨c2,rfl⟩:∃ c,c2=c+1:=⟨c2-1,by omega⟩
  have hi':i<l.length:=by omega
  have hx:l[i]? = some l[i]:=AjM hi'
  obtain⟨iu,iv⟩:=ha _ (Akc hi')
  obtain⟨zs,q,e1,e2,_⟩:=AXZ h iu iv
  obtain⟨zs',q',f1,f2,_⟩:=AVa (n:=n) (rings:=rings) l[i].1 l[i].2.1 h.fr.dom
  rw[e1]at f1
  cases f1
  rw[← Akn hi']at e2
  obtain⟨zs2,b1,b2,g1,g2,g3⟩:=ih (i+1) c1 c2 zs (A2 t1 [ieq q 0]) (A2 t2 [ieq q 0]) (by omega) (by simp[Cj,ht1]) (by simp[Cj,ht2]) e2 (by omega) (by omega)
  refine⟨zs2,b1,b2,?_,?_,g3⟩
  ·rw[AY,IF,AL,AO,AjG hi']
   simp only[Ag hx,f2]
   rw[AN (by omega),BY (by simp only[AL,AjP,Ajh];omega)]
   exact g1
  ·rw[AY,B4,AO,AjG hi']
   simp only[Ag hx,e1]
   rw[AN (by omega),BY (by simp only[AL,AjP,Ajh];omega)]
   exact g2
theorem AhQ{N:Nat}(h1:1≤N)(hN:N≤64)(l:List Edge)(hs:l.length<1073741824)(ha:∀ e∈l,In (N:Int) e.1∧In (N:Int) e.2.1):
  ∃ zs,fof ((N:Int),l,())=some (((N:Int),(zs,())),0,())∧AiK ((N:Int),l,())=some (((N:Int),(zs,())),0,())∧FC (N:Int) zs l:=by
 have hF:=ADv h1 hN
 have hD:=hF.fr.dom
 have hRF:=L0.2 hF.fr
 obtain⟨zs,b1,b2,e1,e2,h2⟩:=YP l hs ha l.length 0 many many (BU N) [] [] (by omega) rfl rfl (by simpa using hF) (by simp only[many];omega) (by simp only[many];omega)
 refine⟨zs,?_,?_,h2⟩
 ·have hth:P6 (((N:Int),(BU N,())),l.flatMap fun e=>[e.1,e.2.1],())=some (0,()):=by
   have hfl:=APw l
   rw[ACd _ _ _ hD (by omega),APx,AQW,AjV hRF]
   split
   ·rfl
   ·rename_i hc
    exact absurd (Ajf.2 fun e he=>AjG (ha e he)) hc
  have hm:HL (N:Int)=((N:Int),BU N,0,()):=by
   unfold HL
   rw[AjV (show Sz (N:Int)from⟨by omega,by omega⟩),AkA]
  have e2':AY B4 many ((N:Int),BU N,(0:Int),[],l,(l.length:Int),(0:Int),())=_:=e2
  rw[AUo,APj]
  simp only[AFi,hm,Dj,AjT]
  rw[UX,NQ,NU,IU]
  simp only[AC4 l hs,hth,Dj,AjT,An,AL,e2']
 ·have hall:(l.all fun e=>decide (In (N:Int) e.1)&&decide (In (N:Int) e.2.1))=true:=by
   rw[Ajf]
   intro e he
   obtain⟨h1,h2⟩:=ha e he
   simp[h1,h2]
  have e1':AW IF many (l,(N:Int),BU N,(0:Int),[],(0:Int),())=_:=(An _ _ _).trans e1
  have hE:AQW (N:Int) (BU N) true=0:=by
   unfold AQW
   simp[hRF]
  have hL:AJx (((N:Int),(BU N,())),l,())=some (((N:Int),(zs,())),b1,0,()):=by
   rw[AUA,T9]
   simp only[AMJ (N:Int) (BU N) l hD (by omega),hall]
   rw[hE]
   simp only[OJ,AjT,e1']
  have hm:AJr ((N:Int),())=some ((N:Int),BU N,0,()):=by
   rw[ATx]
   unfold HL
   rw[AjV (show Sz (N:Int)from⟨by omega,by omega⟩),AkA]
  rw[Age,ATd]
  simp only[hm,OJ,AjT,hL]
theorem RG2.both{N:Nat}{ts:List Tie}(h:RG2 N ts)(k:Int):∃ zs,OG (((N:Int),(ts,())),k,())=some (((N:Int),(zs,())),0,())∧ACj (((N:Int),(ts,())),k,())=some (((N:Int),(zs,())),0,())∧FC (N:Int) zs (trk ts k):=by
 have hl:=h.AiS k
 obtain⟨zs,e1,e2,hF⟩:=AhQ h.h1 h.hN (trk ts k) (by omega) (h.inK k)
 refine⟨zs,?_,?_,hF⟩
 ·rw[Pp,KY]
  simp only[h.lr,AjT,AOt (N:Int) ts h.ht k,e1]
 ·rw[APh,P8]
  simp only[h.r21,AjT,N2 (N:Int) ts h.ht k,e2]
end Go.Pev.Pl
end
section
namespace Go.Pev.Pl
open Tok
section
variable (n:Int) (ts:List Tie)
end
end Go.Pev.Pl
end
section
namespace Go.Pev.Pl
open Tok
end Go.Pev.Pl
end
section
namespace Go.Pev.Pl
open Tok
theorem AEb{n:Int}{ts:List Tie}(ht:ts.length≤400):(∃ N:Nat,n=(N:Int)∧RG2 N ts∧Snd N (CS N:Int) ts∧K5 ((n,(ts,())),())=some (true,()))∨K5 ((n,(ts,())),())=some (false,()):=by
 rcases AF3 n ts (by omega)with⟨r1,_⟩|⟨N,rfl,h⟩
 ·right
  rw[PJ,KG]
  simp only[r1,Ajw]
 ·by_cases hp:XZ ts∧ALO ts∧R4 N ts
  ·exact .inl ⟨N,rfl,h,h.snd hp,by rw[Wg h,(D1 _).2 hp]⟩
  ·right
   have:I3 (XZ ts∧ALO ts∧R4 N ts)=false:=by rw[← AmX,D1];exact hp
   rw[Wg h,this]
end Go.Pev.Pl
end
section
namespace Go.Pev.Pl
open Tok
end Go.Pev.Pl
end
section
namespace Go.Pev.Pl
open Tok
theorem AZS(n:Int)(rings:List (List Int))(v:Int)(hD:Dom rings):AiL ((n,(rings,())),v,())=some (if RF n rings∧In n v then plc rings v else -1,()):=by
 rw[Agf,ATe]
 simp only[IH,Ep n rings hD.1 hD.2,Mu n rings v hD.1 (fun l hl=>(hD.2 l hl).1)]
 by_cases h1:In n v
 ·by_cases h2:RF n rings<;>simp[h1,h2]
 ·by_cases h2:RF n rings<;>simp[h1,h2]
section
variable (a0:Int) (a1:List Tie) (a2 a3 a4:Int) (a5:List (List Int)) (a6:Int) (a7:List (List Int)) (p q:List Edge)
end
end Go.Pev.Pl
end
section
namespace Go.Pev.Pl
open Tok
end Go.Pev.Pl
end
section
namespace Go.Pev.Pl
theorem Y0{α β:Type}:∀ m:List (α×β),List.zip (List.map Prod.fst m) (List.map Prod.snd m)=m
 |[]=>rfl
 |(a,b)::m=>by simp only[Ajm,All,Y0 m]
theorem KK{β:Type}(k:Int):∀ m:List (Int×List β),AU (m.map Prod.snd) (C3 (m.map Prod.fst) k) []=(AP m k).getD []
 |[]=>by simp[C3,AU,AP]
 |(a,b)::m=>by
  have ih:=KK k m
  simp only[Ajm,C3,AP]
  by_cases h:a=k
  ·simp[h,AU]
  ·simp only[h,Ajb]
   rw[← ih]
   simp[AU]
theorem AMz{β:Type}(k:Int)(v:β):∀ m:List (Int×β),List.zip (Lr (m.map Prod.fst) (C3 (m.map Prod.fst) k) k) (Lr (m.map Prod.snd) (C3 (m.map Prod.fst) k) v)=Ae m k v
 |[]=>by simp[C3,Lr,Ae]
 |(a,b)::m=>by
  have ih:=AMz k v m
  simp only[Ajm,C3,Ae]
  by_cases h:a=k
  ·simp[h,Lr,Y0]
  ·simp only[h,Ajb]
   rw[← ih]
   have q:∀ {α:Type} (x y:α) (xs:List α) (i:Nat),Lr (x::xs) (i+1) y=x::Lr xs i y:=by
    intro α x y xs i
    simp only[Lr,AjP,Nat.add_lt_add_iff_right,List.set_cons_succ,Ajl]
    split<;>rfl
   rw[q,q,All]
def Oe(k:Int)(t:Tie):Bool := !t.2.2.2.1&&decide (t.2.2.1=k)
def Bt(ts:List Tie)(k:Int):List Edge:=(ts.filter (Oe k)).map ed
def EI(x:Int)(e:Edge):Bool:=decide (e.1=x∨e.2.1=x)
abbrev RM:=List (Int×List (Int×Int×Unit))
def E5(m:RM)(x:Int):List (Int×Int×Unit):=(AP m x).getD []
def AQd(m:RM)(x:Int)(e:Edge):RM:=Ae m x (E5 m x++[e])
def AVf(m:RM)(e:Edge):RM:=AQd (AQd m e.1 e) e.2.1 e
theorem N8(m:RM)(x:Int)(e:Edge)(y:Int):E5 (AQd m x e) y=if y=x then E5 m x++[e]else E5 m y:=by
 unfold E5 AQd
 rw[D3]
 by_cases h:y=x<;>simp[h,E5]
theorem AYh(m:RM)(e:Edge)(h:e.1≠e.2.1)(y:Int):E5 (AVf m e) y=E5 m y++if EI y e=true then [e]else []:=by
 unfold AVf
 rw[N8,N8,N8]
 unfold EI
 by_cases h1:y=e.1
 ·subst h1
  rw[AjS h,AjV rfl,AjV (by simp)]
 ·by_cases h2:y=e.2.1
  ·subst h2
   rw[AjV rfl,AjS h1,AjV (by simp)]
  ·rw[AjS h2,AjS h1,AjS (by simp;omega),AkV]
theorem AAZ(m:RM)(x:Int)(e:Edge)(n:Nat)(h:∀ y,(E5 m y).length≤n):∀ y,(E5 (AQd m x e) y).length≤n+1:=by
 intro y
 rw[N8]
 have:=h x
 have:=h y
 split<;>simp<;>omega
def AOQ(k:Int)(m:RM)(t:Tie):RM:=if Oe k t=true then AVf m (ed t)else m
theorem AZG(k:Int)(y:Int):∀ (ts:List Tie) (m:RM),(∀ t∈ts,t.1<t.2.1)→E5 (ts.foldl (AOQ k) m) y=E5 m y++(Bt ts k).filter (EI y):=by
 intro ts
 induction ts with
 |nil=>intro m _;simp[Bt]
 |cons t ts ih=>
  intro m h
  rw[AkC,ih _ fun t ht=>h t (Ajj _ ht)]
  unfold AOQ Bt
  rw[AkL]
  by_cases hb:Oe k t=true
  ·rw[AjV hb,AjV hb,AYh _ _ (by have:=h t List.mem_cons_self;show t.1≠t.2.1;omega),Ajm,AkL]
   by_cases hy:EI y (ed t)=true
   ·rw[AjV hy,AjV hy];simp
   ·rw[AjS hy,AjS hy];simp
  ·rw[AjS hb,AjS hb]
theorem AcP(k n:Int)(tks:List Int)(ofm:List (Int×Int))(m:RM)(u v l:Int)(b:Bool)(ts:List Tie)(d i l' k':Int)(b':Bool)(c:Nat)(hc:∀ y,(E5 m y).length≤c)(hs:c<1073741824):
  AW GR many (k,n,tks,ofm,m,u,v,l,b,ts,d,i,l',k',b',([u,v]:List Int),(0:Int),())=some (.inl (k,n,tks,ofm,AVf m (u,(v,())),ts,d,i,l',k',b',())):=by
 obtain⟨q,hm⟩:∃ q,many=q+3:=⟨many-3,by simp only[many]⟩
 have i0:idx [u,v] (0:Int)=some u:=by rw[idx_eq];rfl
 have i1:idx [u,v] (1:Int)=some v:=by rw[idx_eq];rfl
 have w1:IntKind.wrap .i64 ((0:Int)+1)=1:=by rw[Ah (by omega)];rfl
 have w2:IntKind.wrap .i64 ((1:Int)+1)=2:=by rw[Ah (by omega)];rfl
 have c0:ilt (0:Int) 2=true:=by rw[Ai];rfl
 have c1:ilt (1:Int) 2=true:=by rw[Ai];rfl
 have c2:ilt (2:Int) 2=false:=by rw[Ai];rfl
 have d0:AU [u,v] 0 (0:Int)=u:=rfl
 have d1:AU [u,v] 1 (0:Int)=v:=rfl
 have fl:∀ (m:RM) (x:Int) (e:Edge),(E5 m x).length≤c+1→fits ((AI ((AP m x).getD []))+(AI ([e]:List Edge)))=true:=by
  intro m x e h
  apply BY
  simp only[AL,Alw]
  simp only[E5]at h
  omega
 have q0:=AAZ m u (u,(v,())) c hc
 have st:∀ (m:RM) (j x:Int),(E5 m x).length≤c+1→ilt j 2=true→idx [u,v] j=some x→GR (k,n,tks,ofm,m,u,v,l,b,ts,d,i,l',k',b',([u,v]:List Int),j,())=some (.inl (k,n,tks,ofm,AQd m x (u,(v,())),u,v,l,b,ts,d,i,l',k',b',([u,v]:List Int),IntKind.wrap .i64 (j+1),())):=by
  intro m j x h1 h2 h3
  simp only[GR,d0,d1,h2,h3,KK,AMz,Dj,Akx,Cj,fl m x (u,(v,())) h1]
  rfl
 have en:GR (k,n,tks,ofm,AVf m (u,(v,())),u,v,l,b,ts,d,i,l',k',b',([u,v]:List Int),(2:Int),())=some (.inr (.inl (k,n,tks,ofm,AVf m (u,(v,())),ts,d,i,l',k',b',()))):=by
  simp only[GR,c2,Y0]
 rw[An,hm,AY,st m 0 u (Nat.le_succ_of_le (hc u)) c0 i0,w1]
 show AY GR (q+2) _=_
 rw[AY,st _ 1 v (q0 v) c1 i1,w2]
 show AY GR (q+1) _=_
 rw[AY]
 have ea:AQd (AQd m u (u,(v,()))) v (u,(v,()))=AVf m (u,(v,())):=rfl
 rw[ea,en]
theorem AYT(k n:Int)(tks:List Int)(ofm:List (Int×Int))(ts:List Tie)(hs:ts.length≤400):
  AW Iy many (k,n,tks,ofm,([]:RM),ts,AI ts,(0:Int),())=some (.inl (n,tks,ofm,ts.foldl (AOQ k) [],())):=by
 have e:=DZ (step:=Iy) (fun i (m:RM)=>(k,n,tks,ofm,m,ts,AI ts,(i:Int),())) ts (fun t m=>.inl (AOQ k m t)) (fun m=>.inl (n,tks,ofm,m,())) (fun i m=>∀ y,(E5 m y).length≤2*i) (by omega)
  (fun i x m hi hx hm=>by
   refine⟨fun m' h' => ?_,fun r h'=>(by cases h')⟩
   cases h'
   constructor
   ·rw[Iy,AL,AO,AjG hi]
    simp only[Ag hx,AL,Y0]
    rw[AN (by omega)]
    unfold AOQ Oe
    cases h4:x.2.2.2.1
    ·simp only[Ar]
     by_cases h5:x.2.2.1=k
     ·rw[AjG h5]
      simp only[AjT,Ajw,AlL,Ajs]
      rw[AcP k n tks ofm m x.1 x.2.1 x.2.2.1 false ts _ _ _ _ _ (2*i) hm (by omega)]
      simp only[Y0]
      rw[AN (by omega)]
      rfl
     ·rw[AjF h5]
      simp
    ·simp
   ·unfold AOQ
    split
    ·intro y
     have:=AAZ _ x.2.1 (ed x) (2*i+1) (AAZ m x.1 (ed x) (2*i) hm) y
     exact this
    ·intro y
     have:=hm y
     omega)
  (fun m _=>by rw[Iy,AL,AO,AjF (by omega)];simp only[Y0]) [] (fun y=>by simp[E5,AP])
 have e':AW Iy many (k,n,tks,ofm,([]:RM),ts,AI ts,(0:Int),())=_:=e
 rw[e',Bd (fun(t:Tie) (m:RM)=>AOQ k m t)]
def ofF(m:List (Int×Int))(x:Int):List (Int×Int):=Ae m x 1
theorem Agd(y:Int):∀ (xs:List Int) (m:List (Int×Int)),(AP (xs.foldl ofF m) y).getD 0=if y∈xs then 1 else(AP m y).getD 0:=by
 intro xs
 induction xs with
 |nil=>intro m;simp
 |cons x xs ih=>
  intro m
  rw[AkC,ih]
  unfold ofF
  rw[D3]
  by_cases h:y∈xs
  ·simp[h]
  ·by_cases h2:y=x<;>simp[h,h2]
theorem AYS(k n:Int)(ts:List Tie)(n':Int)(tks:List Int)(hs:tks.length≤1000):
  AW Iz many (k,n,ts,n',tks,([]:List (Int×Int)),([]:RM),tks,AI tks,(0:Int),())=some (.inl (k,n,ts,n',tks,tks.foldl ofF [],([]:RM),())):=by
 have e:=DZ (step:=Iz) (fun i (m:List (Int×Int))=>(k,n,ts,n',tks,m,([]:RM),tks,AI tks,(i:Int),())) tks (fun x m=>.inl (ofF m x)) (fun m=>.inl (k,n,ts,n',tks,m,([]:RM),())) (fun _ _=>True) (by omega)
  (fun i x m hi hx hm=>by
   refine⟨fun m' h' => ?_,fun r h'=>(by cases h')⟩
   cases h'
   refine⟨?_,trivial⟩
   rw[Iz,AL,AO,AjG hi]
   simp only[Ag hx,AL,AlJ,List.zip_nil_left]
   rw[AN (by omega)]
   rfl)
  (fun m _=>by rw[Iz,AL,AO,AjF (by omega)];rfl) [] trivial
 have e':AW Iz many (k,n,ts,n',tks,([]:List (Int×Int)),([]:RM),tks,AI tks,(0:Int),())=_:=e
 rw[e',Bd (fun(x:Int) (m:List (Int×Int))=>ofF m x)]
structure TR(N:Nat)(ts:List Tie)(v k:Int)(tks:List Int)(ofm:List (Int×Int))(outm:RM):Prop where
 rg:RG (N:Int) tks
 mem:v∈tks
 of:∀ x,(AP ofm x).getD 0=if x∈tks then 1 else 0
 row:∀ x,E5 outm x=(Bt ts k).filter (EI x)
 con:∀ u,In (N:Int) u→(u∈tks↔Con (trk ts k) v u)
theorem AcO{N:Nat}{ts:List Tie}(h:RG2 N ts)(v k:Int)(hv:0≤v∧v<(N:Int)):
  ∃ tks ofm outm,seen (((N:Int),(ts,())),v,k,())=some (.inr (.inl ((N:Int),tks,ofm,outm,0,())))∧Abg (((N:Int),(ts,())),v,k,())=some (tks,())∧TR N ts v k tks ofm outm:=by
 obtain⟨zs,e1,e2,hF⟩:=h.both k
 have iv:In (N:Int) v:=AW6 h.h1 h.hN hv
 have hD:=hF.fr.dom
 have hRF:=(L0.2 hF.fr)
 obtain⟨i,A,hp,hi,hvA,hil⟩:=Mt (hF.fr.cov v iv)
 have hA:A∈zs:=AjW hi
 have hrg:=hF.fr.rg A hA
 have hlen:A.length≤1000:=hrg.1.1
 refine⟨A,A.foldl ofF [],ts.foldl (AOQ k) [],?_,?_,hrg,hvA,?_,?_,?_⟩
 ·rw[AWL,AId]
  simp only[e1,Dj,AjT]
  rw[Ai,AjF (show ¬ v<0 by omega),Ax,AjF (show ¬ (N:Int)≤v by omega)]
  simp only[Afc _ _ _ hD,AjV (show RF (N:Int) zs∧In (N:Int) v from⟨hRF,iv⟩),hp,Ag hi,List.zip_nil_left,AlJ]
  rw[AYS k (N:Int) ts (N:Int) A hlen]
  simp only[AlJ,List.zip_nil_left]
  rw[AYT k (N:Int) A _ ts h.ht]
  simp only[Y0]
 ·rw[AX1,Zf]
  simp only[e2,AZS _ _ _ hD,AjV (show RF (N:Int) zs∧In (N:Int) v from⟨hRF,iv⟩),hp,Ag hi]
  rw[Ai,AjF (by omega)]
 ·intro x
  rw[Agd]
  rfl
 ·intro x
  rw[AZG k x ts [] fun t ht=>(h.tie ht).2.2.1]
  simp[E5,AP]
 ·intro u iu
  rw[← hF.sam v u iv iu]
  constructor
  ·exact fun hu=>⟨A,hA,hvA,hu⟩
  ·rintro⟨B,hB,hvB,huB⟩
   obtain⟨j,hj⟩:=Al3 hB
   have:=hF.fr.uniq hi hj iv.2.2.2 hvA hvB
   subst this
   rw[hi]at hj
   cases hj
   exact huB
end Go.Pev.Pl
end
