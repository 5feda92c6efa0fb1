/- A part of the proofs of this seat: DKC T19a DKD T22a T21a T23a T23b T24a PlnC DKE DKF DKG DKH DU24a DU24b DU24c DU24d DU23a DU23b DU23c DU23d DU23e T24b DU24f DU24g DU24h DU24i DU24j DU24k DU24l DU24m DU24n PlnD DU21a DU21b DU23f DU23g PlnE DU23h DU23i DU21c DU21d DU21e DU23j DU23k DU24e DU21f DU23l U29a U29b U29c U29d U29e U29g U29h U29i. -/
import Derived.Test.YtfojmhgomdbpfaaGreatDoorPb44abf4510
import Derived.KernelRfl
import Derived.IntWalk
set_option linter.unusedVariables false
set_option linter.unusedSimpArgs false
set_option linter.unusedSectionVars false
set_option maxRecDepth 100000
section
section
namespace Go.Pev.Pl.SG
open Go.Sort
variable {α:Type} {S:SP α}
theorem ARs(hi first:Nat):∀ (k root:Nat) (d:Array (EL S)) (n:Nat),hi-root=k→root≤hi→first+hi≤d.size→d.size<4294967296→(hi=0∨root<hi)→k<n →
  AX (KL S.z S.c) n ((rep d),(hi:Int),(first:Int),(root:Int),())=some (.inl ((rep (siftDown ltX hi first root d)),())) ∨
  AX (KL S.z S.c) n ((rep d),(hi:Int),(first:Int),(root:Int),())=some (.inr (.inl ((rep (siftDown ltX hi first root d)),()))):=by
 intro k
 induction k using Nat.strongRecOn with
 |_ k ih=>
 intro root d n hk hr hf hs hz hn
 obtain⟨n,rfl⟩:∃ k,n=k+1:=⟨n-1,by omega⟩
 rw[siftDown]
 simp (disch:=omega) only[AX,KL,AF9,AM,wrap_add,DA,AL]
 by_cases h1:hi≤2*root+1
 ·simp only[h1,AjV,ge_iff_le,dite_true,true_or]
 ·have i0:first+root<d.size:=by omega
  have i1:first+(2*root+1)<d.size:=by omega
  simp only[h1,Ajj,ge_iff_le,Ajc,dite_false]
  simp (disch:=omega) only[A7,Ba,Ca,DQ]
  by_cases h2:2*root+1+1<hi
  ·have i2:first+(2*root+2)<d.size:=by omega
   have i3:2*root+1+1=2*root+2:=by omega
   have i4:first+(2*root+1)+1=first+(2*root+2):=by omega
   have h3:2*root+2<hi:=by omega
   simp only[i3,i4,h3,AjV]
   simp (disch:=omega) only[A7,Ba,Ca,DQ,JN]
   cases h4:ltX d[first+(2*root+1)]! d[first+(2*root+2)]!
   ·simp only[Bool.and_false,Ajf,Ajc]
    cases h5:ltX d[first+root]! d[first+(2*root+1)]!
    ·simp
    ·simp only[AjT,Ajf,Ajc]
     rw[A7 (by simpa using i1)]
     simp only[KI]
     exact ih (hi-(2*root+1)) (by omega) (2*root+1) _ n rfl (by omega) (by rw[size_swp];omega) (by rw[size_swp];omega) (by omega) (by omega)
   ·simp only[Bool.and_true,Ajw]
    cases h5:ltX d[first+root]! d[first+(2*root+2)]!
    ·simp
    ·simp only[AjT,Ajf,Ajc,dite_true]
     rw[A7 (by simpa using i2)]
     simp only[KI]
     exact ih (hi-(2*root+2)) (by omega) (2*root+2) _ n rfl (by omega) (by rw[size_swp];omega) (by rw[size_swp];omega) (by omega) (by omega)
  ·simp only[h2,Ajj,Alj,Ajf,Ajc,JN]
   cases h5:ltX d[first+root]! d[first+(2*root+1)]!
   ·simp
   ·simp only[AjT,Ajf,Ajc]
    rw[A7 (by simpa using i1)]
    simp only[KI]
    exact ih (hi-(2*root+1)) (by omega) (2*root+1) _ n rfl (by omega) (by rw[size_swp];omega) (by rw[size_swp];omega) (by omega) (by omega)
theorem AGX(d:Array (EL S))(root hi first:Nat)(hf:first+hi≤d.size)(hs:d.size<4294967296)(hz:hi=0∧root=0∨root<hi):(AGY S.z S.c) ((rep d),(root:Int),(hi:Int),(first:Int),())=some ((rep (siftDown ltX hi first root d)),()):=by
 have hm:d.size<many:=by simp only[many];omega
 rw[Ab7,RB]
 simp only[Au]
 rcases ARs hi first (hi-root) root d many rfl (by omega) hf hs (by omega) (by omega)with h|h<;>rw[h]
theorem EC(lt:(EL S)→(EL S)→Bool)(hi first:Nat):∀ (k root:Nat) (d:Array (EL S)),hi-root=k→(siftDown lt hi first root d).size=d.size:=by
 intro k
 induction k using Nat.strongRecOn with
 |_ k ih=>
 intro root d hk
 rw[siftDown]
 split
 ·rfl
 ·split
  ·split
   ·rfl
   ·split
    ·rw[ih (hi-(2*root+2)) (by omega) _ _ rfl,size_swp]
    ·rfl
  ·split
   ·rfl
   ·rw[ih (hi-(2*root+1)) (by omega) _ _ rfl,size_swp]
theorem APH(hi first:Nat):∀ (k:Nat) (d:Array (EL S)) (n:Nat),(hi=0∧k≤1∨k≤hi)→first+hi≤d.size→d.size<4294967296→k<n →
  AX (Kc S.z S.c) n ((rep d),(first:Int),(0:Int),(hi:Int),(k:Int)-1,())=some (.inl ((rep (heapBuild ltX hi first k d)),(first:Int),(0:Int),(hi:Int),())):=by
 intro k
 induction k with
 |zero=>
  intro d n hk hf hs hn
  obtain⟨n,rfl⟩:∃ k,n=k+1:=⟨n-1,by omega⟩
  rw[AX,Kc,Ar,AjF (by omega)]
  rfl
 |succ k ih=>
  intro d n hk hf hs hn
  obtain⟨n,rfl⟩:∃ k,n=k+1:=⟨n-1,by omega⟩
  have e0:((k+1:Nat):Int)-1=(k:Int):=by omega
  rw[AX,Kc,e0,Ar,AjG (by omega)]
  simp only[AGX d k hi first hf hs (by omega)]
  rw[Ai (by omega)]
  exact ih _ n (by omega) (by rw[EC _ _ _ _ _ _ rfl];omega) (by rw[EC _ _ _ _ _ _ rfl];omega) (by omega)
theorem Ms(lt:(EL S)→(EL S)→Bool)(hi first:Nat):∀ (k:Nat) (d:Array (EL S)),(heapBuild lt hi first k d).size=d.size:=by
 intro k
 induction k with
 |zero=>intro d;rfl
 |succ k ih=>intro d;rw[heapBuild,ih,EC _ _ _ _ _ _ rfl]
theorem AZ7(first:Nat):∀ (k:Nat) (d:Array (EL S)) (n:Nat),first+k≤d.size→d.size<4294967296→k<n →
  AX (Kb S.z S.c) n ((rep d),(first:Int),(0:Int),(k:Int)-1,())=some (.inl ((rep (heapPop ltX first k d)),())):=by
 intro k
 induction k with
 |zero=>
  intro d n hf hs hn
  obtain⟨n,rfl⟩:∃ k,n=k+1:=⟨n-1,by omega⟩
  rw[AX,Kb,Ar,AjF (by omega)]
  rfl
 |succ k ih=>
  intro d n hf hs hn
  obtain⟨n,rfl⟩:∃ k,n=k+1:=⟨n-1,by omega⟩
  have e0:((k+1:Nat):Int)-1=(k:Int):=by omega
  have i0:first<d.size:=by omega
  have i1:first+k<d.size:=by omega
  rw[AX,Kb,e0,Ar,AjG (by omega)]
  simp (disch:=omega) only[wrap_add,A7,Ba,JN]
  rw[A7 (by simpa using i1)]
  simp only[KI]
  have:=AGX (swp d first (first+k)) 0 k first (by rw[size_swp];omega) (by rw[size_swp];omega) (by omega)
  simp only[Int.natCast_zero]at this
  simp only[this]
  rw[Ai (by omega)]
  exact ih _ n (by rw[EC _ _ _ _ _ _ rfl,size_swp];omega) (by rw[EC _ _ _ _ _ _ rfl,size_swp];omega) (by omega)
theorem AZ6(d:Array (EL S))(a b:Nat)(hab:a<b)(hb:b≤d.size)(hs:d.size<4294967296):(API S.z S.c) ((rep d),(a:Int),(b:Int),())=some ((rep (heapSort ltX d a b)),()):=by
 have hm:4294967296<many:=by simp only[many];omega
 rw[AeA,R6]
 simp (disch:=omega) only[DV,BG,Aip,Au]
 have e:(((b-a-1)/2:Nat):Int)=(((b-a-1)/2+1:Nat):Int)-1:=by omega
 rw[e,APH (b-a) a _ d many (by omega) (by omega) hs (by omega)]
 have e2:(((b-a-1:Nat)):Int)=((b-a:Nat):Int)-1:=by omega
 simp (disch:=omega) only[BG,e2]
 rw[AZ7 a (b-a) _ many (by rw[Ms];omega) (by rw[Ms];omega) (by omega)]
 rfl
end Go.Pev.Pl.SG
end
section
namespace Go.Pev.Pl.SG
open Go.Sort
variable {α:Type} {S:SP α}
theorem AYg:∀ (k i j:Nat) (d:Array (EL S)) (n:Nat),j-i=k→(j<d.size)→d.size<4294967296→k<n →
  AX (RV S.z S.c) n ((rep d),(i:Int),(j:Int),())=some (.inl ((rep (reverseLoop i j d)),())):=by
 intro k
 induction k using Nat.strongRecOn with
 |_ k ih=>
 intro i j d n hk hj hs hn
 obtain⟨n,rfl⟩:∃ k,n=k+1:=⟨n-1,by omega⟩
 rw[reverseLoop,AX,RV]
 simp only[AL]
 by_cases h:i<j
 ·have hi:i<d.size:=by omega
  simp only[h,AjV,Ajw,A7 hj,A7 hi,Ba hi,Ba hj,JN]
  rw[A7 (by simpa using hj)]
  simp (disch:=omega) only[KI,AM,BG]
  exact ih (j-1-(i+1)) (by omega) (i+1) (j-1) _ n rfl (by rw[size_swp];omega) (by rw[size_swp];omega) (by omega)
 ·simp only[h,Ajj,Ajc]
theorem AcT(d:Array (EL S))(a b:Nat)(hab:a<b)(hb:b≤d.size)(hs:d.size<4294967296):(AcU S.z S.c) ((rep d),(a:Int),(b:Int),())=some ((rep (reverseRange d a b)),()):=by
 have hm:4294967296<many:=by simp only[many];omega
 rw[Af5,AA0]
 simp (disch:=omega) only[BG,Au]
 rw[AYg (b-1-a) a (b-1) d many rfl (by omega) hs (by omega)]
 rfl
theorem D4{d:Array (EL S)}{i j:Nat}(hi:i<d.size)(hj:j<d.size):idx (BB (rep d) (AN (i:Int)) (AY (rep d) (AN (j:Int)) S.z)) (j:Int)=some ((d.setIfInBounds i d[j]!)[j]!).val ∧
  BB (BB (rep d) (AN (i:Int)) (AY (rep d) (AN (j:Int)) S.z)) (AN (j:Int)) (AY (rep d) (AN (i:Int)) S.z)=(rep (swp d i j)):=by
 rw[Ba hi,Ba hj,JN,JN]
 exact⟨A7 (by simpa using hj),rfl⟩
theorem AJE(step:List α×Int×Int×Int×Unit→Option ((List α×Int×Int×Int×Unit)⊕(List α×Int×Int×Int×Unit)⊕Unit))(p:(EL S)→Bool)(d:Array (EL S))(a j:Nat)(hs:d.size<4294967296)(hj:j<d.size)
  (h:∀ i:Nat,i≤d.size→step ((rep d),(a:Int),(i:Int),(j:Int),())=if i≤j∧p d[i]! then some (.inl ((rep d),(a:Int),((i+1:Nat):Int),(j:Int),()))else some (.inr (.inl ((rep d),(a:Int),(i:Int),(j:Int),())))) :
  ∀ (k i n:Nat),j+1-i=k→i≤d.size→k<n→AX step n ((rep d),(a:Int),(i:Int),(j:Int),())=some (.inl ((rep d),(a:Int),((scanUp p d j i:Nat):Int),(j:Int),())):=by
 intro k
 induction k using Nat.strongRecOn with
 |_ k ih=>
 intro i n hk hi hn
 obtain⟨n,rfl⟩:∃ k,n=k+1:=⟨n-1,by omega⟩
 rw[scanUp,AX,h i hi]
 by_cases h1:i≤j∧p d[i]! = true
 ·rw[AjP h1,AjP (by simpa using h1)]
  exact ih (j+1-(i+1)) (by omega) (i+1) n rfl (by omega) (by omega)
 ·rw[AjQ h1,AjQ (by simpa using h1)]
theorem Tf(step:List α×Int×Int×Int×Unit→Option ((List α×Int×Int×Int×Unit)⊕(List α×Int×Int×Int×Unit)⊕Unit))(p:(EL S)→Bool)(d:Array (EL S))(a i:Nat)(hi:1≤i)
  (h:∀ j:Nat,j<d.size→step ((rep d),(a:Int),(i:Int),(j:Int),())=if i≤j∧p d[j]! then some (.inl ((rep d),(a:Int),(i:Int),((j-1:Nat):Int),()))else some (.inr (.inl ((rep d),(a:Int),(i:Int),(j:Int),())))) :
  ∀ (j n:Nat),j<d.size→j<n→AX step n ((rep d),(a:Int),(i:Int),(j:Int),())=some (.inl ((rep d),(a:Int),(i:Int),((scanDown p d i j:Nat):Int),())):=by
 intro j
 induction j with
 |zero=>
  intro n hj hn
  obtain⟨n,rfl⟩:∃ k,n=k+1:=⟨n-1,by omega⟩
  rw[AX,h 0 hj,AjQ (by omega)]
  rfl
 |succ j ih=>
  intro n hj hn
  obtain⟨n,rfl⟩:∃ k,n=k+1:=⟨n-1,by omega⟩
  rw[scanDown,AX,h (j+1) hj]
  by_cases h1:i≤j+1∧p d[j+1]! = true
  ·rw[AjP h1,AjP (by simpa using h1)]
   exact ih n (by omega) (by omega)
  ·rw[AjQ h1,AjQ (by simpa using h1)]
section
variable (d:Array (EL S)) (a i j:Nat) (hs:d.size<4294967296) (ha:a<d.size) (hj:j<d.size)
include hs ha hj
theorem AOC(hi:i≤d.size):(NI S.z S.c) ((rep d),(a:Int),(i:Int),(j:Int),())=if i≤j∧(fun x=>ltX x d[a]!) d[i]! = true then some (.inl ((rep d),(a:Int),((i+1:Nat):Int),(j:Int),()))else some (.inr (.inl ((rep d),(a:Int),(i:Int),(j:Int),()))):=by
 rw[NI]
 simp only[DA]
 by_cases h:i≤j
 ·have hi':i<d.size:=by omega
  simp (disch:=omega) only[h,AjV,A7,Ba,Ca,DQ,AM,Alf]
  cases ltX d[i]! d[a]!<;>simp
 ·simp only[h,Ajj,AlU,Ajc]
theorem AOA(hi:i≤d.size):(NF S.z S.c) ((rep d),(a:Int),(i:Int),(j:Int),())=if i≤j∧(fun x=>ltX x d[a]!) d[i]! = true then some (.inl ((rep d),(a:Int),((i+1:Nat):Int),(j:Int),()))else some (.inr (.inl ((rep d),(a:Int),(i:Int),(j:Int),()))):=by
 rw[NF]
 simp only[DA]
 by_cases h:i≤j
 ·have hi':i<d.size:=by omega
  simp (disch:=omega) only[h,AjV,A7,Ba,Ca,DQ,AM,Alf]
  cases ltX d[i]! d[a]!<;>simp
 ·simp only[h,Ajj,AlU,Ajc]
theorem AOB(hi:1≤i):(NH S.z S.c) ((rep d),(a:Int),(i:Int),(j:Int),())=if i≤j∧(fun x => !ltX x d[a]!) d[j]! = true then some (.inl ((rep d),(a:Int),(i:Int),((j-1:Nat):Int),()))else some (.inr (.inl ((rep d),(a:Int),(i:Int),(j:Int),()))):=by
 rw[NH]
 simp only[DA]
 by_cases h:i≤j
 ·simp (disch:=omega) only[h,AjV,A7,Ba,Ca,DQ,BG,Alf]
  cases ltX d[j]! d[a]!<;>simp
 ·simp only[h,Ajj,AlU,Ajc]
theorem AN9(hi:1≤i):(ND S.z S.c) ((rep d),(a:Int),(i:Int),(j:Int),())=if i≤j∧(fun x => !ltX x d[a]!) d[j]! = true then some (.inl ((rep d),(a:Int),(i:Int),((j-1:Nat):Int),()))else some (.inr (.inl ((rep d),(a:Int),(i:Int),(j:Int),()))):=by
 rw[ND]
 simp only[DA]
 by_cases h:i≤j
 ·simp (disch:=omega) only[h,AjV,A7,Ba,Ca,DQ,BG,Alf]
  cases ltX d[j]! d[a]!<;>simp
 ·simp only[h,Ajj,AlU,Ajc]
theorem AFQ(hi:i≤d.size):(IC S.z S.c) ((rep d),(a:Int),(i:Int),(j:Int),())=if i≤j∧(fun x => !ltX d[a]! x) d[i]! = true then some (.inl ((rep d),(a:Int),((i+1:Nat):Int),(j:Int),()))else some (.inr (.inl ((rep d),(a:Int),(i:Int),(j:Int),()))):=by
 rw[IC]
 simp only[DA]
 by_cases h:i≤j
 ·have hi':i<d.size:=by omega
  simp (disch:=omega) only[h,AjV,A7,Ba,Ca,DQ,AM,Alf]
  cases ltX d[a]! d[i]!<;>simp
 ·simp only[h,Ajj,AlU,Ajc]
theorem AFP(hi:1≤i):(IB S.z S.c) ((rep d),(a:Int),(i:Int),(j:Int),())=if i≤j∧(fun x=>ltX d[a]! x) d[j]! = true then some (.inl ((rep d),(a:Int),(i:Int),((j-1:Nat):Int),()))else some (.inr (.inl ((rep d),(a:Int),(i:Int),(j:Int),()))):=by
 rw[IB]
 simp only[DA]
 by_cases h:i≤j
 ·simp (disch:=omega) only[h,AjV,A7,Ba,Ca,DQ,BG,Alf]
  cases ltX d[a]! d[j]!<;>simp
 ·simp only[h,Ajj,AlU,Ajc]
end
theorem M0(p:(EL S)→Bool)(d:Array (EL S))(j i:Nat)(hj:j<d.size)(hi:i≤d.size):scanUp p d j i≤d.size:=by
 suffices h:∀ (k i:Nat),j+1-i=k→i≤d.size→scanUp p d j i≤d.size from h _ i rfl hi
 intro k
 induction k using Nat.strongRecOn with
 |_ k ih=>
 intro i hk hi
 rw[scanUp]
 split
 ·rename_i h
  have:i≤j:=by simp at h;exact h.1
  exact ih (j+1-(i+1)) (by omega) (i+1) rfl (by omega)
 ·exact hi
theorem AS3(a:Nat):∀ (k i j:Nat) (d:Array (EL S)) (n:Nat),j+1-i=k→a<d.size→1≤i→i≤d.size→j<d.size→d.size<4294967296→k<n →
  AX (NG S.z S.c) n ((rep d),(a:Int),(i:Int),(j:Int),())=some (.inl ((rep (partLoop ltX a i j d).2),(a:Int),(((partLoop ltX a i j d).1:Nat):Int),()))∧(partLoop ltX a i j d).1≤j∧(partLoop ltX a i j d).2.size=d.size:=by
 intro k
 induction k using Nat.strongRecOn with
 |_ k ih=>
 intro i j d n hk ha hi hi' hj hs hn
 have hm:4294967296<many:=by simp only[many];omega
 obtain⟨n,rfl⟩:∃ k,n=k+1:=⟨n-1,by omega⟩
 rw[partLoop_eq,AX,NG]
 have u1:=scanUp_ge (fun x=>ltX x d[a]!) d j i
 have u2:=M0 (fun x=>ltX x d[a]!) d j i hj hi'
 rw[Au,AJE _ (fun x=>ltX x d[a]!) d a j hs hj (fun i h=>AOA d a i j hs ha hj h) _ i many rfl hi' (by omega)]
 generalize scanUp (fun x=>ltX x d[a]!) d j i=i2 at *
 have v1:=scanDown_le (fun x => !ltX x d[a]!) d i2 j
 simp only[Au]
 rw[Tf _ (fun x => !ltX x d[a]!) d a i2 (by omega) (fun j h=>AN9 d a i2 j hs ha h (by omega)) j many hj (by omega)]
 generalize scanDown (fun x => !ltX x d[a]!) d i2 j=j2 at *
 simp only[AL]
 by_cases h:j2<i2
 ·simp only[h,AjV,gt_iff_lt,Ajw]
  exact⟨trivial,v1,trivial⟩
 ·have hi2:i2<d.size:=by omega
  have hj2:j2<d.size:=by omega
  simp only[h,Ajj,gt_iff_lt,Ajc,A7 hi2,A7 hj2,(D4 hi2 hj2).1,(D4 hi2 hj2).2]
  simp (disch:=omega) only[AM,BG]
  obtain⟨q1,q2,q3⟩:=ih (j2-1+1-(i2+1)) (by omega) (i2+1) (j2-1) (swp d i2 j2) n rfl (by rw[size_swp];omega) (by omega) (by rw[size_swp];omega) (by rw[size_swp];omega) (by rw[size_swp];omega) (by omega)
  exact⟨q1,by omega,by rw[q3,size_swp]⟩
theorem AY2(d:Array (EL S))(a b p:Nat)(ha:a≤p)(hp:p<b)(hb:b≤d.size)(hs:d.size<4294967296):
  (ABo S.z S.c) ((rep d),(a:Int),(b:Int),(p:Int),())=some ((rep (partition ltX d a b p).2.2),(((partition ltX d a b p).1:Nat):Int),(partition ltX d a b p).2.1,()):=by
 have hm:4294967296<many:=by simp only[many];omega
 have ha':a<d.size:=by omega
 have hp':p<d.size:=by omega
 rw[Ac3,Rf,partition]
 simp only[A7 ha',A7 hp',(D4 ha' hp').1,(D4 ha' hp').2]
 have hs':=hs
 rw[← size_swp d a p]at ha' hs' hb
 generalize swp d a p=d at *
 simp (disch:=omega) only[AM,BG,Au]
 have u1:=scanUp_ge (fun x=>ltX x d[a]!) d (b-1) (a+1)
 have u2:=M0 (fun x=>ltX x d[a]!) d (b-1) (a+1) (by omega) (by omega)
 rw[AJE _ (fun x=>ltX x d[a]!) d a (b-1) hs' (by omega) (fun i h=>AOC d a i (b-1) hs' ha' (by omega) h) _ (a+1) many rfl (by omega) (by omega)]
 generalize scanUp (fun x=>ltX x d[a]!) d (b-1) (a+1)=i2 at *
 have v1:=scanDown_le (fun x => !ltX x d[a]!) d i2 (b-1)
 simp only[]
 rw[Tf _ (fun x => !ltX x d[a]!) d a i2 (by omega) (fun j h=>AOB d a i2 j hs' ha' h (by omega)) (b-1) many (by omega) (by omega)]
 generalize scanDown (fun x => !ltX x d[a]!) d i2 (b-1)=j2 at *
 simp only[AL]
 have hj2:j2<d.size:=by omega
 by_cases h:j2<i2
 ·simp only[h,AjV,gt_iff_lt,Ajw,A7 ha',A7 hj2,(D4 hj2 ha').1,(D4 hj2 ha').2]
 ·have hi2:i2<d.size:=by omega
  simp only[h,Ajj,gt_iff_lt,Ajc,A7 hi2,A7 hj2,(D4 hi2 hj2).1,(D4 hi2 hj2).2]
  simp (disch:=omega) only[AM,BG]
  obtain⟨q1,q2,q3⟩:=AS3 a (j2-1+1-(i2+1)) (i2+1) (j2-1) (swp d i2 j2) many rfl (by rw[size_swp];omega) (by omega) (by rw[size_swp];omega) (by rw[size_swp];omega) (by rw[size_swp];omega) (by omega)
  simp only[q1]
  rw[size_swp]at q3
  generalize partLoop ltX a (i2+1) (j2-1) (swp d i2 j2)=r at *
  have h1:r.1<r.2.size:=by omega
  have h2:a<r.2.size:=by omega
  simp only[A7 h1,A7 h2,(D4 h1 h2).1,(D4 h1 h2).2]
theorem AJo(a:Nat):∀ (k i j:Nat) (d:Array (EL S)) (n:Nat),j+1-i=k→a<d.size→1≤i→i≤d.size→j<d.size→d.size<4294967296→k<n →
  AX (ID S.z S.c) n ((rep d),(a:Int),(i:Int),(j:Int),())=some (.inl ((rep (partEqLoop ltX a i j d).2),(((partEqLoop ltX a i j d).1:Nat):Int),())):=by
 intro k
 induction k using Nat.strongRecOn with
 |_ k ih=>
 intro i j d n hk ha hi hi' hj hs hn
 have hm:4294967296<many:=by simp only[many];omega
 obtain⟨n,rfl⟩:∃ k,n=k+1:=⟨n-1,by omega⟩
 rw[partEqLoop_eq,AX,ID]
 have u1:=scanUp_ge (fun x => !ltX d[a]! x) d j i
 have u2:=M0 (fun x => !ltX d[a]! x) d j i hj hi'
 rw[Au,AJE _ (fun x => !ltX d[a]! x) d a j hs hj (fun i h=>AFQ d a i j hs ha hj h) _ i many rfl hi' (by omega)]
 generalize scanUp (fun x => !ltX d[a]! x) d j i=i2 at *
 have v1:=scanDown_le (fun x=>ltX d[a]! x) d i2 j
 simp only[Au]
 rw[Tf _ (fun x=>ltX d[a]! x) d a i2 (by omega) (fun j h=>AFP d a i2 j hs ha h (by omega)) j many hj (by omega)]
 generalize scanDown (fun x=>ltX d[a]! x) d i2 j=j2 at *
 simp only[AL]
 by_cases h:j2<i2
 ·simp only[h,AjV,gt_iff_lt,Ajw]
 ·have hi2:i2<d.size:=by omega
  have hj2:j2<d.size:=by omega
  simp only[h,Ajj,gt_iff_lt,Ajc,A7 hi2,A7 hj2,(D4 hi2 hj2).1,(D4 hi2 hj2).2]
  simp (disch:=omega) only[AM,BG]
  exact ih (j2-1+1-(i2+1)) (by omega) (i2+1) (j2-1) (swp d i2 j2) n rfl (by rw[size_swp];omega) (by omega) (by rw[size_swp];omega) (by rw[size_swp];omega) (by rw[size_swp];omega) (by omega)
theorem AOE(d:Array (EL S))(a b p:Nat)(ha:a≤p)(hp:p<b)(hb:b≤d.size)(hs:d.size<4294967296):
  (Rg S.z S.c) ((rep d),(a:Int),(b:Int),(p:Int),())=some ((rep (partitionEqual ltX d a b p).2),(((partitionEqual ltX d a b p).1:Nat):Int),()):=by
 have hm:4294967296<many:=by simp only[many];omega
 have ha':a<d.size:=by omega
 have hp':p<d.size:=by omega
 rw[ATB,KP,partitionEqual]
 simp only[A7 ha',A7 hp',(D4 ha' hp').1,(D4 ha' hp').2]
 have hs':=hs
 rw[← size_swp d a p]at ha' hs' hb
 generalize swp d a p=d at *
 simp (disch:=omega) only[AM,BG,Au]
 rw[AJo a _ (a+1) (b-1) d many rfl ha' (by omega) (by omega) (by omega) hs' (by omega)]
end Go.Pev.Pl.SG
end
section
namespace Go.Pev.Pl.SG
open Go.Sort
variable {α:Type} {S:SP α}
theorem RH(d:Array (EL S))(b:Nat):∀ (k i:Nat),b-i=k→i≤b→i≤scanSorted ltX d b i∧scanSorted ltX d b i≤b:=by
 intro k
 induction k using Nat.strongRecOn with
 |_ k ih=>
 intro i hk hi
 rw[scanSorted]
 split
 ·rename_i h
  have:i<b:=by simp at h;exact h.1
  have:=ih (b-(i+1)) (by omega) (i+1) rfl (by omega)
  omega
 ·omega
theorem AFI(d:Array (EL S))(a b s:Nat)(hb:b≤d.size)(hs:d.size<4294967296):∀ (k i n:Nat),b-i=k→1≤i→i≤b→k<n →
  AX (Gt S.z S.c) n ((rep d),(a:Int),(b:Int),(i:Int),(s:Int),())=some (.inl ((rep d),(a:Int),(b:Int),((scanSorted ltX d b i:Nat):Int),(s:Int),())):=by
 intro k
 induction k using Nat.strongRecOn with
 |_ k ih=>
 intro i n hk h1 hi hn
 obtain⟨n,rfl⟩:∃ k,n=k+1:=⟨n-1,by omega⟩
 rw[scanSorted,AX,Gt]
 simp only[AL]
 by_cases h:i<b
 ·have i0:i<d.size:=by omega
  have i1:i-1<d.size:=by omega
  simp (disch:=omega) only[h,AjV,BG,AM,A7,Ba,Ca,DQ,Ale]
  cases h2:ltX d[i]! d[i-1]!
  ·simp only[Aj2,Ajw]
   exact ih (b-(i+1)) (by omega) (i+1) n rfl (by omega) (by omega) (by omega)
  ·simp only[AjT,Ajf,Ajc]
 ·simp only[h,Ajj,Alj,Ajf,Ajc]
theorem AFK(a b i s:Nat):∀ (j:Nat) (d:Array (EL S)) (n:Nat),j<d.size→d.size<4294967296→j<n →
  AX (Eu S.z S.c) n ((rep d),(a:Int),(b:Int),(i:Int),(s:Int),(j:Int),())=some (.inl ((rep (shiftDown ltX j d)),(a:Int),(b:Int),(i:Int),(s:Int),())):=by
 intro j
 induction j with
 |zero=>
  intro d n hj hs hn
  obtain⟨n,rfl⟩:∃ k,n=k+1:=⟨n-1,by omega⟩
  rw[AX,Eu,Ar,AjF (by omega)]
  rfl
 |succ j ih=>
  intro d n hj hs hn
  obtain⟨n,rfl⟩:∃ k,n=k+1:=⟨n-1,by omega⟩
  have hj':j<d.size:=by omega
  rw[shiftDown,AX,Eu,Ar,AjG (by omega)]
  simp (disch:=omega) only[BG,AmF,A7,Ba,Ca,DQ]
  cases h2:ltX d[j+1]! d[j]!
  ·simp only[Aj2,Ajw]
  ·have e1:=D4 hj hj'
   simp only[Ba hj,Ba hj']at e1
   simp only[AjT,Ajf,Ajc,e1]
   exact ih _ n (by rw[size_swp];omega) (by rw[size_swp];omega) (by omega)
theorem XX(a b i s:Nat):∀ (k j:Nat) (d:Array (EL S)) (n:Nat),b-j=k→1≤j→b≤d.size→d.size<4294967296→k<n →
  AX (Et S.z S.c) n ((rep d),(a:Int),(b:Int),(i:Int),(s:Int),(j:Int),())=some (.inl ((rep (shiftUp ltX b j d)),(a:Int),(b:Int),(i:Int),(s:Int),())):=by
 intro k
 induction k using Nat.strongRecOn with
 |_ k ih=>
 intro j d n hk h1 hb hs hn
 obtain⟨n,rfl⟩:∃ k,n=k+1:=⟨n-1,by omega⟩
 rw[shiftUp,AX,Et]
 simp only[AL]
 by_cases h:j<b
 ·have i0:j<d.size:=by omega
  have i1:j-1<d.size:=by omega
  simp (disch:=omega) only[h,AjV,Ajw,BG,AM,A7,Ba,Ca,DQ]
  cases h2:ltX d[j]! d[j-1]!
  ·simp only[Aj2,Ajw]
  ·have e1:=D4 i0 i1
   simp only[Ba i0,Ba i1]at e1
   simp only[AjT,Ajf,Ajc,e1]
   exact ih (b-(j+1)) (by omega) (j+1) _ n rfl (by omega) (by rw[size_swp];omega) (by rw[size_swp];omega) (by omega)
 ·simp only[h,Ajj,Ajc]
theorem AAJ:∀ (j:Nat) (d:Array (EL S)),(shiftDown ltX j d).size=d.size:=by
 intro j
 induction j with
 |zero=>intro d;rfl
 |succ j ih=>
  intro d
  rw[shiftDown]
  split
  ·rfl
  ·rw[ih,size_swp]
theorem HL(b:Nat):∀ (k j:Nat) (d:Array (EL S)),b-j=k→(shiftUp ltX b j d).size=d.size:=by
 intro k
 induction k using Nat.strongRecOn with
 |_ k ih=>
 intro j d hk
 rw[shiftUp]
 split
 ·split
  ·rfl
  ·rw[ih (b-(j+1)) (by omega) (j+1) _ rfl,size_swp]
 ·rfl
theorem AFJ(a b:Nat)(hab:a<b):∀ (k i s:Nat) (d:Array (EL S)) (n:Nat),s+k=5→a+1≤i→i≤b→b≤d.size→d.size<4294967296→k<n →
  AX (CY S.z S.c) n ((rep d),(a:Int),(b:Int),(i:Int),(s:Int),())=some (.inl ((rep (partialIns ltX a b k i d).1),(partialIns ltX a b k i d).2,())) ∨
  ((partialIns ltX a b k i d).2=false∧AX (CY S.z S.c) n ((rep d),(a:Int),(b:Int),(i:Int),(s:Int),())=some (.inr (.inl ((rep (partialIns ltX a b k i d).1),())))):=by
 intro k
 induction k with
 |zero=>
  intro i s d n hk h1 hi hb hs hn
  obtain⟨n,rfl⟩:∃ k,n=k+1:=⟨n-1,by omega⟩
  rw[AX,CY,Ag,AjF (by omega)]
  exact .inr ⟨rfl,rfl⟩
 |succ k ih=>
  intro i s d n hk h1 hi hb hs hn
  have hm:4294967296<many:=by simp only[many];omega
  have es:IntKind.wrap .i64 ((s:Int)+1)=((s+1:Nat):Int):=AM (by omega)
  obtain⟨n,rfl⟩:∃ k,n=k+1:=⟨n-1,by omega⟩
  rw[AX,CY,Ag,AjG (by omega),partialIns]
  simp only[Au,AFI d a b s hb hs (b-i) i many rfl (by omega) hi (by omega)]
  have hsc:=RH d b _ i rfl hi
  generalize scanSorted ltX d b i=i2 at *
  simp only[AKa]
  by_cases h2:i2=b
  ·simp only[h2,AjV,Ajw,true_or]
  ·simp (disch:=omega) only[h2,Ajj,Ajc,DV,Ag,Ar]
   by_cases h3:b-a<50
   ·rw[AjP h3,AjG (by omega)]
    exact .inl rfl
   ·have i0:i2<d.size:=by omega
    have i1:i2-1<d.size:=by omega
    rw[AjQ h3,AjF (by omega)]
    simp (disch:=omega) only[BG,AM,A7 i0,A7 i1,(D4 i0 i1).1,(D4 i0 i1).2]
    have hsz:=size_swp d i2 (i2-1)
    generalize swp d i2 (i2-1)=d2 at *
    by_cases h4:i2-a≥2
    ·rw[AjP h4,AjG (show(2:Int)≤((i2-a:Nat):Int) by omega)]
     simp only[AFK a b i2 s (i2-1) d2 many (by omega) (by omega) (by omega)]
     have hsz2:=AAJ (i2-1) d2
     generalize shiftDown ltX (i2-1) d2=d3 at *
     simp (disch:=omega) only[DV,AM]
     by_cases h5:b-i2≥2
     ·rw[AjP h5,AjG (show(2:Int)≤((b-i2:Nat):Int) by omega)]
      simp only[XX a b i2 s _ (i2+1) d3 many rfl (by omega) (by omega) (by omega) (by omega)]
      simp only[es]
      exact ih i2 (s+1) (shiftUp ltX b (i2+1) d3) n (by omega) (by omega) (by omega) (by rw[HL b (b-(i2+1)) (i2+1) _ rfl];omega) (by rw[HL b (b-(i2+1)) (i2+1) _ rfl];omega) (by omega)
     ·rw[AjQ h5,AjF (show ¬ (2:Int)≤((b-i2:Nat):Int) by omega)]
      simp only[es]
      exact ih i2 (s+1) d3 n (by omega) (by omega) (by omega) (by omega) (by omega) (by omega)
    ·rw[AjQ h4,AjF (show ¬ (2:Int)≤((i2-a:Nat):Int) by omega)]
     by_cases h5:b-i2≥2
     ·rw[AjP h5,AjG (show(2:Int)≤((b-i2:Nat):Int) by omega)]
      simp only[XX a b i2 s _ (i2+1) d2 many rfl (by omega) (by omega) (by omega) (by omega)]
      simp only[es]
      exact ih i2 (s+1) (shiftUp ltX b (i2+1) d2) n (by omega) (by omega) (by omega) (by rw[HL b (b-(i2+1)) (i2+1) _ rfl];omega) (by rw[HL b (b-(i2+1)) (i2+1) _ rfl];omega) (by omega)
     ·rw[AjQ h5,AjF (show ¬ (2:Int)≤((b-i2:Nat):Int) by omega)]
      simp only[es]
      exact ih i2 (s+1) d2 n (by omega) (by omega) (by omega) (by omega) (by omega) (by omega)
theorem AJk(d:Array (EL S))(a b:Nat)(hab:a<b)(hb:b≤d.size)(hs:d.size<4294967296):
  (NC S.z S.c) ((rep d),(a:Int),(b:Int),())=some ((rep (partialInsertionSort ltX d a b).1),(partialInsertionSort ltX d a b).2,()):=by
 have hm:4294967296<many:=by simp only[many];omega
 rw[ANz,IA,partialInsertionSort]
 simp (disch:=omega) only[AM,Au]
 have h:=AFJ a b hab 5 (a+1) 0 d many rfl (AjO _) (by omega) hb hs (by omega)
 rcases h with h|⟨h0,h⟩
 ·have h':AX (CY S.z S.c) many ((rep d),(a:Int),(b:Int),((a+1:Nat):Int),(0:Int),())=_:=h
  rw[h']
 ·have h':AX (CY S.z S.c) many ((rep d),(a:Int),(b:Int),((a+1:Nat):Int),(0:Int),())=_:=h
  rw[h',h0]
theorem NJ(d:Array (EL S))(a b:Nat)(s:Int)(ha:a<d.size)(hb:b<d.size):
  ∃ s' p q,(LF S.z S.c) ((rep d),(a:Int),(b:Int),s,())=some ((rep d),s',((p:Nat):Int),((q:Nat):Int),())∧(p=a∧q=b∨p=b∧q=a):=by
 rw[ATL,KR]
 simp only[A7 ha,A7 hb,Ba ha,Ba hb,Ca,DQ]
 cases ltX d[b]! d[a]!
 ·exact⟨_,a,b,rfl,.inl ⟨rfl,rfl⟩⟩
 ·exact⟨_,b,a,rfl,.inr ⟨rfl,rfl⟩⟩
theorem NK(d:Array (EL S))(a b c:Nat)(s:Int)(ha:a<d.size)(hb:b<d.size)(hc:c<d.size):
  ∃ s' p,(LM S.z S.c) ((rep d),(a:Int),(b:Int),(c:Int),s,())=some ((rep d),s',((p:Nat):Int),())∧(p=a∨p=b∨p=c):=by
 rw[ATj,KU]
 obtain⟨s1,p1,q1,e1,h1⟩:=NJ d a b s ha hb
 simp only[e1]
 obtain⟨s2,p2,q2,e2,h2⟩:=NJ d q1 c s1 (by omega) hc
 simp only[e2]
 obtain⟨s3,p3,q3,e3,h3⟩:=NJ d p1 p2 s2 (by omega) (by omega)
 simp only[e3]
 exact⟨_,q3,rfl,by omega⟩
theorem NL(d:Array (EL S))(a:Nat)(s:Int)(h1:1≤a)(ha:a+1<d.size)(hs:d.size<4294967296):
  ∃ s' p,(LN S.z S.c) ((rep d),(a:Int),s,())=some ((rep d),s',((p:Nat):Int),())∧a≤p+1∧p≤a+1:=by
 rw[ATm,KV]
 simp (disch:=omega) only[BG,AM]
 obtain⟨s1,p1,e1,h1⟩:=NK d (a-1) a (a+1) s (by omega) (by omega) ha
 simp only[e1]
 exact⟨_,p1,rfl,by omega⟩
theorem ASn(d:Array (EL S))(a b:Nat)(hab:a+8≤b)(hb:b≤d.size)(hs:d.size<4294967296):
  ∃ p h,(ABK S.z S.c) ((rep d),(a:Int),(b:Int),())=some ((rep d),((p:Nat):Int),h,())∧a≤p∧p<b:=by
 rw[AYr,NB]
 simp (disch:=omega) only[DV,AWQ,AXZ,OA,AXY,wrap_add,Ar]
 rw[AjG (show(8:Int)≤((b-a:Nat):Int) by omega)]
 simp only[]
 by_cases h:50≤b-a
 ·rw[AjG (show(50:Int)≤((b-a:Nat):Int) by omega)]
  simp only[]
  obtain⟨s1,p1,e1,h1⟩:=NL d (a+(b-a)/4*1) 0 (by omega) (by omega) hs
  simp only[e1]
  obtain⟨s2,p2,e2,h2⟩:=NL d (a+(b-a)/4*2) s1 (by omega) (by omega) hs
  simp only[e2]
  obtain⟨s3,p3,e3,h3⟩:=NL d (a+(b-a)/4*3) s2 (by omega) (by omega) hs
  simp only[e3]
  obtain⟨s4,p4,e4,h4⟩:=NK d p1 p2 p3 s3 (by omega) (by omega) (by omega)
  simp only[e4]
  cases ieq s4 0
  ·cases ieq s4 12
   ·exact⟨p4,_,rfl,by omega,by omega⟩
   ·exact⟨p4,_,rfl,by omega,by omega⟩
  ·exact⟨p4,_,rfl,by omega,by omega⟩
 ·rw[AjF (show ¬ (50:Int)≤((b-a:Nat):Int) by omega)]
  simp only[]
  obtain⟨s4,p4,e4,h4⟩:=NK d (a+(b-a)/4*1) (a+(b-a)/4*2) (a+(b-a)/4*3) 0 (by omega) (by omega) (by omega)
  simp only[e4]
  cases ieq s4 0
  ·cases ieq s4 12
   ·exact⟨p4,_,rfl,by omega,by omega⟩
   ·exact⟨p4,_,rfl,by omega,by omega⟩
  ·exact⟨p4,_,rfl,by omega,by omega⟩
end Go.Pev.Pl.SG
end
section
namespace Go.Pev.Pl
open Go.Sort
theorem AZo:(List.range 256).all (fun k=>match G7[k]? with
  |some v=>decide (0≤v)&&(decide (v≤8)&&decide (2 ^ v.toNat≤max 1 (2*k)))
  |none=>false)=true:=by decide +kernel
theorem AZp{k:Nat}(h:k<256):∃ v:Nat,idx G7 (k:Int)=some (v:Int)∧v≤8∧2 ^ v≤max 1 (2*k):=by
 have:=Ajd.1 AZo k (AkB.2 h)
 rw[idx_eq,O6,AjQ (by omega),AkG]
 cases e:G7[k]? with
 |none=>rw[e]at this;cases this
 |some v=>
  rw[e]at this
  simp only[AjK,AjJ]at this
  exact⟨v.toNat,by rw[Int.toNat_of_nonneg this.1],by omega,this.2.2⟩
theorem AI9(n s:Nat)(h:s≤64):shr? .u64 (n:Int) (s:Int)=some ((n/2 ^ s:Nat):Int):=by
 rw[AJA,AAK,AjQ (by omega),AkG,show min s (IntKind.bits .u64)=s from AkT h,Int.fdiv_eq_ediv_of_nonneg _ (Int.pow_nonneg (by omega))]
 rfl
theorem u8_in{n:Int}(h:0≤n∧n≤255):IntKind.wrap .u8 n=n:=IntWalk.u8_in n h
theorem u64_in{n:Int}(h:0≤n∧n≤18446744073709551615):IntKind.wrap .u64 n=n:=IntWalk.u64_in n h
theorem AZq(n:Nat)(hn:n<4294967296):∃ v:Nat,AO3 ((n:Int),())=some ((v:Int),())∧v≤32∧2 ^ v≤max 1 (2*n):=by
 rw[AO2,ZC,Ar,AjF (by omega)]
 simp only[Ar]
 have key:∀ (s m:Nat),s≤24→m<256→m*2 ^ s≤n→(s=0∨1≤m)→∃ v:Nat,idx G7 (m:Int)=some (v:Int)∧v≤8∧2 ^ (s+v)≤max 1 (2*n):=by
  intro s m hs hm hle h1
  obtain⟨v,e,h8,hp⟩:=AZp hm
  refine⟨v,e,h8,?_⟩
  rcases h1 with rfl|h1
  ·rw[AkI];simp at hle;omega
  ·have h2:2 ^ v≤2*m:=by omega
   have h3:2 ^ (s+v)≤2*(m*2 ^ s):=by
    rw[Nat.pow_add,Nat.mul_comm (2 ^ s),← Nat.mul_assoc]
    exact AkD _ h2
   omega
 by_cases h1:65536≤n
 ·rw[AjG (show(65536:Int)≤(n:Int) by omega)]
  have e16:shr? .u64 (n:Int) 16=some ((n/65536:Nat):Int):=AI9 n 16 (by omega)
  simp only[e16]
  by_cases h2:256≤n/65536
  ·rw[AjG (show(256:Int)≤((n/65536:Nat):Int) by omega)]
   have e8:shr? .u64 ((n/65536:Nat):Int) 8=some ((n/65536/256:Nat):Int):=AI9 _ 8 (by omega)
   obtain⟨v,e,h8,hp⟩:=key 24 (n/65536/256) (by omega) (by omega) (by omega) (by omega)
   simp only[e8]
   rw[u8_in (by omega)]
   simp only[e]
   refine⟨24+v,?_,by omega,hp⟩
   rw[Ai (n:=0+16) (by omega),Ai (n:=(0:Int)+16+8) (by omega),Ai (n:=(v:Int)) (by omega),Ai (by omega)]
   congr 2
  ·rw[AjF (show ¬ (256:Int)≤((n/65536:Nat):Int) by omega)]
   obtain⟨v,e,h8,hp⟩:=key 16 (n/65536) (by omega) (by omega) (by omega) (by omega)
   simp only[]
   rw[u8_in (by omega)]
   simp only[e]
   refine⟨16+v,?_,by omega,hp⟩
   rw[Ai (n:=0+16) (by omega),Ai (n:=(v:Int)) (by omega),Ai (by omega)]
   congr 2
 ·rw[AjF (show ¬ (65536:Int)≤(n:Int) by omega)]
  by_cases h2:256≤n
  ·have e8:shr? .u64 (n:Int) 8=some ((n/256:Nat):Int):=AI9 n 8 (by omega)
   obtain⟨v,e,h8,hp⟩:=key 8 (n/256) (by omega) (by omega) (by omega) (by omega)
   simp only[]
   rw[AjG (show(256:Int)≤(n:Int) by omega)]
   simp only[e8]
   rw[u8_in (by omega)]
   simp only[e]
   refine⟨8+v,?_,by omega,hp⟩
   rw[Ai (n:=0+8) (by omega),Ai (n:=(v:Int)) (by omega),Ai (by omega)]
   congr 2
  ·obtain⟨v,e,h8,hp⟩:=key 0 n (by omega) (by omega) (by omega) (by omega)
   simp only[]
   rw[AjF (show ¬ (256:Int)≤(n:Int) by omega)]
   simp only[]
   rw[u8_in (by omega)]
   simp only[e]
   refine⟨0+v,?_,by omega,hp⟩
   rw[Ai (n:=(v:Int)) (by omega),Ai (by omega)]
   congr 2
theorem Xy(n:Nat)(hn:n<4294967296):∃ v:Nat,bitsLen ((n:Int),())=some ((v:Int),())∧v≤32∧2 ^ v≤max 1 (2*n):=by
 rw[AEJ,Om]
 obtain⟨v,e,h⟩:=AZq n hn
 simp only[e]
 exact⟨v,rfl,h⟩
theorem AOe(n:Nat)(h1:1≤n)(hn:n<4294967296):∃ m:Nat,Rk ((n:Int),())=some ((m:Int),())∧1≤m∧m≤2*n:=by
 rw[ACD,OR,u64_in (by omega)]
 obtain⟨v,e,h32,hp⟩:=Xy n hn
 simp only[e]
 have e2:shl? .u64 (1:Int) (v:Int)=some ((2 ^ v:Nat):Int):=by
  rw[AJB,AAL,AjQ (by omega),AkG,show min v (IntKind.bits .u64)=v from AkT (by show v≤64;omega),Int.one_mul]
  have:2 ^ v≤2 ^ 32:=Nat.pow_le_pow_right (by omega) h32
  have h1:1≤2 ^ v:=Nat.one_le_two_pow
  have e:((2:Int) ^ v)=((2 ^ v:Nat):Int):=by simp
  rw[e,u64_in (by constructor<;>omega)]
 simp only[e2]
 exact⟨2 ^ v,rfl,Nat.one_le_two_pow,by omega⟩
theorem ALr(r:Int):∃ r' y,xorNext (r,())=some (r',y,()):=by
 rw[ZP,N9,AJB,AAL,AjQ (by omega)]
 simp only[]
 rw[AJA,AAK,AjQ (by omega)]
 simp only[]
 rw[AJB,AAL,AjQ (by omega)]
 exact⟨_,_,rfl⟩
theorem AdI(y:Int)(m:Nat)(h1:1≤m)(hm:m<18446744073709551616):∃ o:Nat,IntKind.wrap .u64 ((BitVec.ofInt (IntKind.bits .u64) y &&& BitVec.ofInt (IntKind.bits .u64) (IntKind.wrap .u64 ((m:Int)-1))).toNat)=(o:Int)∧o<m:=by
 rw[u64_in (n:=(m:Int)-1) (by omega),show(m:Int)-1=((m-1:Nat):Int) by omega,BitVec.toNat_and]
 have h2:(BitVec.ofInt (IntKind.bits .u64) ((m-1:Nat):Int)).toNat=m-1:=by
  rw[BitVec.ofInt_natCast,BitVec.toNat_ofNat]
  exact AkM (by show m-1<18446744073709551616;omega)
 rw[h2]
 have h3:(BitVec.ofInt (IntKind.bits .u64) y).toNat &&& (m-1)≤m-1:=Nat.and_le_right
 exact⟨_,u64_in (by omega),by omega⟩
end Go.Pev.Pl
end
section
namespace Go.Pev.Pl.SG
open Go.Sort
variable {α:Type} {S:SP α}
theorem AQO(a b:Nat)(m:Nat)(h8:a+8≤b)(hm1:1≤m)(hm:m≤2*(b-a)):∀ (k t:Nat) (d:Array (EL S)) (r:Int) (n:Nat),t+k=3→b≤d.size→d.size<4294967296→k<n →
  ∃ d':Array (EL S),AX (GK S.z S.c) n ((rep d),(a:Int),((b-a:Nat):Int),r,(m:Int),((a+(b-a)/4*2-1+t:Nat):Int),())=some (.inl ((rep d'),()))∧PermIn a b d d':=by
 intro k
 induction k with
 |zero=>
  intro t d r n hk hb hs hn
  obtain⟨n,rfl⟩:∃ k,n=k+1:=⟨n-1,by omega⟩
  rw[AX,GK]
  simp (disch:=omega) only[AWQ,OA,wrap_add,AM,DA]
  rw[AjF (by omega)]
  exact⟨d,rfl,permIn_refl d a b⟩
 |succ k ih=>
  intro t d r n hk hb hs hn
  obtain⟨n,rfl⟩:∃ k,n=k+1:=⟨n-1,by omega⟩
  rw[AX,GK]
  simp (disch:=omega) only[AWQ,OA,wrap_add,AM,DA]
  rw[AjG (show a+(b-a)/4*2-1+t≤a+(b-a)/4*2+1 by omega)]
  obtain⟨r',y,e⟩:=ALr r
  obtain⟨o,e2,ho⟩:=AdI y m hm1 (by omega)
  simp only[e,e2]
  rw[Ai (n:=(o:Int)) (by omega)]
  simp only[DA]
  have i0:a+(b-a)/4*2-1+t<d.size:=by omega
  have fin:∀ q:Nat,a≤q→q<b→∃ d':Array (EL S),AX (GK S.z S.c) n ((rep (swp d (a+(b-a)/4*2-1+t) q)),(a:Int),((b-a:Nat):Int),r',(m:Int),((a+(b-a)/4*2-1+t+1:Nat):Int),())=some (.inl ((rep d'),()))∧PermIn a b d d':=by
   intro q hq1 hq2
   obtain⟨d',e',hp⟩:=ih (t+1) (swp d (a+(b-a)/4*2-1+t) q) r' n (by omega) (by rw[size_swp];omega) (by rw[size_swp];omega) (by omega)
   exact⟨d',e',permIn_trans _ _ _ a b (swp_permIn d a b _ q (by omega) (by omega) hq1 hq2 hb) hp⟩
  by_cases h:b-a≤o
  ·have i1:a+(o-(b-a))<d.size:=by omega
   simp (disch:=omega) only[h,AjV,DV,wrap_add,AM,A7 i0,A7 i1,(D4 i0 i1).1,(D4 i0 i1).2]
   exact fin _ (by omega) (by omega)
  ·have i1:a+o<d.size:=by omega
   simp (disch:=omega) only[h,Ajj,DV,wrap_add,AM,A7 i0,A7 i1,(D4 i0 i1).1,(D4 i0 i1).2]
   exact fin _ (by omega) (by omega)
theorem AVW(d:Array (EL S))(a b:Nat)(hab:a≤b)(hb:b≤d.size)(hs:d.size<4294967296):
  ∃ d':Array (EL S),(AED S.z S.c) ((rep d),(a:Int),(b:Int),())=some ((rep d'),())∧PermIn a b d d':=by
 have hm:4294967296<many:=by simp only[many];omega
 rw[Aar,Nu]
 simp (disch:=omega) only[DV,Ar]
 by_cases h:8≤b-a
 ·rw[AjG (show(8:Int)≤((b-a:Nat):Int) by omega)]
  obtain⟨m,e,h1,h2⟩:=AOe (b-a) (by omega) (by omega)
  simp only[e]
  rw[u64_in (n:=((b-a:Nat):Int)) (by omega)]
  simp (disch:=omega) only[AWQ,OA,wrap_add,BG,Au]
  obtain⟨d',e2,hp⟩:=AQO a b m (by omega) h1 h2 3 0 d ((b-a:Nat):Int) many rfl hb hs (by omega)
  rw[Akc]at e2
  simp only[e2]
  exact⟨d',rfl,hp⟩
 ·rw[AjF (show ¬ (8:Int)≤((b-a:Nat):Int) by omega)]
  exact⟨d,rfl,permIn_refl d a b⟩
end Go.Pev.Pl.SG
end
section
namespace Go.Pev.Pl.SG
open Go.Sort
variable {α:Type} {S:SP α}
abbrev Ai0(α:Type):=List α×Int×Int×Int×Bool×Bool×Unit
abbrev AXP(α:Type):=Ai0 α⊕(List α×Unit)⊕Unit
def AEP(d:Array (EL S))(a b:Nat):AXP α→Prop
 |.inl (xs,x,y,l,_,_,_)=>∃ (e:Array (EL S)) (i j:Nat),xs=(rep e)∧x=(i:Int)∧y=(j:Int)∧0≤l∧l≤100∧i≤j∧j≤e.size∧e.size=d.size∧j-i<b-a∧Below ltX i j e ∧
   ∀ R,PermIn i j e R→SortedIn ltX i j R→PermIn a b d R∧SortedIn ltX a b R
 |.inr (.inl (xs,_))=>∃ R:Array (EL S),xs=(rep R)∧PermIn a b d R∧SortedIn ltX a b R
 |.inr (.inr _)=>False
def Fc(self:(List α×Int×Int×Int×Unit)→Option ((List α×Unit)))(m:Nat):Prop:=
 ∀ (d:Array (EL S)) (a b:Nat) (l:Int),a≤b→b≤d.size→d.size<4294967296→0≤l→l≤100→Below ltX a b d→2*(b-a)<m →
  ∃ R:Array (EL S),self ((rep d),(a:Int),(b:Int),l,())=some ((rep R),())∧PermIn a b d R∧SortedIn ltX a b R
section
variable {self:(List α×Int×Int×Int×Unit)→Option ((List α×Unit))} {d:Array (EL S)} {a b:Nat} {l:Int}
theorem ANU(hself:Fc (S:=S) self (b-a))(hb:b≤d.size)(hs:d.size<4294967296)(hl:0≤l∧l≤100)
  {d3:Array (EL S)} {p:Nat} (P3:PermIn a b d d3) (B3:Below ltX a b d3) (hp1:a≤p) (hp2:p<b) :
  ∃ o,(match(ABo S.z S.c) ((rep d3),(a:Int),(b:Int),(p:Int),())with
  |none=>none
  |some (y20,y21,y22,_)=>match quo? .i64 (IntKind.wrap .i64 ((b:Int)-(a:Int))) (8:Int)with
   |none=>none
   |some x23=>match(ilt (IntKind.wrap .i64 (y21-(a:Int))) (IntKind.wrap .i64 ((b:Int)-y21)))with
    |true=>match self (y20,(a:Int),y21,l,())with
     |none=>none
     |some (y24,_)=>some ((.inl (y24,(IntKind.wrap .i64 (y21+(1:Int))),(b:Int),l,(ile x23 (IntKind.wrap .i64 (y21-(a:Int)))),y22,())):AXP α)
    |false=>match self (y20,(IntKind.wrap .i64 (y21+(1:Int))),(b:Int),l,())with
     |none=>none
     |some (y25,_)=>some (.inl (y25,(a:Int),y21,l,(ile x23 (IntKind.wrap .i64 ((b:Int)-y21))),y22,())))=some o∧AEP d a b o:=by
 have b3:b≤d3.size:=by rw[P3.1];exact hb
 have s3:d3.size<4294967296:=by rw[P3.1];exact hs
 rw[AY2 d3 a b p hp1 hp2 b3 s3]
 rcases hx:partition ltX d3 a b p with⟨mid,ap,d4⟩
 obtain⟨g1,g2,hs4,hBa,hBr,hleft,hright⟩:=round_part Abo (partition_holds _) hp1 hp2 b3 B3 hx
 simp (disch:=omega) only[DV,AM,Aio,AL]
 have b4:b≤d4.size:=by omega
 by_cases h:mid-a<b-mid
 ·obtain⟨L,e,l1,l2⟩:=hself d4 a mid l g1 (by omega) (by omega) hl.1 hl.2 hBa (by omega)
  simp only[h,AjV,e]
  obtain⟨hBL,hfin⟩:=hleft _ l1 l2
  refine⟨_,rfl,L,mid+1,b,rfl,rfl,rfl,hl.1,hl.2,by omega,by rw[l1.1];exact b4,by rw[l1.1,hs4,P3.1],by omega,hBL,fun R r1 r2 => ?_⟩
  obtain⟨q1,q2⟩:=hfin R r1 r2
  exact⟨permIn_trans _ _ _ a b P3 q1,q2⟩
 ·obtain⟨L,e,l1,l2⟩:=hself d4 (mid+1) b l (by omega) (by omega) (by omega) hl.1 hl.2 hBr (by omega)
  simp only[h,Ajj,e]
  obtain⟨hBL,hfin⟩:=hright _ l1 l2
  refine⟨_,rfl,L,a,mid,rfl,rfl,rfl,hl.1,hl.2,by omega,by rw[l1.1];omega,by rw[l1.1,hs4,P3.1],by omega,hBL,fun R r1 r2 => ?_⟩
  obtain⟨q1,q2⟩:=hfin R r1 r2
  exact⟨permIn_trans _ _ _ a b P3 q1,q2⟩
theorem Re(hself:Fc (S:=S) self (b-a))(hb:b≤d.size)(hs:d.size<4294967296)(hl:0≤l∧l≤100)
  {d3:Array (EL S)} {p:Nat} (wb wp:Bool) (P3:PermIn a b d d3) (B3:Below ltX a b d3) (hp1:a≤p) (hp2:p<b) :
  ∃ o,(T5 S.z S.c) self (rep d3) (a:Int) (b:Int) (p:Int) l wb wp=some o∧AEP d a b o:=by
 have b3:b≤d3.size:=by rw[P3.1];exact hb
 have s3:d3.size<4294967296:=by rw[P3.1];exact hs
 rw[T5,Ag]
 by_cases h0:0<a
 ·rw[AjG (by omega)]
  have i0:a-1<d3.size:=by omega
  have i1:p<d3.size:=by omega
  simp (disch:=omega) only[BG,A7,Ba,Ca,DQ]
  cases hc:ltX d3[a-1]! d3[p]!
  ·simp only[Aj2]
   rw[AOE d3 a b p hp1 hp2 b3 s3]
   rcases hx:partitionEqual ltX d3 a b p with⟨mid,d4⟩
   obtain⟨hm1,hm2,hs4,hB4,hfin⟩:=round_eq Abo (partitionEqual_holds _) h0 hp1 hp2 b3 B3 hc hx
   refine⟨_,rfl,d4,mid,b,rfl,rfl,rfl,hl.1,hl.2,by omega,by omega,by rw[hs4,P3.1],by omega,hB4,fun R r1 r2 => ?_⟩
   obtain⟨q1,q2⟩:=hfin R r1 r2
   exact⟨permIn_trans _ _ _ a b P3 q1,q2⟩
  ·simp only[AjT]
   exact ANU hself hb hs hl P3 B3 hp1 hp2
 ·rw[AjF (by omega)]
  exact ANU hself hb hs hl P3 B3 hp1 hp2
theorem AWU(hself:Fc (S:=S) self (b-a))(hab:a<b)(hb:b≤d.size)(hs:d.size<4294967296)(hl:0≤l∧l≤100)
  {d3:Array (EL S)} {p:Nat} (h:Int) (wb wp:Bool) (P3:PermIn a b d d3) (B3:Below ltX a b d3) (hp1:a≤p) (hp2:p<b) :
  ∃ o,(AJe S.z S.c) self (rep d3) (a:Int) (b:Int) (p:Int) h l wb wp=some o∧AEP d a b o:=by
 have b3:b≤d3.size:=by rw[P3.1];exact hb
 have s3:d3.size<4294967296:=by rw[P3.1];exact hs
 unfold AJe
 cases wb
 ·exact Re hself hb hs hl _ _ P3 B3 hp1 hp2
 ·cases wp
  ·exact Re hself hb hs hl _ _ P3 B3 hp1 hp2
  ·simp only[]
   cases ieq h 1
   ·exact Re hself hb hs hl _ _ P3 B3 hp1 hp2
   ·simp only[]
    rw[AJk d3 a b hab b3 s3]
    obtain⟨q1,q2⟩:=partialInsertionSort_holds (lt:=ltX) Abo d3 a b hab b3 B3
    rcases hx:partialInsertionSort ltX d3 a b with⟨d4,fin⟩
    rw[hx]at q1 q2
    have P4:PermIn a b d d4:=permIn_trans _ _ _ a b P3 q1
    cases fin
    ·exact Re hself hb hs hl _ _ P4 (B3.perm b3 q1) hp1 hp2
    ·exact⟨_,rfl,d4,rfl,P4,q2 rfl⟩
theorem AWT(hself:Fc (S:=S) self (b-a))(hab:a+8≤b)(hb:b≤d.size)(hs:d.size<4294967296)(hl:0≤l∧l≤100)
  {d3:Array (EL S)} (wb wp:Bool) (P3:PermIn a b d d3) (B3:Below ltX a b d3) :
  ∃ o,(AJd S.z S.c) self (rep d3) (a:Int) (b:Int) l wb wp=some o∧AEP d a b o:=by
 have b3:b≤d3.size:=by rw[P3.1];exact hb
 have s3:d3.size<4294967296:=by rw[P3.1];exact hs
 rw[AJd]
 obtain⟨p,h,e,hp1,hp2⟩:=ASn d3 a b hab b3 s3
 simp only[e]
 cases ieq h 2
 ·exact AWU hself (by omega) hb hs hl h _ _ P3 B3 hp1 hp2
 ·simp only[AcT d3 a b (by omega) b3 s3]
  have q1:=reverseRange_holds (α:=(EL S)) d3 a b (by omega) b3
  simp (disch:=omega) only[BG,DV]
  exact AWU hself (by omega) hb hs hl 1 _ _ (permIn_trans _ _ _ a b P3 q1) (B3.perm b3 q1) (by omega) (by omega)
theorem AYx(hself:Fc (S:=S) self (b-a))(hab:a≤b)(hb:b≤d.size)(hs:d.size<4294967296)(hl:0≤l∧l≤100)(wb wp:Bool)(B:Below ltX a b d):
  ∃ o,(OQ S.z S.c) self ((rep d),(a:Int),(b:Int),l,wb,wp,())=some o∧AEP d a b o:=by
 rw[OQ]
 simp (disch:=omega) only[DV,Ar,B9]
 by_cases h12:b-a≤12
 ·rw[AjG (show((b-a:Nat):Int)≤12 by omega)]
  simp only[Adp d a b hab hb hs]
  obtain⟨q1,q2⟩:=insertionSort_holds (lt:=ltX) Abo d a b hab hb
  exact⟨_,rfl,_,rfl,q1,q2⟩
 ·rw[AjF (show ¬ ((b-a:Nat):Int)≤12 by omega)]
  simp only[]
  by_cases h0:l=0
  ·subst h0
   simp only[BEq.rfl,AZ6 d a b (by omega) hb hs]
   obtain⟨q1,q2⟩:=heapSort_holds (lt:=ltX) Abo d a b hab hb
   exact⟨_,rfl,_,rfl,q1,q2⟩
  ·rw[show(l==0)=false by simpa using h0]
   simp only[]
   cases wb
   ·obtain⟨d',e,q1⟩:=AVW d a b hab hb hs
    simp only[Aj2,e]
    rw[Ai (by omega)]
    exact AWT hself (by omega) hb hs (by omega) _ _ q1 (B.perm hb q1)
   ·simp only[AjT]
    exact AWT hself (by omega) hb hs hl _ _ (permIn_refl d a b) B
end
theorem ANV{self:(List α×Int×Int×Int×Unit)→Option ((List α×Unit))}{m:Nat}(hself:Fc (S:=S) self m):∀ (k:Nat) (d:Array (EL S)) (a b:Nat) (l:Int) (wb wp:Bool) (n:Nat),b-a=k→k≤m→a≤b→b≤d.size→d.size<4294967296→0≤l→l≤100→Below ltX a b d→k<n →
  ∃ R:Array (EL S),AX ((OQ S.z S.c) self) n ((rep d),(a:Int),(b:Int),l,wb,wp,())=some (.inl ((rep R),()))∧PermIn a b d R∧SortedIn ltX a b R:=by
 intro k
 induction k using Nat.strongRecOn with
 |_ k ih=>
 intro d a b l wb wp n hk hm hab hb hs hl1 hl2 B hn
 obtain⟨n,rfl⟩:∃ k,n=k+1:=⟨n-1,by omega⟩
 have hself':Fc (S:=S) self (b-a):=fun d a' b' l h1 h2 h3 h4 h5 h6 h7=>hself d a' b' l h1 h2 h3 h4 h5 h6 (by omega)
 obtain⟨o,e,ho⟩:=AYx hself' hab hb hs ⟨hl1,hl2⟩ wb wp B
 rw[AX,e]
 match o,ho with
 |.inl (xs,x,y,l',wb',wp',_),ho=>
  obtain⟨e',i,j,rfl,rfl,rfl,g1,g2,g3,g4,g5,g6,g7,hfin⟩:=ho
  obtain⟨R,e2,r1,r2⟩:=ih (j-i) (by omega) e' i j l' wb' wp' n rfl (by omega) g3 g4 (by omega) g1 g2 g7 (by omega)
  exact⟨R,e2,hfin R r1 r2⟩
 |.inr (.inl (xs,_)),ho=>
  obtain⟨R,rfl,r1,r2⟩:=ho
  exact⟨R,rfl,r1,r2⟩
theorem AYy:∀ k:Nat,Fc (S:=S) ((LD S.z S.c) (k+1)) (2 ^ k):=by
 intro k
 have hmany:4294967296<many:=by simp only[many];omega
 induction k with
 |zero=>
  intro d a b l h1 h2 h3 h4 h5 h6 h7
  have:Fc (S:=S) ((LD S.z S.c) 0) 0:=fun _ _ _ _ _ _ _ _ _ _ h=>by omega
  obtain⟨R,e,r1,r2⟩:=ANV this (b-a) d a b l true true many rfl (by omega) h1 h2 h3 h4 h5 h6 (by omega)
  refine⟨R,?_,r1,r2⟩
  rw[LD,ABX]
  simp only[Au,e]
 |succ k ih=>
  intro d a b l h1 h2 h3 h4 h5 h6 h7
  have hp:2 ^ (k+1)=2*2 ^ k:=by rw[Nat.pow_succ];omega
  obtain⟨R,e,r1,r2⟩:=ANV ih (b-a) d a b l true true many rfl (by omega) h1 h2 h3 h4 h5 h6 (by omega)
  refine⟨R,?_,r1,r2⟩
  rw[LD,ABX]
  simp only[Au,e]
theorem KK{α:Type}(S:SP α)(xs:List α)(h:xs.length<4294967296)(hok:∀ x∈xs,S.ok x):∃ ys,(AV3 S.z S.c) (xs,())=some (ys,())∧ys.Perm xs∧ys.Pairwise fun x y=>S.lt y x=false:=by
 obtain⟨d,rfl⟩:∃ d:Array (EL S),xs=rep d:=by
  refine⟨(xs.attach.map fun x=>⟨x.val,hok x.val x.property⟩).toArray,?_⟩
  simp only[rep,AmC]
  exact(List.attach_map_subtype_val xs).symm
 have hl:(rep d).length=d.size:=by simp[rep]
 rw[hl]at h
 rw[Abz,Q9]
 rw[AXJ,u64_in (by omega)]
 obtain⟨v,e,hv,_⟩:=Xy d.size h
 simp only[e]
 obtain⟨R,e2,r1,r2⟩:=AYy 99 d 0 d.size (v:Int) (by omega) (by omega) h (by omega) (by omega) (.inl rfl) (by
  have:2 ^ 99=633825300114114700748351602688:=by decide
  omega)
 have e3:(Aco S.z S.c) (rep d,(0:Int),(d.size:Int),(v:Int),())=some (rep R,()):=by rw[AgE];exact e2
 refine⟨rep R,by simp only[e3],?_,?_⟩
 ·obtain⟨hsz,_,hp⟩:=r1
  have e1:R.extract 0 d.size=R:=by rw[← hsz];exact Array.extract_size
  rw[e1,Array.extract_size]at hp
  exact hp.map _
 ·rw[rep,Akq,Akw]
  intro i j hi hj hij
  have hi':i<R.size:=by simpa using hi
  have hj':j<R.size:=by simpa using hj
  have:=r2 i j (AmN _) hij (by rw[← r1.1];omega)
  rw[getElem!_pos R j hj',getElem!_pos R i hi']at this
  simpa [ltX]using this
end Go.Pev.Pl.SG
end
section
namespace Go.Pev.Pl.SL
open Go.Sort
def ok(l:List Int):Prop:=l≠[]
def okz:List Int:=[0]
theorem UJ:ok okz:=by simp[ok,okz]
def lt(x y:List Int):Bool:=ltInt (x.headD 0) (y.headD 0)
theorem swo:SWO lt:=⟨fun x=>swo_ltInt.irrefl _,fun x y z=>swo_ltInt.trans _ _ _,fun x y z=>swo_ltInt.ntrans _ _ _⟩
theorem WQ{x y:List Int}(hx:ok x)(hy:ok y):∃ c,BP (x,y,())=some (c,())∧ilt c (0:Int)=lt x y:=by
 cases x with
 |nil=>exact absurd rfl hx
 |cons a x=>
  cases y with
  |nil=>exact absurd rfl hy
  |cons b y=>
   rw[ALu,Yw]
   have i1:idx (a::x) (0:Int)=some a:=by rw[idx_eq];rfl
   have i2:idx (b::y) (0:Int)=some b:=by rw[idx_eq];rfl
   simp only[i1,i2,G1,EZ,LJ,LK]
   simp only[B9,Ag,lt,AmB,ltInt]
   by_cases h:a<b
   ·simp[h]
   ·by_cases h2:b<a
    ·simp[h,h2]
    ·simp[h,h2]
noncomputable def S:SG.SP (List Int):=⟨([]:List (Int)),BP,ok,okz,UJ,lt,swo,fun h1 h2=>WQ h1 h2⟩
theorem KK(xs:List (List Int))(h:xs.length<4294967296)(hok:∀ x∈xs,ok x):∃ ys,AMb (xs,())=some (ys,())∧ys.Perm xs∧ys.Pairwise fun x y=>lt y x=false:=SG.KK S xs h hok
end Go.Pev.Pl.SL
end
end
section
namespace Go.Pev.Pl
abbrev Edge:=Int×Int×Unit
inductive Con(l:List Edge):Int→Int→Prop
 |refl (a:Int):Con l a a
 |edge (e:Edge):e∈l→Con l e.1 e.2.1
 |symm {a b:Int}:Con l a b→Con l b a
 |trans {a b c:Int}:Con l a b→Con l b c→Con l a c
theorem Con.mono{l l':List Edge}(h:∀ e∈l,∃ e'∈l',(e'.1=e.1∧e'.2.1=e.2.1)∨(e'.1=e.2.1∧e'.2.1=e.1)){a b:Int}(c:Con l a b):Con l' a b:=by
 induction c with
 |refl a=>exact .refl a
 |edge e he=>
  obtain⟨e',h1,h2|h2⟩:=h e he
  ·have:=Con.edge e' h1
   rw[h2.1,h2.2]at this
   exact this
  ·have:=Con.edge e' h1
   rw[h2.1,h2.2]at this
   exact this.symm
 |symm _ ih=>exact ih.symm
 |trans _ _ ih1 ih2=>exact ih1.trans ih2
theorem Con.snoc{l:List Edge}{e:Edge}{a b:Int}:Con (l++[e]) a b↔Con l a b∨(Con l a e.1∧Con l e.2.1 b)∨(Con l a e.2.1∧Con l e.1 b):=by
 constructor
 ·intro h
  induction h with
  |refl a=>exact .inl (.refl a)
  |edge e' he=>
   rcases AjL.1 he with h|h
   ·exact .inl (.edge e' h)
   ·simp only[Ajk]at h
    subst h
    exact .inr (.inl ⟨.refl _,.refl _⟩)
  |symm _ ih=>
   rcases ih with h|⟨h1,h2⟩|⟨h1,h2⟩
   ·exact .inl h.symm
   ·exact .inr (.inr ⟨h2.symm,h1.symm⟩)
   ·exact .inr (.inl ⟨h2.symm,h1.symm⟩)
  |trans _ _ ih1 ih2=>
   rcases ih1 with h|⟨h1,h2⟩|⟨h1,h2⟩
   ·rcases ih2 with g|⟨g1,g2⟩|⟨g1,g2⟩
    ·exact .inl (h.trans g)
    ·exact .inr (.inl ⟨h.trans g1,g2⟩)
    ·exact .inr (.inr ⟨h.trans g1,g2⟩)
   ·rcases ih2 with g|⟨g1,g2⟩|⟨g1,g2⟩
    ·exact .inr (.inl ⟨h1,h2.trans g⟩)
    ·exact .inr (.inl ⟨h1,g2⟩)
    ·exact .inl (h1.trans g2)
   ·rcases ih2 with g|⟨g1,g2⟩|⟨g1,g2⟩
    ·exact .inr (.inr ⟨h1,h2.trans g⟩)
    ·exact .inl (h1.trans g2)
    ·exact .inr (.inr ⟨h1,g2⟩)
 ·have up:∀ {x y},Con l x y→Con (l++[e]) x y:=fun h=>h.mono fun e' he=>⟨e',by simp[he],.inl ⟨rfl,rfl⟩⟩
  have he:Con (l++[e]) e.1 e.2.1:=.edge e (by simp)
  rintro (h|⟨h1,h2⟩|⟨h1,h2⟩)
  ·exact up h
  ·exact(up h1).trans (he.trans (up h2))
  ·exact(up h1).trans (he.symm.trans (up h2))
theorem Con.nil{a b:Int}(h:Con [] a b):a=b:=by
 induction h with
 |refl a=>rfl
 |edge e he=>cases he
 |symm _ ih=>exact ih.symm
 |trans _ _ ih1 ih2=>exact ih1.trans ih2
theorem Con.within{l:List Edge}{I:Int→Prop}(h:∀ e∈l,I e.1∧I e.2.1){a b:Int}(c:Con l a b):a=b∨(I a∧I b):=by
 induction c with
 |refl a=>exact .inl rfl
 |edge e he=>exact .inr (h e he)
 |symm _ ih=>
  rcases ih with h|h
  ·exact .inl h.symm
  ·exact .inr ⟨h.2,h.1⟩
 |trans _ _ ih1 ih2=>
  rcases ih1 with rfl|h1
  ·exact ih2
  ·rcases ih2 with rfl|h2
   ·exact .inr h1
   ·exact .inr ⟨h1.1,h2.2⟩
theorem Con.const{l:List Edge}{f:Int→Int}(h:∀ e∈l,f e.1=f e.2.1){a b:Int}(c:Con l a b):f a=f b:=by
 induction c with
 |refl a=>rfl
 |edge e he=>exact h e he
 |symm _ ih=>exact ih.symm
 |trans _ _ ih1 ih2=>exact ih1.trans ih2
end Go.Pev.Pl
end
section
section
namespace Go.Pev.Pl
open Tok
def Cs{α:Type}(P:Nat→Bool):Nat→List α→List α
 |_,[]=>[]
 |i,x::xs=>if P i then Cs P (i+1) xs else x::Cs P (i+1) xs
theorem APu{α:Type}(P:Nat→Bool):∀ (xs:List α) (s:Nat),(∀ k,s≤k→P k=false)→Cs P s xs=xs:=by
 intro xs
 induction xs with
 |nil=>intro s _;rfl
 |cons x xs ih=>
  intro s h
  rw[Cs,h s (AjO _),ih (s+1) fun k hk=>h k (by omega)]
  rfl
theorem AUr{α:Type}(P:Nat→Bool)(i:Nat):∀ (xs:List α) (s:Nat),s≤i→(∀ k,s≤k→P k=decide (k=i))→Cs P s xs=xs.eraseIdx (i-s):=by
 intro xs
 induction xs with
 |nil=>intro s _ _;rfl
 |cons x xs ih=>
  intro s hs h
  rw[Cs,h s (AjO _)]
  by_cases e:s=i
  ·subst e
   rw[APu P xs (s+1) fun k hk=>by rw[h k (by omega)];simp;omega]
   simp
  ·rw[ih (s+1) (by omega) fun k hk=>h k (by omega)]
   rw[AjF e,AjQ (by simp),show i-s=(i-(s+1))+1 by omega,All]
theorem Lq{α:Type}(P:Nat→Bool)(i j:Nat)(hij:i<j):∀ (xs:List α) (s:Nat),s≤i→(∀ k,s≤k→P k=decide (k=i∨k=j))→Cs P s xs=(xs.eraseIdx (j-s)).eraseIdx (i-s):=by
 intro xs
 induction xs with
 |nil=>intro s _ _;rfl
 |cons x xs ih=>
  intro s hs h
  rw[Cs,h s (AjO _)]
  by_cases e:s=i
  ·subst e
   rw[AUr P j xs (s+1) (by omega) fun k hk=>by rw[h k (by omega)];exact AlN.2 ⟨fun q=>by omega,fun q=>.inr q⟩]
   rw[AjG (.inl rfl),AjP rfl,show j-s=(j-(s+1))+1 by omega,All,Ak4,List.eraseIdx_zero]
   rfl
  ·rw[ih (s+1) (by omega) fun k hk=>h k (by omega)]
   rw[AjF (by omega),AjQ (by simp),show j-s=(j-(s+1))+1 by omega,All,show i-s=(i-(s+1))+1 by omega,All]
theorem APv{α:Type}(P:Nat→Bool):∀ (xs:List α) (acc:List α) (k:Nat),(xs.foldl (fun(a:List α×Nat) x=>(if P a.2 then a.1 else a.1++[x],a.2+1)) (acc,k)).1=acc++Cs P k xs:=by
 intro xs
 induction xs with
 |nil=>intro acc k;simp[Cs]
 |cons x xs ih=>
  intro acc k
  rw[Ajt,ih,Cs]
  cases P k<;>simp
theorem AUs{α:Type}(P:Nat→Bool):∀ (xs:List α) (k:Nat),(Cs P k xs).length≤xs.length∧∀ x∈Cs P k xs,x∈xs:=by
 intro xs
 induction xs with
 |nil=>intro k;simp[Cs]
 |cons x xs ih=>
  intro k
  obtain⟨h1,h2⟩:=ih (k+1)
  rw[Cs]
  split
  ·exact⟨by simp only[AjR];omega,fun y hy=>Ajh _ (h2 y hy)⟩
  ·refine⟨by simp only[AjR];omega,fun y hy => ?_⟩
   rcases AjN.1 hy with rfl|hy
   ·simp
   ·exact Ajh _ (h2 y hy)
theorem AGB(n:Int)(rings:List (List Int))(away:List Int)(come:List (List Int))(hlen:rings.length<1073741824)(ha:away.length<1073741824)(hc:come.length<1073741824)
  (hne:∀ l∈rings,l≠[]) (hce:∀ r∈come,plain r≠[]) :
  ∃ ys,AL8 ((n,(rings,())),away,come,())=some (n,ys,())∧ys.Perm (Cs (fun k=>decide ((k:Int)∈away)) 0 rings++come.map plain)∧ys.Pairwise (fun a b=>¬ hd b<hd a):=by
 rw[AL7,Yx]
 have e:=Bn (step:=Hn) (fun i (a:List (List Int)×Nat)=>(away,come,n,rings,(0:Int),a.1,rings,AG rings,(i:Int),())) rings
  (fun x a=>.inl (if decide ((a.2:Int)∈away)then a.1 else a.1++[x],a.2+1)) (fun a=>.inl (come,n,rings,(0:Int),a.1,())) (fun i a=>a.2=i∧a.1.length≤i) (by omega)
  (fun i x a hi hx ⟨h1,h2⟩=>by
   refine⟨fun m' h' => ?_,fun r h'=>by cases h'⟩
   cases h'
   subst h1
   rw[Hn,AK,AL,AjG hi]
   simp only[Ae hx,J5 away _ (show away.length<9223372036854775808 by omega)]
   rw[AM (by omega),BK (by simp only[AK,AjR,Aji];omega)]
   by_cases h:(a.2:Int)∈away
   ·simp only[h,AjV,AjT,Ajw]
    exact⟨by trivial,by trivial,by omega⟩
   ·simp only[h,Ajj,Aj2]
    exact⟨by trivial,by trivial,by simp;omega⟩)
  (fun a _=>by rw[Hn,AK,AL,AjF (by omega)]) ([],0) ⟨rfl,by simp⟩
 have e':AS Hn many (away,come,n,rings,(0:Int),[],rings,AG rings,(0:Int),())=_:=e
 rw[e',A0]
 have hdf:(rings.foldl (fun(a:List (List Int)×Nat) x=>(if decide ((a.2:Int)∈away)then a.1 else a.1++[x],a.2+1)) ([],0)).1=Cs (fun k=>decide ((k:Int)∈away)) 0 rings:=by
  have:=APv (fun k=>decide ((k:Int)∈away)) rings [] 0
  rw[Ajs]at this
  exact this
 simp only[hdf]
 obtain⟨g1,g2⟩:=AUs (fun k=>decide ((k:Int)∈away)) rings 0
 generalize Cs (fun k=>decide ((k:Int)∈away)) 0 rings=rest at *
 have f:=Bn (step:=Hm) (fun i (a:List (List Int))=>(n,rings,(0:Int),a,come,AG come,(i:Int),())) come
  (fun x a=>.inl (a++[plain x])) (fun a=>.inl (n,rings,(0:Int),a,())) (fun i a=>a.length=rest.length+i) (by omega)
  (fun i x a hi hx h1=>by
   refine⟨fun m' h' => ?_,fun r h'=>by cases h'⟩
   cases h'
   rw[Hm,AK,AL,AjG hi]
   simp only[Ae hx,AR8]
   rw[AM (by omega),BK (by simp only[AK,AjR,Aji];omega)]
   exact⟨rfl,by simp;omega⟩)
  (fun a _=>by rw[Hm,AK,AL,AjF (by omega)]) rest rfl
 have f':AS Hm many (n,rings,(0:Int),rest,come,AG come,(0:Int),())=_:=f
 rw[f',A0]
 have hfold:∀ (l acc:List (List Int)),l.foldl (fun a x=>a++[plain x]) acc=acc++l.map plain:=by
  intro l
  induction l with
  |nil=>intro acc;simp
  |cons x l ih=>intro acc;rw[Ajt,ih];simp
 simp only[hfold]
 obtain⟨ys,y1,y2,y3⟩:=SL.KK (rest++come.map plain) (by simp;omega) (fun x hx=>by
  rcases AjL.1 hx with h|h
  ·exact hne x (g2 x h)
  ·obtain⟨r,hr,rfl⟩:=Aja.1 h
   exact hce r hr)
 refine⟨ys,by simp only[y1],y2,y3.imp fun {a b} h => ?_⟩
 simp only[SL.lt,Go.Sort.ltInt,AkA]at h
 exact h
def AA6(rest:List (List Int))(p:List Int):List (List Int):=rest.take (rest.findIdx fun x => !decide (hd x<hd p))++p::rest.drop (rest.findIdx fun x => !decide (hd x<hd p))
theorem AGs(rest:List (List Int))(p:List Int):(AA6 rest p).Perm (p::rest):=by
 rw[AA6]
 refine List.perm_middle.trans ?_
 rw[AkF]
theorem AWR{rest:List (List Int)}{p:List Int}(h:rest.Pairwise (fun a b=>hd a<hd b))(hne:∀ x∈rest,hd x≠hd p):(AA6 rest p).Pairwise (fun a b=>hd a<hd b):=by
 rw[AA6]
 have hlt:∀ x∈rest.take (rest.findIdx fun x => !decide (hd x<hd p)),hd x<hd p:=by
  intro x hx
  obtain⟨j,hj,e⟩:=AlP.1 hx
  have:=List.not_of_lt_findIdx (p:=fun x => !decide (hd x<hd p)) (xs:=rest) (i:=j) (by omega)
  rw[e]at this
  simpa using this
 have hgt:∀ x∈rest.drop (rest.findIdx fun x => !decide (hd x<hd p)),hd p<hd x:=by
  intro x hx
  by_cases hk:(rest.findIdx fun x => !decide (hd x<hd p))<rest.length
  ·have h0:=List.findIdx_getElem (p:=fun x => !decide (hd x<hd p)) (xs:=rest) (w:=hk)
   rw[AkC hk]at hx
   have h1:¬ hd rest[rest.findIdx fun x => !decide (hd x<hd p)]<hd p:=by simpa using h0
   have h2:=hne _ (AkY hk)
   rcases AjN.1 hx with rfl|hx
   ·omega
   ·have hpw:(rest.drop (rest.findIdx fun x => !decide (hd x<hd p))).Pairwise (fun a b=>hd a<hd b):=h.sublist (List.drop_sublist _ _)
    rw[AkC hk,Aj9]at hpw
    have:=hpw.1 x hx
    omega
  ·rw[AkZ (by omega)]at hx
   cases hx
 rw[Al0,Aj9]
 refine⟨h.sublist (List.take_sublist _ _),⟨hgt,h.sublist (List.drop_sublist _ _)⟩,fun a ha b hb => ?_⟩
 rcases AjN.1 hb with rfl|hb
 ·exact hlt a ha
 ·have:=hlt a ha
  have:=hgt b hb
  omega
theorem AW2{l:List Int}(h:l≠[]):idx l (0:Int)=some (hd l):=by
 cases l with
 |nil=>exact absurd rfl h
 |cons x l=>rw[Gy];rfl
theorem Aef(l:List Int):AY l 0 (0:Int)=hd l:=by cases l<;>rfl
end Go.Pev.Pl
end
section
namespace Go.Pev.Pl
open Tok
theorem ALW{n u v:Int}(h:okT n (.arc u v)):n≤EB n u v:=by rw[FZ h];exact(ZF h.1 h.2.1).1
def BF(n:Int)(A B:List Int)(u v:Int):List Int:=u::EB n u v::(A6 B v++EB n v u::(A6 A u).tail)
theorem OT{n u v:Int}{A B:List Int}(hA:TI n A)(hB:TI n B)(hu:u∈A)(hv:v∈B)(iu:In n u)(iv:In n v)(hd:Dis n A B):
  TI n (BF n A B u v)∧A6 A u=u::(A6 A u).tail∧(∀ t,t<n→(t∈BF n A B u v↔t∈A∨t∈B))∧u≠v∧okT n (.arc u v):=by
 obtain⟨a,a1,a2,a3⟩:=AQb hA (t:=.ver u) iu hu
 obtain⟨b,b1,b2,b3⟩:=AQb hB (t:=.ver v) iv hv
 have a1':A6 A u=(Tok.ver u::a).map (Dg n):=a1
 have b1':A6 B v=(Tok.ver v::b).map (Dg n):=b1
 have huv:u≠v:=by rintro rfl;exact hd u hu iu.2.2.2 hv
 have ho:okT n (.arc u v):=⟨iu,iv,huv⟩
 have pA:=(Cg hu).perm
 have pB:=(Cg hv).perm
 have ht:A6 A u=u::(A6 A u).tail:=by rw[a1'];rfl
 have hall:BF n A B u v=(Tok.ver u :: .arc u v::(.ver v::b ++ .arc v u::a)).map (Dg n):=by
  rw[BF,a1',b1',FZ ho,FZ (FD ho)]
  simp[Dg]
 refine⟨⟨_,hall,fun t ht => ?_,T.join a2 b2 fun x hx hx2 => ?_⟩,ht,fun t ht2 => ?_,huv,ho⟩
 ·rcases AjN.1 ht with rfl|ht
  ·exact iu
  ·rcases AjN.1 ht with rfl|ht
   ·exact ho
   ·rcases AjL.1 ht with ht|ht
    ·exact b3 t ht
    ·rcases AjN.1 ht with rfl|ht
     ·exact FD ho
     ·exact a3 t (Ajh _ ht)
 ·have ix:=a3 _ hx
  have x1:x∈A:=pA.mem_iff.2 (by rw[a1'];exact Aja.2 ⟨_,hx,rfl⟩)
  have x2:x∈B:=pB.mem_iff.2 (by rw[b1'];exact Aja.2 ⟨_,hx2,rfl⟩)
  exact hd x x1 ix.2.2.2 x2
 ·have g1:=ALW ho
  have g2:=ALW (FD ho)
  have e1:t∈A↔t=u∨t∈(A6 A u).tail:=by rw[pA.mem_iff,ht,AjN,AlO]
  rw[BF,AjN,AjN,AjL,AjN,e1,← pB.mem_iff]
  constructor
  ·rintro (h|h|h|h|h)
   ·exact .inl (.inl h)
   ·omega
   ·exact .inr h
   ·omega
   ·exact .inl (.inr h)
  ·rintro ((h|h)|h)
   ·exact .inl h
   ·exact .inr (.inr (.inr (.inr h)))
   ·exact .inr (.inr (.inl h))
theorem Kf{n:Int}{a b:List (List Int)}(h:a.Perm b)(ha:a.Pairwise (Dis n)):b.Pairwise (Dis n):=(h.pairwise_iff fun {_ _} hh=>hh.symm).1 ha
theorem AXT{n:Int}{rings rest zs:List (List Int)}{A B p:List Int}(h:FR n rings)(hp:rings.Perm (A::B::rest))(hg:RG n p)(hm:∀ t,t<n→(t∈p↔t∈A∨t∈B))(hz:zs.Perm (p::rest))(hu:zs.Pairwise (fun a b=>hd a<hd b)):FR n zs:=by
 have hd0:=Kf hp h.dis
 rw[Aj9,Aj9]at hd0
 obtain⟨h1,h2,h3⟩:=hd0
 refine⟨h.sz,fun l hl => ?_,hu,Kf hz.symm ?_,fun v hv => ?_⟩
 ·rcases AjN.1 (hz.mem_iff.1 hl)with rfl|hl
  ·exact hg
  ·exact h.rg l (hp.mem_iff.2 (by simp[hl]))
 ·rw[Aj9]
  refine⟨fun r hr t ht htn => ?_,h3⟩
  rcases(hm t htn).1 ht with g|g
  ·exact h1 r (by simp[hr]) t g htn
  ·exact h2 r hr t g htn
 ·obtain⟨l,hl,hvl⟩:=h.cov v hv
  have:=hp.mem_iff.1 hl
  simp only[AjN]at this
  rcases this with rfl|rfl|g
  ·exact⟨p,hz.mem_iff.2 (by simp),(hm v hv.2.2.2).2 (.inl hvl)⟩
  ·exact⟨p,hz.mem_iff.2 (by simp),(hm v hv.2.2.2).2 (.inr hvl)⟩
  ·exact⟨l,hz.mem_iff.2 (by simp[g]),hvl⟩
theorem Hh(n:Int)(rings:List (List Int))(u v:Int)(hD:Dom rings):asked ((n,(rings,())),u,v,())=some (if RF n rings then if In n u∧In n v then 0 else 10 else 1,()):=by
 rw[AQS,ZH]
 simp only[Pa n rings hD.1 hD.2,Y1]
 by_cases h:RF n rings
 ·by_cases h1:In n u
  ·by_cases h2:In n v<;>simp[h,h1,h2]
  ·simp[h,h1]
 ·simp[h]
theorem Ady(a b:Nat):imax (a:Int) (b:Int)=((max a b:Nat):Int):=by rw[imax];split<;>omega
theorem Adx(a b:Nat):Ci (a:Int) (b:Int)=((min a b:Nat):Int):=by rw[Ci];split<;>omega
theorem Agd{n:Int}{rings:List (List Int)}{u v:Int}{i j:Nat}{A B:List Int}(h:FR n rings)(iu:In n u)(iv:In n v)(hi:rings[i]? = some A)(hj:rings[j]? = some B)(hu:u∈A)(hv:v∈B)(hij:i≠j):
  ∃ zs rest,Mq ((n,(rings,())),u,v,())=some (n,zs,0,())∧FR n zs∧rings.Perm (A::B::rest)∧zs.Perm (plain (BF n A B u v)::rest)∧Dis n A B:=by
 have hD:=h.dom
 have hRF:=L5.2 h
 have rA:=h.rg A (AjW hi)
 have rB:=h.rg B (AjW hj)
 have hil:=(AkO.1 hi).1
 have hjl:=(AkO.1 hj).1
 have pu:plc rings u=(i:Int):=h.AJX hi iu.2.2.2 hu
 have pv:plc rings v=(j:Int):=h.AJX hj iv.2.2.2 hv
 have hperm:rings.Perm (A::B::(rings.eraseIdx (max i j)).eraseIdx (min i j)):=by
  rcases AmG hij with g|g
  ·rw[Alk (by omega),AkT (by omega)]
   exact JM g hi hj
  ·rw[Aln (by omega),Al2 (by omega)]
   exact(JM g hj hi).trans (List.Perm.swap _ _ _)
 have hdis:Dis n A B:=by
  have:=Kf hperm h.dis
  rw[Aj9]at this
  exact this.1 B (by simp)
 obtain⟨l1,l2,l3,huv,ho⟩:=OT rA.2.2.2 rB.2.2.2 hu hv iu iv hdis
 obtain⟨hRG,hrot⟩:=AEO l1
 have hall:BF n A B u v=u::EB n u v::(A6 B v++EB n v u::(A6 A u).tail):=rfl
 have lA:(A6 A u).length≤1000:=by rw[← (Cg hu).perm.length_eq];exact rA.1.1
 have lB:(A6 B v).length≤1000:=by rw[← (Cg hv).perm.length_eq];exact rB.1.1
 have hsub:((rings.eraseIdx (max i j)).eraseIdx (min i j)).Sublist rings:=(Alw _ _).trans (Alw _ _)
 have hdrop:Cs (fun k=>decide ((k:Int)∈[(i:Int),(j:Int)])) 0 rings=(rings.eraseIdx (max i j)).eraseIdx (min i j):=by
  rcases AmG hij with g|g
  ·rw[Alk (by omega),AkT (by omega)]
   exact Lq _ i j g rings 0 (by omega) fun k _=>AlN.2 (by simp only[AjN,AlC,Alo];omega)
  ·rw[Aln (by omega),Al2 (by omega)]
   exact Lq _ j i g rings 0 (by omega) fun k _=>AlN.2 (by simp only[AjN,AlC,Alo];omega)
 have hrl:((rings.eraseIdx (max i j)).eraseIdx (min i j)).length≤rings.length:=hsub.length_le
 generalize (rings.eraseIdx (max i j)).eraseIdx (min i j)=rest at *
 have hupr:rest.Pairwise (fun a b=>hd a<hd b):=h.up.sublist hsub
 have hner:∀ l∈rest,l≠[]:=fun l hl=>(h.rg l (hsub.subset hl)).2.1
 have hdd:=Kf hperm h.dis
 rw[Aj9,Aj9]at hdd
 have hheads:∀ x∈rest,hd x≠hd (plain (BF n A B u v)):=by
  intro x hx e
  have g1:=Oq hRG
  have g2:=(l3 _ g1.2.2.2).1 (hrot.perm.mem_iff.2 (VY hRG.2.1))
  have g3:hd (plain (BF n A B u v))∈x:=e▸VY (hner x hx)
  rcases g2 with g|g
  ·exact hdd.1 x (by simp[hx]) _ g g1.2.2.2 g3
  ·exact hdd.2.1 x hx _ g g1.2.2.2 g3
 have hup:=AWR hupr hheads
 have hpz:=AGs rest (plain (BF n A B u v))
 refine⟨AA6 rest (plain (BF n A B u v)),rest,?_,AXT h hperm hRG (fun t ht=>by rw[← hrot.perm.mem_iff];exact l3 t ht) hpz hup,hperm,hpz,hdis⟩
 ·obtain⟨ys,y1,y2,y3⟩:=AGB n rings [(i:Int),(j:Int)] [BF n A B u v] hD.1 (by simp) (by simp) (fun l hl=>(h.rg l hl).2.1) (by simp;exact hRG.2.1)
  have hys:ys=AA6 rest (plain (BF n A B u v)):=by
   refine XD hup (y2.trans ?_) y3
   rw[hdrop]
   exact(Ak7 (l₁:=rest) (l₂:=[plain (BF n A B u v)])).trans hpz.symm
  rw[hys]at y1
  rw[Hu,HK]
  have s1:Ce (A6 A u) (0:Int) (1:Int)=some [u]:=by
   have:=AIg (xs:=A6 A u) (l:=0) (h:=1) (by omega) (by rw[l2];simp)
   rw[l2]at this ⊢
   exact this
  have s2:Ce (A6 A u) (1:Int) (AG (A6 A u))=some (A6 A u).tail:=by
   have:=Gq (xs:=A6 A u) (l:=1) (by rw[l2];simp)
   rw[AlK]at this
   exact this
  have d1:DK 0 (AN (AG [u])) (A6 A u)=[u]:=by rw[l2];rfl
  have d2:DK 1 (AN (AG (A6 A u).tail)) (A6 A u)=(A6 A u).tail:=by
   rw[DK,AK,GF,AlK,Akv]
  have hcat:JQ ([[u],[EB n u v],A6 B v,[EB n v u],(A6 A u).tail],())=some (BF n A B u v,()):=by
   rw[Nr _ (by simp) (by simp;omega)]
   simp[BF]
  have ne:((i:Int))≠(j:Int):=by omega
  simp only[Hh n rings u v hD,hRF,iu,iv,and_self,Ajw,An,Hr n rings _ hD.1 (fun l hl=>(hD.2 l hl).1),pu,pv,ne,AjV,Ajj,AjT,Ae hi,Ae hj,AGn,JI,rA.1,rB.1,hu,hv,s1,s2,AMT,d1,d2,hcat,y1]
theorem AT3{n:Int}{rings:List (List Int)}{u v:Int}(h:FR n rings)(iu:In n u)(iv:In n v)(hp:plc rings u=plc rings v):
  Mq ((n,(rings,())),u,v,())=some (n,rings,5,()):=by
 have hD:=h.dom
 have hRF:=L5.2 h
 rw[Hu,HK]
 simp only[Hh n rings u v hD,hRF,iu,iv,and_self,Ajw,An,Hr n rings _ hD.1 (fun l hl=>(hD.2 l hl).1),hp,AjV,AjT]
end Go.Pev.Pl
end
section
namespace Go.Pev.Pl
open Tok
def Qe(rings:List (List Int))(a b:Int):Prop:=∃ A∈rings,a∈A∧b∈A
structure FC(n:Int)(rings:List (List Int))(l:List Edge):Prop where
 fr:FR n rings
 sam:∀ a b,In n a→In n b→(Qe rings a b↔Con l a b)
 arcs:∀ A∈rings,∀ u v,okT n (.arc u v)→EB n u v∈A→∃ e∈l,(e.1=u∧e.2.1=v)∨(e.1=v∧e.2.1=u)
theorem FR.AcH{n:Int}{rings:List (List Int)}(h:FR n rings){a b:Int}(ia:In n a)(ib:In n b):plc rings a=plc rings b↔Qe rings a b:=by
 obtain⟨i,A,pa,hi,ha,_⟩:=M8 (h.cov a ia)
 obtain⟨j,B,pb,hj,hb,_⟩:=M8 (h.cov b ib)
 rw[pa,pb]
 constructor
 ·intro e
  have:i=j:=by omega
  subst this
  rw[hi]at hj
  cases hj
  exact⟨A,AjW hi,ha,hb⟩
 ·rintro⟨K,hK,h1,h2⟩
  obtain⟨k,hk⟩:∃ k:Nat,rings[k]? = some K:=by
   obtain⟨k,hk,rfl⟩:=Akx hK
   exact⟨k,AjM hk⟩
  rw[h.uniq hi hk ia.2.2.2 ha h1,h.uniq hj hk ib.2.2.2 hb h2]
theorem FR.one{n:Int}{rings:List (List Int)}(h:FR n rings){A B:List Int}(hA:A∈rings)(hB:B∈rings){v:Int}(iv:v<n)(h1:v∈A)(h2:v∈B):A=B:=by
 obtain⟨i,hi,rfl⟩:=Akx hA
 obtain⟨j,hj,rfl⟩:=Akx hB
 have:=h.uniq (AjM hi) (AjM hj) iv h1 h2
 subst this
 rfl
theorem Qe.perm{a b:List (List Int)}(h:a.Perm b)(x y:Int):Qe a x y↔Qe b x y:=by
 constructor
 ·rintro⟨A,hA,h1⟩;exact⟨A,h.mem_iff.1 hA,h1⟩
 ·rintro⟨A,hA,h1⟩;exact⟨A,h.mem_iff.2 hA,h1⟩
theorem AZl{n u v x y:Int}{A B:List Int}(hA:TI n A)(hB:TI n B)(hu:u∈A)(hv:v∈B)(iu:In n u)(iv:In n v)(hd:Dis n A B)(ho:okT n (.arc x y))(h:EB n x y∈BF n A B u v):EB n x y∈A∨EB n x y∈B∨(x=u∧y=v)∨(x=v∧y=u):=by
 obtain⟨_,l2,_,huv,ho2⟩:=OT hA hB hu hv iu iv hd
 have pA:=(Cg hu).perm
 have pB:=(Cg hv).perm
 have g:=ALW ho
 rw[BF,AjN,AjN,AjL,AjN]at h
 rcases h with h|h|h|h|h
 ·have:=iu.2.2.2;omega
 ·rw[FZ ho,FZ ho2]at h
  have:=Gi ho ho2 h
  cases this
  exact .inr (.inr (.inl ⟨rfl,rfl⟩))
 ·exact .inr (.inl (pB.mem_iff.2 h))
 ·rw[FZ ho,FZ (FD ho2)]at h
  have:=Gi ho (FD ho2) h
  cases this
  exact .inr (.inr (.inr ⟨rfl,rfl⟩))
 ·refine .inl (pA.mem_iff.2 ?_)
  rw[l2]
  exact Ajh _ h
theorem AXU{n:Int}{rings:List (List Int)}{l:List Edge}{e:Edge}(h:FC n rings l)(iu:In n e.1)(iv:In n e.2.1):
  ∃ zs q,Mq ((n,(rings,())),e.1,e.2.1,())=some (n,zs,q,())∧FC n zs (l++[e])∧(q=0∧zs.length+1=rings.length∨q=5∧zs=rings):=by
 have hF:=h.fr
 obtain⟨i,A,pu,hi,hu,_⟩:=M8 (hF.cov _ iu)
 obtain⟨j,B,pv,hj,hv,_⟩:=M8 (hF.cov _ iv)
 have mA:=AjW hi
 have mB:=AjW hj
 by_cases hij:i=j
 ·have hpe:plc rings e.1=plc rings e.2.1:=by rw[pu,pv,hij]
  refine⟨rings,5,AT3 hF iu iv hpe,⟨hF,fun a b ia ib => ?_,fun A hA u v ho hm => ?_⟩,.inr ⟨rfl,rfl⟩⟩
  ·rw[h.sam a b ia ib,Con.snoc]
   have hc:Con l e.1 e.2.1:=(h.sam _ _ iu iv).1 ((hF.AcH iu iv).1 hpe)
   constructor
   ·exact .inl
   ·rintro (g|⟨g1,g2⟩|⟨g1,g2⟩)
    ·exact g
    ·exact g1.trans (hc.trans g2)
    ·exact g1.trans (hc.symm.trans g2)
  ·obtain⟨e',h1,h2⟩:=h.arcs A hA u v ho hm
   exact⟨e',by simp[h1],h2⟩
 ·obtain⟨zs,rest,q1,q3,q4,q5,q6⟩:=Agd hF iu iv hi hj hu hv hij
  have gA:=hF.rg A mA
  have gB:=hF.rg B mB
  obtain⟨l1,l2,l3,huv,ho⟩:=OT gA.2.2.2 gB.2.2.2 hu hv iu iv q6
  obtain⟨hRG,hrot⟩:=AEO l1
  have len1:=q4.length_eq
  have len2:=q5.length_eq
  simp only[AjR]at len1 len2
  refine⟨zs,0,q1,⟨q3,fun a b ia ib => ?_,fun K hK x y hxy hm => ?_⟩,.inl ⟨rfl,by omega⟩⟩
  ·rw[Qe.perm q5,Con.snoc,← h.sam a b ia ib,← h.sam a _ ia iu,← h.sam _ b iv ib,← h.sam a _ ia iv,← h.sam _ b iu ib]
   have pmem:∀ x,In n x→(x∈plain (BF n A B e.1 e.2.1)↔x∈A∨x∈B):=fun x ix=>by rw[← hrot.perm.mem_iff];exact l3 x ix.2.2.2
   have sA:∀ x,In n x→(Qe rings x e.1↔x∈A):=fun x ix=>by
    constructor
    ·rintro⟨K,hK,h1,h2⟩
     rw[hF.one mA hK iu.2.2.2 hu h2];exact h1
    ·intro hx;exact⟨A,mA,hx,hu⟩
   have sB:∀ x,In n x→(Qe rings x e.2.1↔x∈B):=fun x ix=>by
    constructor
    ·rintro⟨K,hK,h1,h2⟩
     rw[hF.one mB hK iv.2.2.2 hv h2];exact h1
    ·intro hx;exact⟨B,mB,hx,hv⟩
   have sy:∀ x y,Qe rings x y↔Qe rings y x:=fun x y=>⟨fun ⟨K,a,b,c⟩=>⟨K,a,c,b⟩,fun ⟨K,a,b,c⟩=>⟨K,a,c,b⟩⟩
   rw[sA a ia,sB a ia,sy e.2.1 b,sB b ib,sy e.1 b,sA b ib]
   have hs:Qe rings a b↔(a∈A∧b∈A)∨(a∈B∧b∈B)∨∃ K∈rest,a∈K∧b∈K:=by
    rw[Qe.perm q4]
    simp only[Qe,AjN,exists_eq_or_imp]
   have hz:Qe (plain (BF n A B e.1 e.2.1)::rest) a b↔((a∈A∨a∈B)∧(b∈A∨b∈B))∨∃ K∈rest,a∈K∧b∈K:=by
    simp only[Qe,AjN,exists_eq_or_imp,pmem a ia,pmem b ib]
   rw[hs,hz]
   constructor
   ·rintro (⟨h1|h1,h2|h2⟩|h)
    ·exact .inl (.inl ⟨h1,h2⟩)
    ·exact .inr (.inl ⟨h1,h2⟩)
    ·exact .inr (.inr ⟨h1,h2⟩)
    ·exact .inl (.inr (.inl ⟨h1,h2⟩))
    ·exact .inl (.inr (.inr h))
   ·rintro ((⟨h1,h2⟩|⟨h1,h2⟩|h)|⟨h1,h2⟩|⟨h1,h2⟩)
    ·exact .inl ⟨.inl h1,.inl h2⟩
    ·exact .inl ⟨.inr h1,.inr h2⟩
    ·exact .inr h
    ·exact .inl ⟨.inl h1,.inr h2⟩
    ·exact .inl ⟨.inr h1,.inl h2⟩
  ·have old:∀ K∈rings,EB n x y∈K→∃ e'∈l++[e],(e'.1=x∧e'.2.1=y)∨(e'.1=y∧e'.2.1=x):=fun K hK hm=>by
    obtain⟨e',h1,h2⟩:=h.arcs K hK x y hxy hm
    exact⟨e',by simp[h1],h2⟩
   rcases AjN.1 (q5.mem_iff.1 hK)with rfl|hK
   ·rcases AZl gA.2.2.2 gB.2.2.2 hu hv iu iv q6 hxy (hrot.perm.mem_iff.2 hm)with g|g|⟨g1,g2⟩|⟨g1,g2⟩
    ·exact old A mA g
    ·exact old B mB g
    ·exact⟨e,by simp,.inl ⟨g1.symm,g2.symm⟩⟩
    ·exact⟨e,by simp,.inr ⟨g2.symm,g1.symm⟩⟩
   ·exact old K (q4.mem_iff.2 (by simp[hK])) hm
theorem AES{N:Nat}(h1:1≤N)(h2:N≤64):FC (N:Int) (BT N) []:=by
 have hS:∀ A∈BT N,∃ k:Nat,k<N∧A=[(k:Int)]:=fun A hA=>by
  simp only[BT,Aja,AkB]at hA
  obtain⟨k,hk,rfl⟩:=hA
  exact⟨k,hk,rfl⟩
 have key:∀ k,k<N→In (N:Int) (k:Int):=fun k hk=>⟨by omega,by omega,by omega,by omega⟩
 refine⟨⟨⟨by omega,by omega⟩,fun l hl => ?_,?_,?_,fun v hv => ?_⟩,fun a b ia ib => ?_,fun A hA u v ho hm => ?_⟩
 ·obtain⟨k,hk,rfl⟩:=hS l hl
  refine⟨⟨by simp,fun x hx => ?_,by simp⟩,by simp,rfl,(Ae8 (N:Int) k).2 (key k hk)⟩
  simp only[Ajk]at hx
  omega
 ·rw[BT,Akq]
  exact List.pairwise_lt_range.imp fun h=>by simp only[hd,AmB];omega
 ·rw[BT,Akq]
  exact List.pairwise_lt_range.imp fun {a b} h t ht _ ht2=>by
   simp only[Ajk]at ht ht2
   omega
 ·obtain⟨k,rfl⟩:=AjU hv.2.2.1
  have:=hv.2.2.2
  exact⟨[(k:Int)],by simp only[BT,Aja,AkB];exact⟨k,by omega,rfl⟩,by simp⟩
 ·constructor
  ·rintro⟨A,hA,h1,h2⟩
   obtain⟨k,_,rfl⟩:=hS A hA
   simp only[Ajk]at h1 h2
   rw[h1,h2]
   exact .refl _
  ·intro hc
   have:=hc.nil
   subst this
   obtain⟨k,rfl⟩:=AjU ia.2.2.1
   have:=ia.2.2.2
   exact⟨[(k:Int)],by simp only[BT,Aja,AkB];exact⟨k,by omega,rfl⟩,by simp,by simp⟩
 ·obtain⟨k,hk,rfl⟩:=hS A hA
  simp only[Ajk]at hm
  have:=ALW ho
  omega
theorem ADN(l:List Edge)(hs:l.length<1073741824):ends (l,())=some (l.flatMap fun e=>[e.1,e.2.1],()):=by
 rw[AXI,AK0]
 have e:=Bn (step:=Lo) (fun i (a:List Int)=>(a,l,AG l,(i:Int),())) l (fun x a=>.inl (a++[x.1,x.2.1])) (fun a=>.inl (a,())) (fun i a=>a.length=2*i) (by omega)
  (fun i x a hi hx h1=>by
   refine⟨fun m' h' => ?_,fun r h'=>by cases h'⟩
   cases h'
   rw[Lo,AK,AL,AjG hi]
   simp only[Ae hx]
   rw[AM (by omega),BK (by simp only[AK,AjR,Aji];omega)]
   exact⟨rfl,by simp;omega⟩)
  (fun a _=>by rw[Lo,AK,AL,AjF (by omega)]) [] rfl
 have e':AS Lo many ([],l,AG l,(0:Int),())=_:=e
 rw[e',A0]
 have hf:∀ (xs:List Edge) (acc:List Int),xs.foldl (fun a x=>a++[x.1,x.2.1]) acc=acc++xs.flatMap fun e=>[e.1,e.2.1]:=by
  intro xs
  induction xs with
  |nil=>intro acc;simp
  |cons x xs ih=>intro acc;rw[Ajt,ih,Aky];simp
 rw[hf]
 rfl
theorem APr(n:Int)(l:List Edge):((l.flatMap fun e=>[e.1,e.2.1]).all fun v=>decide (In n v))=l.all fun e=>decide (In n e.1∧In n e.2.1):=by
 induction l with
 |nil=>rfl
 |cons e l ih=>
  rw[Aky,List.all_append,List.all_cons,ih]
  simp
theorem APq(l:List Edge):(l.flatMap fun e=>[e.1,e.2.1]).length=2*l.length:=by
 induction l with
 |nil=>rfl
 |cons e l ih=>rw[Aky,AjS,ih];simp;omega
theorem AT1{n:Int}(l:List Edge)(hs:l.length<1073741824)(ha:∀ e∈l,In n e.1∧In n e.2.1):
  ∀ (m i cnt:Nat) (rings:List (List Int)) (taken:List Bool),i+m=l.length→taken.length=i→FC n rings (l.take i)→m<cnt →
  ∃ zs taken',AX B4 cnt (n,rings,(0:Int),taken,l,(l.length:Int),(i:Int),())=some (.inl (n,zs,(0:Int),taken',()))∧FC n zs l∧taken'.length=l.length:=by
 intro m
 induction m with
 |zero=>
  intro i cnt rings taken hi ht h hc
  obtain⟨cnt,rfl⟩:∃ c,cnt=c+1:=⟨cnt-1,by omega⟩
  rw[AkQ (by omega)]at h
  refine⟨rings,taken,?_,h,by omega⟩
  rw[AX,B4,AL,AjF (by omega)]
 |succ m ih=>
  intro i cnt rings taken hi ht h hc
  obtain⟨cnt,rfl⟩:∃ c,cnt=c+1:=⟨cnt-1,by omega⟩
  have hi':i<l.length:=by omega
  have hx:l[i]? = some l[i]:=AjM hi'
  obtain⟨iu,iv⟩:=ha _ (AkY hi')
  obtain⟨zs,q,e1,e2,_⟩:=AXU h iu iv
  rw[AX,B4,AL,AjG hi']
  simp only[Ae hx,e1]
  rw[AM (by omega),BK (by simp only[AK,AjR,Aji];omega)]
  rw[← Akk hi']at e2
  exact ih (i+1) cnt zs _ (by omega) (by simp[DC,ht]) e2 (by omega)
theorem AXE(k:Int)(l:List Edge)(hk:Sz k)(hs:l.length<1073741824):
  ((∀ e∈l,In k e.1∧In k e.2.1)∧∃ rings,fof (k,l,())=some ((k,(rings,())),0,())∧FC k rings l) ∨
  (¬ (∀ e∈l,In k e.1∧In k e.2.1)∧fof (k,l,())=some ((0,([],())),10,())):=by
 have hmany:9223372036854775808<many:=by simp only[many];omega
 rw[AUb,APe]
 have hm:HQ k=(k,BT k.toNat,0,()):=by rw[HQ,AjP hk]
 obtain⟨s1,s2⟩:=hk
 obtain⟨N,rfl⟩:=AjU (show 0≤k by omega)
 have h0:=AES (N:=N) (by omega) (by omega)
 have hD:=h0.fr.dom
 have hRF:=L5.2 h0.fr
 have hfl:=APq l
 have hth:QO (((N:Int),(BT N,())),l.flatMap fun e=>[e.1,e.2.1],())=some (if ∀ e∈l,In (N:Int) e.1∧In (N:Int) e.2.1 then 0 else 10,()):=by
  rw[ACz _ _ _ hD (by omega),APr,AQT,AjP hRF]
  by_cases ha:∀ e∈l,In (N:Int) e.1∧In (N:Int) e.2.1
  ·rw[AjP ha,AjP (Ajd.2 fun e he=>AjG (ha e he))]
  ·rw[AjQ ha,AjQ]
   intro hc
   exact ha fun e he=>AlT (Ajd.1 hc e he)
 simp only[AGO,hm,AkG,Bd,AjT]
 rw[Vr,Nd,Ni,IW]
 by_cases ha:∀ e∈l,In (N:Int) e.1∧In (N:Int) e.2.1
 ·refine .inl ⟨ha,?_⟩
  rw[AjP ha]at hth
  obtain⟨zs,taken,e1,e2,_⟩:=AT1 l hs ha l.length 0 many (BT N) [] (by omega) rfl (by rw[List.take_zero];exact h0) (by omega)
  have e1':AX B4 many ((N:Int),BT N,(0:Int),[],l,(l.length:Int),(0:Int),())=_:=e1
  simp only[ADN l hs,hth,Bd,AjT,Au,AK,e1']
  exact⟨zs,rfl,e2⟩
 ·refine .inr ⟨ha,?_⟩
  rw[AjQ ha]at hth
  simp only[ADN l hs,hth,An]
  rfl
end Go.Pev.Pl
end
section
namespace Go.Pev.Pl
open Tok
def cl(out:List Int)(v:Int):Int:=out.getD v.toNat 0
def CI(N:Nat)(l:List Edge)(out:List Int):Prop:=out.length=N∧∀ k,k<N→0≤out.getD k 0∧out.getD k 0≤(k:Int)∧Con l (k:Int) (out.getD k 0)
theorem AV0:∀ (l:List Int) (k:Nat) (x:Int),k<l.length→(l.set k x).sum=l.sum-l.getD k 0+x:=by
 intro l
 induction l with
 |nil=>intro k x h;simp at h
 |cons y l ih=>
  intro k x h
  cases k with
  |zero=>simp;omega
  |succ k=>
   have:=ih k x (by simpa using h)
   simp only[List.set_cons_succ,List.sum_cons,List.getD_cons_succ,this]
   omega
theorem Pd{N:Nat}{l:List Edge}{out:List Int}(h:CI N l out)(hN:N≤64):0≤out.sum∧out.sum≤4096:=by
 obtain⟨h1,h2⟩:=h
 have key:∀ (xs:List Int),(∀ x∈xs,0≤x∧x≤64)→0≤xs.sum∧xs.sum≤64*(xs.length:Int):=by
  intro xs
  induction xs with
  |nil=>intro _;simp
  |cons x xs ih=>
   intro h
   have h3:=ih fun y hy=>h y (Ajh _ hy)
   have h4:=h x (by simp)
   simp only[List.sum_cons,AjR]
   omega
 have:=key out fun x hx=>by
  obtain⟨k,hk,rfl⟩:=Akx hx
  have h5:=h2 k (by omega)
  rw[AjI,AjM hk,Ajn]at h5
  omega
 omega
theorem Aik(N:Nat)(l:List Edge)(hs:l.length<1073741824)(ha:∀ e∈l,In (N:Int) e.1∧In (N:Int) e.2.1):
  ∀ (m i cnt:Nat) (out:List Int) (more:Bool),i+m=l.length→CI N l out→m<cnt →
  ∃ out' more',AX FW cnt ((N:Int),l,out,more,(i:Int),())=some (.inl ((N:Int),l,out',more',()))∧CI N l out' ∧
   ((more'=more∧out'=out∧∀ e∈l.drop i,cl out e.1=cl out e.2.1)∨(more'=true∧out'.sum<out.sum)):=by
 intro m
 induction m with
 |zero=>
  intro i cnt out more hi h hc
  obtain⟨cnt,rfl⟩:∃ c,cnt=c+1:=⟨cnt-1,by omega⟩
  refine⟨out,more,?_,h,.inl ⟨rfl,rfl,?_⟩⟩
  ·rw[AX,FW,AK,AL,AjF (by omega)]
  ·rw[AkZ (by omega)]
   intro e he;cases he
 |succ m ih=>
  intro i cnt out more hi h hc
  obtain⟨cnt,rfl⟩:∃ c,cnt=c+1:=⟨cnt-1,by omega⟩
  have hi':i<l.length:=by omega
  have hx:l[i]? = some l[i]:=AjM hi'
  have hm:=AkY hi'
  have hdr:l.drop i=l[i]::l.drop (i+1):=AkC hi'
  rw[AX,FW,AK,AL,AjG hi']
  simp only[Ae hx]
  rw[hdr,AM (by omega)]
  generalize l[i]=e at *
  obtain⟨iu,iv⟩:=ha e hm
  have hcon:=Con.edge e hm
  obtain⟨eu,ev,eu'⟩:=e
  simp only at iu iv hcon ⊢
  obtain⟨u,rfl⟩:=AjU iu.2.2.1
  obtain⟨v,rfl⟩:=AjU iv.2.2.1
  have hu:u<N:=by have:=iu.2.2.2;omega
  have hv:v<N:=by have:=iv.2.2.2;omega
  have hul:u<out.length:=by rw[h.1];exact hu
  have hvl:v<out.length:=by rw[h.1];exact hv
  rw[Ag,AjF (by omega)]
  simp only[]
  rw[Ag,AjF (by omega)]
  simp only[]
  rw[Ar,AjF (by omega)]
  simp only[]
  rw[Ar,AjF (by omega)]
  simp only[Bs (0:Int) hul,Bs (0:Int) hvl,GG,Nj,An]
  by_cases hq:out.getD u 0=out.getD v 0
  ·rw[AjG hq]
   obtain⟨out',more',e1,e2,e3⟩:=ih (i+1) cnt out more (by omega) h (by omega)
   refine⟨out',more',e1,e2,?_⟩
   rcases e3 with⟨g1,g2,g3⟩|g
   ·refine .inl ⟨g1,g2,fun e' he' => ?_⟩
    rcases AjN.1 he' with rfl|he'
    ·simpa [cl]using hq
    ·exact g3 e' he'
   ·exact .inr g
  ·rw[AjF hq]
   have hne:u≠v:=by rintro rfl;exact hq rfl
   have hlow:Ci (out.getD u 0) (out.getD v 0)=if out.getD v 0<out.getD u 0 then out.getD v 0 else out.getD u 0:=rfl
   generalize hlw:Ci (out.getD u 0) (out.getD v 0)=low at *
   have hvl2:v<(out.set u low).length:=by simp;exact hvl
   simp only[Bs (0:Int) hvl2]
   have cu:=h.2 u hu
   have cv:=h.2 v hv
   have hset:∀ k,k<N→((out.set u low).set v low).getD k 0=if k=u∨k=v then low else out.getD k 0:=by
    intro k hk
    have hkl:k<out.length:=by rw[h.1];exact hk
    by_cases k2:k=v
    ·subst k2
     simp[AjI,hkl]
    ·by_cases k1:k=u
     ·subst k1
      rw[AjP (.inl rfl),AjI,Ajx (Ajy k2)]
      simp[hkl]
     ·rw[AjQ (by omega),AjI,Ajx (Ajy k2),Ajx (Ajy k1),AjI]
   have hlc:0≤low∧low≤(u:Int)∧low≤(v:Int)∧Con l (u:Int) low:=by
    rw[hlow]
    split
    ·exact⟨cv.1,by omega,cv.2.1,hcon.trans cv.2.2⟩
    ·exact⟨cu.1,cu.2.1,by omega,cu.2.2⟩
   have hI:CI N l ((out.set u low).set v low):=by
    refine⟨by simp[h.1],fun k hk => ?_⟩
    rw[hset k hk]
    split
    ·rename_i hkk
     rcases hkk with rfl|rfl
     ·exact⟨hlc.1,hlc.2.1,hlc.2.2.2⟩
     ·exact⟨hlc.1,hlc.2.2.1,hcon.symm.trans hlc.2.2.2⟩
    ·exact h.2 k hk
   have hsum:((out.set u low).set v low).sum<out.sum:=by
    rw[AV0 _ _ _ hvl2,AV0 _ _ _ hul]
    have:(out.set u low).getD v 0=out.getD v 0:=by
     rw[AjI,Ajx hne,← AjI]
    rw[this,hlow]
    split<;>omega
   obtain⟨out',more',e1,e2,e3⟩:=ih (i+1) cnt _ true (by omega) hI (by omega)
   refine⟨out',more',e1,e2,.inr ?_⟩
   rcases e3 with⟨g1,g2,_⟩|⟨g1,g2⟩
   ·exact⟨g1,by rw[g2];exact hsum⟩
   ·exact⟨g1,by omega⟩
theorem Aho(N:Nat)(hN:N≤64)(l:List Edge)(hs:l.length<1073741824)(ha:∀ e∈l,In (N:Int) e.1∧In (N:Int) e.2.1):
  ∀ (m cnt:Nat) (out:List Int),out.sum.toNat=m→CI N l out→m+1<cnt →
  ∃ out',AX HS cnt ((N:Int),l,out,true,())=some (.inl (out',()))∧CI N l out'∧∀ e∈l,cl out' e.1=cl out' e.2.1:=by
 have hmany:9223372036854775808<many:=by simp only[many];omega
 intro m
 induction m using Nat.strongRecOn with
 |_ m ih=>
 intro cnt out hm h hc
 obtain⟨cnt,rfl⟩:∃ c,cnt=c+1:=⟨cnt-1,by omega⟩
 rw[AX,HS]
 obtain⟨out',more',e1,e2,e3⟩:=Aik N l hs ha l.length 0 many out false (by omega) h (by omega)
 have e1':AX FW many ((N:Int),l,out,false,(0:Int),())=_:=e1
 simp only[Au,e1']
 rcases e3 with⟨g1,g2,g3⟩|⟨g1,g2⟩
 ·subst g1 g2
  obtain⟨cnt,rfl⟩:∃ c,cnt=c+1:=⟨cnt-1,by omega⟩
  rw[AX,HS]
  exact⟨_,rfl,e2,by simpa using g3⟩
 ·subst g1
  have b1:=Pd h hN
  have b2:=Pd e2 hN
  exact ih out'.sum.toNat (by omega) cnt out' rfl e2 (by omega)
structure W7(n:Int)(l:List Edge)(out:List Int):Prop where
 len:(out.length:Int)=n
 same:∀ a b,In n a→In n b→(cl out a=cl out b↔Con l a b)
 isin:∀ a,In n a→In n (cl out a)
 con:∀ a,In n a→Con l a (cl out a)
 least:∀ a b,In n a→In n b→Con l a b→cl out a≤b
theorem Gk(n:Int)(l:List Edge)(hn:Sz n)(hs:l.length<1073741824)(ha:∀ e∈l,In n e.1∧In n e.2.1):∃ out,Og (n,l,())=some (out,())∧W7 n l out:=by
 have hmany:9223372036854775808<many:=by simp only[many];omega
 obtain⟨s1,s2⟩:=hn
 obtain⟨N,rfl⟩:=AjU (show 0≤n by omega)
 rw[ALD,Ns]
 have key:∀ (m k cnt:Nat),k+m=N→m<cnt→AX FX cnt ((N:Int),l,(List.range k).map (fun(k:Nat)=>(k:Int)),(k:Int),())=some (.inl ((N:Int),l,(List.range N).map (fun(k:Nat)=>(k:Int)),())):=by
  intro m
  induction m with
  |zero=>
   intro k cnt hk hc
   obtain⟨cnt,rfl⟩:∃ c,cnt=c+1:=⟨cnt-1,by omega⟩
   have:k=N:=by omega
   subst this
   rw[AX,FX,AL,AjF (by omega)]
  |succ m ih=>
   intro k cnt hk hc
   obtain⟨cnt,rfl⟩:∃ c,cnt=c+1:=⟨cnt-1,by omega⟩
   have hih:=ih (k+1) cnt (by omega) (by omega)
   rw[Ake,Akt]at hih
   rw[AX,FX,AL,AjG (by omega)]
   simp only[]
   rw[AM (by omega),BK (by simp only[AK,AjR,Aji,Aj6,AjY];omega)]
   exact hih
 have e0:=key N 0 many (by omega) (by omega)
 have e0':AX FX many ((N:Int),l,[],(0:Int),())=_:=e0
 have h0:CI N l ((List.range N).map (fun(k:Nat)=>(k:Int))):=by
  refine⟨by simp,fun k hk => ?_⟩
  have:((List.range N).map (fun(k:Nat)=>(k:Int))).getD k 0=(k:Int):=by simp[AjI,hk]
  rw[this]
  exact⟨by omega,by omega,.refl _⟩
 have hb:=Pd h0 (by omega)
 obtain⟨out,e1,e2,e3⟩:=Aho N (by omega) l hs ha _ many _ rfl h0 (by omega)
 simp only[Au,e0',e1]
 have fact:∀ a,In (N:Int) a→0≤cl out a∧cl out a≤a∧Con l a (cl out a):=by
  intro a hia
  obtain⟨k,rfl⟩:=AjU hia.2.2.1
  have:=e2.2 k (by have:=hia.2.2.2;omega)
  simpa [cl]using this
 refine⟨out,rfl,by rw[e2.1],fun a b ia ib=>⟨fun h => ?_,fun h=>h.const e3⟩,fun a ia => ?_,fun a ia=>(fact a ia).2.2,fun a b ia ib h => ?_⟩
 ·have h1:=(fact a ia).2.2
  have h2:=(fact b ib).2.2
  rw[← h]at h2
  exact h1.trans h2.symm
 ·have:=fact a ia
  have h3:=ia.2.2.2
  exact⟨s1,s2,by omega,by omega⟩
 ·have h1:cl out a=cl out b:=h.const e3
  have:=(fact b ib).2.1
  omega
end Go.Pev.Pl
end
end
section
namespace Go.Pev.Pl
def Low(l:List Edge)(k:Nat):Prop:=∀ j:Nat,j<k→¬ Con l (j:Int) (k:Int)
noncomputable def Adh(l:List Edge)(k:Nat):Bool:=@decide (Low l k) (Classical.propDecidable _)
theorem IJ(l:List Edge)(k:Nat):Adh l k=true↔Low l k:=by
 unfold Adh
 exact @decide_eq_true_iff _ (Classical.propDecidable _)
noncomputable def cc(N:Nat)(l:List Edge):Nat:=(List.range N).countP (Adh l)
noncomputable def PA(l:List Edge)(a b:Int):Bool:=@decide (Con l a b) (Classical.propDecidable _)
theorem Cb(l:List Edge)(a b:Int):PA l a b=true↔Con l a b:=by
 unfold PA
 exact @decide_eq_true_iff _ (Classical.propDecidable _)
theorem Ig(l:List Edge)(a b:Int):PA l a b=false↔¬ Con l a b:=by
 rw[← Cb];cases PA l a b<;>simp
theorem Con.sub{l l':List Edge}(h:∀ e∈l,e∈l'){a b:Int}(c:Con l a b):Con l' a b:=c.mono fun e he=>⟨e,h e he,.inl ⟨rfl,rfl⟩⟩
theorem Con.cut{l l':List Edge}(h:∀ e∈l,Con l' e.1 e.2.1){a b:Int}(c:Con l a b):Con l' a b:=by
 induction c with
 |refl a=>exact .refl a
 |edge e he=>exact h e he
 |symm _ ih=>exact ih.symm
 |trans _ _ ih1 ih2=>exact ih1.trans ih2
theorem Adg(l:List Edge):∀ v:Nat,∃ m:Nat,m≤v∧Con l (m:Int) (v:Int)∧Low l m:=by
 intro v
 induction v using Nat.strongRecOn with
 |ind v ih=>
  by_cases h:Low l v
  ·exact⟨v,AjO _,.refl _,h⟩
  ·have:∃ j:Nat,j<v∧Con l (j:Int) (v:Int):=AkK fun hn=>h fun j hj hc=>hn ⟨j,hj,hc⟩
   obtain⟨j,hj,hc⟩:=this
   obtain⟨m,h1,h2,h3⟩:=ih j hj
   exact⟨m,by omega,h2.trans hc,h3⟩
theorem Low.le{l:List Edge}{m j:Nat}(h:Low l m)(hc:Con l (m:Int) (j:Int)):m≤j:=by
 refine Nat.le_of_not_lt fun hj=>h j hj hc.symm
theorem Low.uniq{l:List Edge}{a b:Nat}(ha:Low l a)(hb:Low l b)(h:Con l (a:Int) (b:Int)):a=b:=by
 have:=ha.le h
 have:=hb.le h.symm
 omega
theorem Aes{N:Nat}{l l':List Edge}(h:∀ j k:Nat,j<N→k<N→(Con l (j:Int) (k:Int)↔Con l' (j:Int) (k:Int))):cc N l=cc N l':=by
 unfold cc
 refine List.countP_congr fun k hk => ?_
 have hk:k<N:=by simpa using hk
 rw[IJ,IJ]
 constructor
 ·intro q j hj hc;exact q j hj ((h j k (by omega) hk).2 hc)
 ·intro q j hj hc;exact q j hj ((h j k (by omega) hk).1 hc)
theorem ADp{N:Nat}{l l':List Edge}(h:∀ a b,Con l a b↔Con l' a b):cc N l=cc N l':=Aes fun _ _ _ _=>h _ _
theorem AK9{l l':List Edge}(h:∀ e,e∈l↔e∈l'){a b:Int}:Con l a b↔Con l' a b:=⟨fun c=>c.sub fun e he=>(h e).1 he,fun c=>c.sub fun e he=>(h e).2 he⟩
theorem AhF{N:Nat}{l l':List Edge}(h:l.Perm l'):cc N l=cc N l':=ADp fun _ _=>AK9 fun _=>h.mem_iff
theorem AiW(N:Nat):cc N []=N:=by
 unfold cc
 have:(List.range N).countP (Adh [])=(List.range N).length:=by
  rw[List.countP_eq_length]
  intro k _
  rw[IJ]
  intro j hj hc
  have:=hc.nil
  omega
 rw[this,AjY]
theorem ADV{P:Nat→Bool}{M:Nat}(hM:P M=true):∀ {xs:List Nat},xs.Nodup→M∈xs→xs.countP P=xs.countP (fun k=>P k && !decide (k=M))+1:=by
 intro xs
 induction xs with
 |nil=>intro _ h;cases h
 |cons x xs ih=>
  intro hn h
  rw[Aju]at hn
  rw[Al3,Al3]
  by_cases hx:x=M
  ·subst hx
   have:xs.countP P=xs.countP (fun k=>P k && !decide (k=x)):=by
    refine List.countP_congr fun k hk => ?_
    have:k≠x:=fun e=>hn.1 (e▸hk)
    simp[this]
   simp[hM,this]
  ·have:=ih hn.2 (by rcases AjN.1 h with h|h;exact absurd h.symm hx;exact h)
   rw[this]
   simp[hx]
   omega
def InE(N:Nat)(e:Edge):Prop:=(0≤e.1∧e.1<(N:Int))∧(0≤e.2.1∧e.2.1<(N:Int))
theorem AP3{l:List Edge}{e:Edge}(h:Con l e.1 e.2.1){a b:Int}:Con (l++[e]) a b↔Con l a b:=
 ⟨fun c=>c.cut fun x hx=>by
  rcases AjL.1 hx with hx|hx
  ·exact .edge x hx
  ·rw[Ajk]at hx;subst hx;exact h,fun c=>c.sub fun x hx=>AjL.2 (.inl hx)⟩
theorem AXM{N:Nat}{l:List Edge}{e:Edge}(he:InE N e):cc N l=cc N (l++[e])+(if PA l e.1 e.2.1=true then 0 else 1):=by
 by_cases h:Con l e.1 e.2.1
 ·rw[AjP ((Cb _ _ _).2 h),Akc]
  exact ADp fun a b=>(AP3 h).symm
 ·rw[AjQ (fun hh=>h ((Cb _ _ _).1 hh))]
  obtain⟨⟨a1,a2⟩,b1,b2⟩:=he
  obtain⟨u,hu⟩:=AjU a1
  obtain⟨v,hv⟩:=AjU b1
  have hsn:∀ {a b:Int},Con (l++[e]) a b↔Con l a b∨(Con l a (u:Int)∧Con l (v:Int) b)∨(Con l a (v:Int)∧Con l (u:Int) b):=by
   intro a b
   rw[Con.snoc,hu,hv]
  rw[hu,hv]at h
  obtain⟨p,p1,p2,p3⟩:=Adg l u
  obtain⟨q,q1,q2,q3⟩:=Adg l v
  have hpq:p≠q:=fun e=>h (p2.symm.trans (e▸q2))
  have hlow:∀ k:Nat,Low (l++[e]) k↔Low l k∧k≠max p q:=by
   intro k
   constructor
   ·intro hk
    refine⟨fun j hj hc=>hk j hj (hsn.2 (.inl hc)),fun e => ?_⟩
    refine hk (min p q) (by omega) (hsn.2 ?_)
    by_cases hlt:p<q
    ·rw[e,AkT (by omega),Alk (by omega)]
     exact .inr (.inl ⟨p2,q2.symm⟩)
    ·rw[e,Al2 (by omega),Aln (by omega)]
     exact .inr (.inr ⟨q2,p2.symm⟩)
   ·rintro⟨hk,hne⟩ j hj hc
    rcases hsn.1 hc with hc|⟨c1,c2⟩|⟨c1,c2⟩
    ·exact hk j hj hc
    ·have e1:=q3.uniq hk (q2.trans c2)
     have e2:=p3.le (p2.trans c1.symm)
     omega
    ·have e1:=p3.uniq hk (p2.trans c2)
     have e2:=q3.le (q2.trans c1.symm)
     omega
  have hM:Adh l (max p q)=true:=by
   rw[IJ]
   by_cases hlt:p<q
   ·rw[Alk (by omega)];exact q3
   ·rw[Aln (by omega)];exact p3
  unfold cc
  rw[ADV hM AmY (by rw[AkB];omega)]
  congr 1
  refine List.countP_congr fun k _ => ?_
  rw[IJ,hlow,AjK,IJ]
  simp
noncomputable def gfl:List Edge→List Edge→List Bool
 |_,[]=>[]
 |b,x::xs=>(!PA b x.1 x.2.1)::gfl (b++[x]) xs
noncomputable def Mc:List Edge→List Edge→List Edge
 |_,[]=>[]
 |b,x::xs=>if PA b x.1 x.2.1=true then Mc (b++[x]) xs else x::Mc (b++[x]) xs
theorem Ag4:∀ (xs b:List Edge),(gfl b xs).length=xs.length:=by
 intro xs
 induction xs with
 |nil=>intro b;rfl
 |cons x xs ih=>intro b;rw[gfl,AjR,AjR,ih]
theorem APS:∀ (xs b:List Edge),(Mc b xs).Sublist xs:=by
 intro xs
 induction xs with
 |nil=>intro b;exact List.Sublist.refl _
 |cons x xs ih=>
  intro b
  rw[Mc]
  split
  ·exact(ih _).cons x
  ·exact(ih _).cons_cons x
theorem ADh:∀ (xs b:List Edge) {a c:Int},Con (b++xs) a c↔Con (b++Mc b xs) a c:=by
 intro xs
 induction xs with
 |nil=>intro b a c;rfl
 |cons x xs ih=>
  intro b a c
  have e1:b++x::xs=(b++[x])++xs:=by simp
  rw[e1,ih,Mc]
  by_cases h:Con b x.1 x.2.1
  ·rw[AjP ((Cb _ _ _).2 h)]
   constructor
   ·intro q
    refine q.cut fun y hy => ?_
    rcases AjL.1 hy with hy|hy
    ·rcases AjL.1 hy with hy|hy
     ·exact .edge y (AjL.2 (.inl hy))
     ·rw[Ajk]at hy;subst hy
      exact h.sub fun z hz=>AjL.2 (.inl hz)
    ·exact .edge y (AjL.2 (.inr hy))
   ·intro q
    refine q.sub fun y hy => ?_
    rcases AjL.1 hy with hy|hy
    ·simp[hy]
    ·simp[hy]
  ·rw[AjQ (fun hh=>h ((Cb _ _ _).1 hh))]
   exact AK9 fun y=>by simp
theorem Oi{N:Nat}:∀ (xs b:List Edge),(∀ e∈xs,InE N e)→cc N b=cc N (b++xs)+(Mc b xs).length:=by
 intro xs
 induction xs with
 |nil=>intro b _;simp[Mc]
 |cons x xs ih=>
  intro b h
  have e1:b++x::xs=(b++[x])++xs:=by simp
  rw[AXM (h x (by simp)),ih (b++[x]) (fun e he=>h e (by simp[he])),e1,Mc]
  by_cases hc:PA b x.1 x.2.1=true
  ·rw[AjP hc,AjP hc,Akc]
  ·rw[AjQ hc,AjQ hc,AjR]
   omega
theorem AhX{N:Nat}(xs b:List Edge)(h:∀ e∈xs,InE N e):cc N b≤cc N (b++xs)+xs.length:=by
 have:=Oi xs b h
 have:=(APS xs b).length_le
 omega
def Fo(N:Nat)(l:List Edge):Prop:=cc N l+l.length=N
theorem Fo.perm{N:Nat}{l l':List Edge}(h:Fo N l)(hp:l.Perm l'):Fo N l':=by
 unfold Fo at *
 rw[← AhF hp,← hp.length_eq];exact h
theorem Aet{N:Nat}(l:List Edge)(h:∀ e∈l,InE N e):N≤cc N l+l.length:=by
 have:=AhX l [] h
 rw[AiW,Ajs]at this
 exact this
theorem Fo.front{N:Nat}{a b:List Edge}(h:Fo N (a++b))(ha:∀ e∈a,InE N e)(hb:∀ e∈b,InE N e):Fo N a:=by
 unfold Fo at *
 have h1:=Aet a ha
 have h2:=AhX b a hb
 rw[AjS]at h
 omega
theorem Acm{α:Type}{a l:List α}(h:a.Sublist l):∃ r,l.Perm (a++r):=by
 induction h with
 |slnil=>exact⟨[],List.Perm.refl _⟩
 |@cons a l x _ ih=>
  obtain⟨r,hr⟩:=ih
  exact⟨x::r,(hr.cons x).trans (List.perm_middle.symm)⟩
 |@cons_cons a l x _ ih=>
  obtain⟨r,hr⟩:=ih
  exact⟨r,hr.cons x⟩
theorem Fo.sub{N:Nat}{a l:List Edge}(h:Fo N l)(hs:a.Sublist l)(hl:∀ e∈l,InE N e):Fo N a:=by
 obtain⟨r,hr⟩:=Acm hs
 exact(h.perm hr).front (fun e he=>hl e (hr.mem_iff.2 (AjL.2 (.inl he)))) (fun e he=>hl e (hr.mem_iff.2 (AjL.2 (.inr he))))
theorem Fo.Mc{N:Nat}{b xs:List Edge}(h:Fo N (b++xs))(hb:∀ e∈b,InE N e)(hx:∀ e∈xs,InE N e):Mc b xs=xs:=by
 have h1:=Oi xs b hx
 have h2:=h.front hb hx
 unfold Fo at *
 rw[AjS]at h
 exact(APS xs b).eq_of_length (by omega)
end Go.Pev.Pl
end
section
namespace Go.Pev.Pl
abbrev Tie:=Int×Int×Int×Bool×Unit
abbrev zT:Tie:=(0,0,0,false,())
def ahead(p x:Tie):Prop:=p.1<x.1∨(p.1=x.1∧p.2.1<x.2.1)
instance (p x:Tie):Decidable (ahead p x):=inferInstanceAs (Decidable (_∨_))
def ed(t:Tie):Edge:=(t.1,t.2.1,())
def trk(ts:List Tie)(k:Int):List Edge:=(ts.filter fun t=>t.2.2.2.1&&decide (k≤t.2.2.1)).map ed
theorem C8{ts:List Tie}{k:Int}{e:Edge}:e∈trk ts k↔∃ t∈ts,t.2.2.2.1=true∧k≤t.2.2.1∧ed t=e:=by
 unfold trk
 simp only[Aja,AkE,AjK,AjJ]
 constructor
 ·rintro⟨t,⟨h1,h2,h3⟩,h4⟩;exact⟨t,h1,h2,h3,h4⟩
 ·rintro⟨t,h1,h2,h3,h4⟩;exact⟨t,⟨h1,h2,h3⟩,h4⟩
theorem Ho{ts:List Tie}{k k':Int}(h:k≤k'):∀ e∈trk ts k',e∈trk ts k:=by
 intro e he
 obtain⟨t,h1,h2,h3,h4⟩:=C8.1 he
 exact C8.2 ⟨t,h1,h2,by omega,h4⟩
noncomputable def csz(N:Nat)(l:List Edge)(v:Int):Nat:=(List.range N).countP fun(w:Nat)=>PA l v (w:Int)
theorem AK6{N:Nat}{l l':List Edge}{v v':Int}(h:∀ w:Nat,w<N→Con l v (w:Int)→Con l' v' (w:Int)):csz N l v≤csz N l' v':=by
 unfold csz
 refine List.countP_mono_left fun w hw hc => ?_
 rw[Cb]at hc ⊢
 exact h w (by simpa using hw) hc
theorem AhB{N:Nat}{l:List Edge}{v:Nat}(hv:v<N):1≤csz N l (v:Int):=by
 unfold csz
 refine List.countP_pos_iff.2 ⟨v,by simpa using hv,(Cb _ _ _).2 (.refl _)⟩
theorem AhA{N:Nat}{l:List Edge}{a b:Nat}(ha:a<N)(hb:b<N)(hab:a≠b)(h:Con l (a:Int) (b:Int)):2≤csz N l (a:Int):=by
 unfold csz
 rw[ADV (P:=fun(w:Nat)=>PA l (a:Int) (w:Int)) (M:=a) ((Cb _ _ _).2 (.refl _)) AmY (by simpa using ha)]
 have:0<(List.range N).countP (fun(w:Nat)=>PA l (a:Int) (w:Int) && !decide (w=a)):=by
  refine List.countP_pos_iff.2 ⟨b,by simpa using hb,?_⟩
  rw[AjK,Cb]
  exact⟨h,by simp;omega⟩
 omega
theorem Aek{N:Nat}{l:List Edge}{e:Edge}(h:¬ Con l e.1 e.2.1):csz N (l++[e]) e.1=csz N l e.1+csz N l e.2.1:=by
 unfold csz
 have key:∀ xs:List Nat,xs.countP (fun(w:Nat)=>PA (l++[e]) e.1 (w:Int))=xs.countP (fun(w:Nat)=>PA l e.1 (w:Int))+xs.countP (fun(w:Nat)=>PA l e.2.1 (w:Int)):=by
  intro xs
  induction xs with
  |nil=>rfl
  |cons x xs ih=>
   rw[Al3,Al3,Al3,ih]
   have hs:Con (l++[e]) e.1 (x:Int)↔Con l e.1 (x:Int)∨Con l e.2.1 (x:Int):=by
    rw[Con.snoc]
    constructor
    ·rintro (h|⟨_,h⟩|⟨_,h⟩)
     ·exact .inl h
     ·exact .inr h
     ·exact .inl h
    ·rintro (h|h)
     ·exact .inl h
     ·exact .inr (.inl ⟨.refl _,h⟩)
   by_cases h1:Con l e.1 (x:Int)
   ·have h2:¬ Con l e.2.1 (x:Int):=fun h2=>h (h1.trans h2.symm)
    rw[(Cb _ _ _).2 (hs.2 (.inl h1)),(Cb _ _ _).2 h1,(Ig _ _ _).2 h2]
    simp only[Ajw,Ajf,Ajc];omega
   ·by_cases h2:Con l e.2.1 (x:Int)
    ·rw[(Cb _ _ _).2 (hs.2 (.inr h2)),(Ig _ _ _).2 h1,(Cb _ _ _).2 h2]
     simp only[Ajw,Ajf,Ajc];omega
    ·rw[(Ig _ _ _).2 (fun h=>(hs.1 h).elim h1 h2),(Ig _ _ _).2 h1,(Ig _ _ _).2 h2]
     simp only[Ajf,Ajc,Akc]
 exact key _
end Go.Pev.Pl
end
section
namespace Go.Pev.Pl
def AA3(top:Int)(t:Tie):Tie:=(t.1,t.2.1,min top (t.2.2.1+1),t.2.2.2.1,())
def GM(t:Tie):Tie:=(t.1,t.2.1,t.2.2.1,true,())
def both(S:Int→Bool)(t:Tie):Bool:=S t.1&&S t.2.1
def AXF(S:Int→Bool)(t:Tie):Prop:=S t.1≠S t.2.1
instance (S:Int→Bool)(t:Tie):Decidable (AXF S t):=inferInstanceAs (Decidable (_≠_))
def rT(S:Int→Bool)(top i:Int)(t:Tie):Tie:=if t.2.2.2.1=true∧t.2.2.1=i∧both S t=true then AA3 top t else t
def rO(S:Int→Bool)(top i:Int)(t:Tie):Tie:=if t.2.2.2.1=false∧t.2.2.1=i∧both S t=true then AA3 top t else t
def rB(S:Int→Bool)(top i:Int)(t:Tie):Tie:=if t.2.2.1=i∧both S t=true then AA3 top t else t
theorem AGq(S:Int→Bool)(top i:Int)(t:Tie):ed (rT S top i t)=ed t:=by unfold rT;split<;>rfl
theorem Aca(S:Int→Bool)(top i:Int)(t:Tie):ed (rO S top i t)=ed t:=by unfold rO;split<;>rfl
theorem ON(S:Int→Bool)(top i:Int)(t:Tie):(rT S top i t).2.2.2.1=t.2.2.2.1:=by unfold rT;split<;>rfl
theorem AJU(S:Int→Bool)(top i:Int)(t:Tie):(rO S top i t).2.2.2.1=t.2.2.2.1:=by unfold rO;split<;>rfl
theorem AJT{S:Int→Bool}{top i:Int}{t:Tie}(h:t.2.2.1≤top):t.2.2.1≤(rT S top i t).2.2.1∧(rT S top i t).2.2.1≤top:=by
 unfold rT
 split
 ·show t.2.2.1≤min top (t.2.2.1+1)∧min top (t.2.2.1+1)≤top
  omega
 ·omega
theorem ASa{S:Int→Bool}{top i:Int}{t:Tie}(h:t.2.2.1≤top):t.2.2.1≤(rO S top i t).2.2.1∧(rO S top i t).2.2.1≤top:=by
 unfold rO
 split
 ·show t.2.2.1≤min top (t.2.2.1+1)∧min top (t.2.2.1+1)≤top
  omega
 ·omega
theorem ASZ{S:Int→Bool}{top i:Int}{t:Tie}(h:t.2.2.2.1=true):rO S top i t=t:=by
 unfold rO
 rw[AjQ]
 rintro⟨a,_⟩
 rw[h]at a;cases a
theorem M6{S:Int→Bool}{top i:Int}{t:Tie}(h:t.2.2.2.1=false):rT S top i t=t:=by
 unfold rT
 rw[AjQ]
 rintro⟨a,_⟩
 rw[h]at a;cases a
theorem AIO{f:Tie→Tie}(k:Int)(h1:∀ t,ed (f t)=ed t)(h2:∀ t,(f t).2.2.2.1=t.2.2.2.1)(ts:List Tie)(h3:∀ t∈ts,t.2.2.2.1=true→(k≤(f t).2.2.1↔k≤t.2.2.1)):trk (ts.map f) k=trk ts k:=by
 induction ts with
 |nil=>rfl
 |cons t ts ih=>
  have:=ih fun x hx=>h3 x (by simp[hx])
  unfold trk at *
  rw[Ajr,AkN,AkN,h2]
  have ht:=h3 t (by simp)
  cases hh:t.2.2.2.1
  ·simp only[Alj,Ajf,Ajc];exact this
  ·have hd:decide (k≤(f t).2.2.1)=decide (k≤t.2.2.1):=AlN.2 (ht hh)
   rw[hd]
   simp only[Ale]
   split
   ·rw[Ajr,Ajr,h1,this]
   ·exact this
section
variable {N:Nat} {top:Int} {O:List Tie} {S:Int→Bool} {i:Int} {c:Int}
theorem P5{k:Int}{e:Edge}:e∈trk (O.map (rT S top i)) k↔∃ t∈O,t.2.2.2.1=true∧k≤(rT S top i t).2.2.1∧ed t=e:=by
 rw[C8]
 constructor
 ·rintro⟨t,ht,h1,h2,h3⟩
  obtain⟨x,hx,rfl⟩:=Aja.1 ht
  rw[ON]at h1
  rw[AGq]at h3
  exact⟨x,hx,h1,h2,h3⟩
 ·rintro⟨t,ht,h1,h2,h3⟩
  exact⟨_,Aja.2 ⟨t,ht,rfl⟩,by rw[ON];exact h1,h2,by rw[AGq];exact h3⟩
theorem Cd{k:Int}(hk:k≤i)(hit:i≤top):trk (O.map (rT S top i)) k=trk O k:=by
 refine AIO k (AGq S top i) (ON S top i) O fun t _ _ => ?_
 unfold rT
 split
 ·rename_i h
  show k≤min top (t.2.2.1+1)↔_
  omega
 ·rfl
theorem AMF{k:Int}(hk:i+2≤k):trk (O.map (rT S top i)) k=trk O k:=by
 refine AIO k (AGq S top i) (ON S top i) O fun t _ _ => ?_
 unfold rT
 split
 ·rename_i h
  show k≤min top (t.2.2.1+1)↔_
  omega
 ·rfl
theorem Kw(hl:∀ t∈O,t.2.2.1≤top)(k:Int):∀ e∈trk O k,e∈trk (O.map (rT S top i)) k:=by
 intro e he
 obtain⟨t,h1,h2,h3,h4⟩:=C8.1 he
 have:=AJT (S:=S) (i:=i) (hl t h1)
 exact P5.2 ⟨t,h1,h2,by omega,h4⟩
variable (hS:∀ a b,Con (trk O i) a b→S a=S b)
include hS
theorem Aem(hl:∀ t∈O,t.2.2.1≤top)(hit:i+1≤top){a b:Int}(h:Con (trk O i) a b)(ha:S a=true):Con (trk (O.map (rT S top i)) (i+1)) a b:=by
 have key:∀ {a b:Int},Con (trk O i) a b→S a=true→Con (trk (O.map (rT S top i)) (i+1)) a b:=by
  intro a b h
  induction h with
  |refl a=>intro _;exact .refl a
  |edge e he=>
   intro ha
   obtain⟨t,h1,h2,h3,rfl⟩:=C8.1 he
   have hb:S t.2.1=true:=by
    have:=hS _ _ (.edge _ he)
    exact this.symm.trans ha
   have hm:ed t∈trk (O.map (rT S top i)) (i+1):=by
    refine P5.2 ⟨t,h1,h2,?_,rfl⟩
    by_cases hlv:t.2.2.1=i
    ·unfold rT
     rw[AjP ⟨h2,hlv,by unfold both;rw[show S t.1=true from ha,hb];rfl⟩]
     show i+1≤min top (t.2.2.1+1)
     omega
    ·have:=AJT (S:=S) (i:=i) (hl t h1)
     omega
   exact .edge _ hm
  |symm h ih=>
   intro ha
   exact(ih (by rw[hS _ _ h];exact ha)).symm
  |trans h1 _ ih1 ih2=>
   intro ha
   exact(ih1 ha).trans (ih2 (by rw[← hS _ _ h1];exact ha))
 exact key h ha
theorem AP4(hit:i≤top){a b:Int}(h:Con (trk (O.map (rT S top i)) (i+1)) a b)(ha:S a=false):Con (trk O (i+1)) a b:=by
 have low:∀ {a b:Int},Con (trk (O.map (rT S top i)) (i+1)) a b→S a=S b:=fun h=>hS _ _ (by
  have:=h.sub (Ho (ts:=O.map (rT S top i)) (show i≤i+1 by omega))
  rw[Cd (Int.le_refl i) hit]at this
  exact this)
 have key:∀ {a b:Int},Con (trk (O.map (rT S top i)) (i+1)) a b→S a=false→Con (trk O (i+1)) a b:=by
  intro a b h
  induction h with
  |refl a=>intro _;exact .refl a
  |edge e he=>
   intro ha
   obtain⟨t,h1,h2,h3,rfl⟩:=P5.1 he
   refine .edge _ (C8.2 ⟨t,h1,h2,?_,rfl⟩)
   unfold rT at h3
   rw[AjQ]at h3
   ·exact h3
   ·rintro⟨_,_,hb⟩
    unfold both at hb
    rw[show S t.1=false from ha]at hb
    cases hb
  |symm h ih=>
   intro ha
   exact(ih (by rw[low h];exact ha)).symm
  |trans h1 _ ih1 ih2=>
   intro ha
   exact(ih1 ha).trans (ih2 (by rw[← low h1];exact ha))
 exact key h ha
end
end Go.Pev.Pl
end
section
namespace Go.Pev.Pl
theorem Fo.AWk{N:Nat}{l:List Edge}{e:Edge}(h:Fo N (l++[e]))(hl:∀ x∈l,InE N x)(he:InE N e):¬ Con l e.1 e.2.1:=by
 intro hc
 have h1:=AXM (N:=N) (l:=l) he
 rw[AjP ((Cb _ _ _).2 hc)]at h1
 have h2:=Aet l hl
 unfold Fo at h
 rw[AjS,Aj8]at h
 omega
theorem Yy{N:Nat}{O:List Tie}(h:∀ x∈O,InE N (ed x))(k:Int):∀ e∈trk O k,InE N e:=by
 intro e he
 obtain⟨t,h1,_,_,rfl⟩:=C8.1 he
 exact h t h1
theorem DW(A B:List Tie)(k:Int):trk (A++B) k=trk A k++trk B k:=by
 unfold trk;rw[AlB,Akt]
theorem TP(S:Int→Bool)(top i:Int)(A:List Tie)(k:Int):trk (A.map (rO S top i)) k=trk A k:=
 AIO k (Aca S top i) (AJU S top i) A fun t _ h=>by rw[ASZ h]
structure Snd(N:Nat)(top:Int)(O:List Tie):Prop where
 lvl:∀ x∈O,0≤x.2.2.1∧x.2.2.1≤top
 ins:∀ x∈O,InE N (ed x)
 fo:Fo N (trk O 0)
 lie:∀ x∈O,x.2.2.2.1=false→Con (trk O x.2.2.1) x.1 x.2.1
 halv:∀ k:Nat,(k:Int)≤top→∀ v:Nat,v<N→csz N (trk O k) v≤max 1 (N/2 ^ k)
structure PS(N:Nat)(top:Int)(t:Edge)(j:Int)(O:List Tie):Prop where
 lvl:∀ x∈O,0≤x.2.2.1∧x.2.2.1≤top
 ins:∀ x∈O,InE N (ed x)
 it:InE N t
 fo:Fo N (trk O 0++[t])
 lie1:∀ x∈O,x.2.2.2.1=false→j≤x.2.2.1→Con (trk O x.2.2.1) x.1 x.2.1
 lie2:∀ x∈O,x.2.2.2.1=false→x.2.2.1<j→Con (trk O x.2.2.1++[t]) x.1 x.2.1
 halv:∀ k:Nat,(k:Int)≤top→∀ v:Nat,v<N→csz N (trk O k) v≤max 1 (N/2 ^ k)
 halt:∀ k:Nat,(k:Int)<j→(k:Int)≤top→∀ v:Nat,v<N→csz N (trk O k++[t]) v≤max 1 (N/2 ^ k)
structure Qg(N:Nat)(t:Edge)(i:Nat)(O:List Tie)(S:Int→Bool)(c:Nat):Prop where
 cN:c<N
 at_:t.1=(c:Int)∨t.2.1=(c:Int)
 side:∀ w:Nat,w<N→(S (w:Int)=true↔Con (trk O i) (c:Int) (w:Int))
 less:2*csz N (trk O i) (c:Int)≤csz N (trk O i) t.1+csz N (trk O i) t.2.1
section
variable {N:Nat} {top:Int} {t:Edge} {O:List Tie} {S:Int→Bool} {i c:Nat}
theorem Qg.closed(hL:Qg N t i O S c)(hi:∀ x∈O,InE N (ed x)):∀ a b,Con (trk O i) a b→S a=S b:=by
 intro a b h
 rcases Con.within (I:=fun a=>0≤a∧a<(N:Int)) (fun e he=>Yy hi i e he) h with rfl|⟨⟨a1,a2⟩,b1,b2⟩
 ·rfl
 ·obtain⟨u,rfl⟩:=AjU a1
  obtain⟨v,rfl⟩:=AjU b1
  have h1:=hL.side u (by omega)
  have h2:=hL.side v (by omega)
  rw[Alb,h1,h2]
  exact⟨fun q=>q.trans h,fun q=>q.trans h.symm⟩
theorem Qg.AW7(hL:Qg N t i O S c):S (c:Int)=true:=(hL.side c hL.cN).2 (.refl _)
theorem Qg.con(hL:Qg N t i O S c){a b:Int}(ia:0≤a∧a<(N:Int))(ib:0≤b∧b<(N:Int))(ha:S a=true)(hb:S b=true):Con (trk O i) a b:=by
 obtain⟨u,rfl⟩:=AjU ia.1
 obtain⟨v,rfl⟩:=AjU ib.1
 exact((hL.side u (by omega)).1 ha).symm.trans ((hL.side v (by omega)).1 hb)
variable (hG:PS N top t ((i:Int)+1) O) (hit:(i:Int)≤top) (hL:Qg N t i O S c)
include hG
theorem PS.apart(k:Nat):¬ Con (trk O (k:Int)) t.1 t.2.1:=fun h=>hG.fo.AWk (Yy hG.ins 0) hG.it (h.sub (Ho (by omega)))
include hit hL
theorem PS.half(hi1:(i:Int)+1≤top):csz N (trk O i) (c:Int)≤N/2 ^ (i+1):=by
 obtain⟨⟨a1,a2⟩,b1,b2⟩:=hG.it
 obtain⟨u,hu⟩:=AjU a1
 have hj:=Aek (N:=N) (hG.apart i)
 have hh:=hG.halt i (by omega) hit u (by omega)
 rw[← hu,hj]at hh
 have hp:=AhB (N:=N) (l:=trk O i) hL.cN
 have hl:=hL.less
 have e:N/2 ^ (i+1)=N/2 ^ i/2:=by rw[Nat.pow_succ,Nat.div_div_eq_div_mul]
 rw[e]
 omega
theorem PS.AhV(k:Nat)(hk:(k:Int)≤top)(v:Nat)(hv:v<N):csz N (trk (O.map (rT S top i)) k) v≤max 1 (N/2 ^ k):=by
 have hS:=hL.closed hG.ins
 have hl:∀ x∈O,x.2.2.1≤top:=fun x hx=>(hG.lvl x hx).2
 rcases AmM k (i+1)with h|rfl|h
 ·rw[Cd (by omega) hit];exact hG.halv k hk v hv
 ·cases hsv:S (v:Int)
  ·refine Aka (AK6 fun w hw hc => ?_) (hG.halv (i+1) hk v hv)
   have:=AP4 hS hit (a:=(v:Int)) (b:=(w:Int)) (by simpa using hc) hsv
   simpa using this
  ·have hle:csz N (trk (O.map (rT S top i)) ((i+1:Nat):Int)) v≤csz N (trk O i) (c:Int):=AK6 fun w hw hc=>by
    have h1:=hc.sub (Ho (ts:=O.map (rT S top i)) (show(i:Int)≤((i+1:Nat):Int) by omega))
    rw[Cd (Int.le_refl _) hit]at h1
    exact((hL.side v hv).1 hsv).trans h1
   have:=hG.half hit hL (by omega)
   omega
 ·rw[AMF (by omega)];exact hG.halv k hk v hv
omit hL
theorem AA4{x:Tie}(hx:x∈O.map (rT S top i))(h:x.2.2.2.1=false):x∈O:=by
 obtain⟨y,hy,rfl⟩:=Aja.1 hx
 rw[ON]at h
 rw[M6 h];exact hy
include hL
theorem PS.ACW{x:Tie}(hx:x∈O)(h1:x.2.2.1=(i:Int))(h2:both S x=true):Con (trk (O.map (rT S top i)) (min top (x.2.2.1+1))) x.1 x.2.1:=by
 have hS:=hL.closed hG.ins
 unfold both at h2
 rw[AjK]at h2
 have hc:=hL.con (hG.ins x hx).1 (hG.ins x hx).2 h2.1 h2.2
 by_cases hi1:(i:Int)+1≤top
 ·rw[h1,Int.min_eq_right hi1]
  exact Aem hS (fun x hx=>(hG.lvl x hx).2) hi1 hc h2.1
 ·rw[h1,Int.min_eq_left (by omega),show top=(i:Int) by omega]
  have:=Cd (O:=O) (S:=S) (top:=top) (i:=(i:Int)) (k:=(i:Int)) (Int.le_refl _) hit
  rw[show top=(i:Int) by omega]at this
  rw[this];exact hc
theorem PS.next(hno:∀ x∈O.map (rT S top i),x.2.2.2.1=false→x.2.2.1=(i:Int)→¬ AXF S x):PS N top t (i:Int) ((O.map (rT S top i)).map (rO S top i)):=by
 have hS:=hL.closed hG.ins
 have hl:∀ x∈O,x.2.2.1≤top:=fun x hx=>(hG.lvl x hx).2
 have hmem:∀ x∈(O.map (rT S top i)).map (rO S top i),∃ y∈O,x=rO S top i (rT S top i y):=fun x hx=>by
  obtain⟨z,hz,rfl⟩:=Aja.1 hx
  obtain⟨y,hy,rfl⟩:=Aja.1 hz
  exact⟨y,hy,rfl⟩
 have hlv:∀ y∈O,y.2.2.1≤(rO S top i (rT S top i y)).2.2.1∧(rO S top i (rT S top i y)).2.2.1≤top:=fun y hy=>by
  have h1:=AJT (S:=S) (i:=(i:Int)) (hl y hy)
  have h2:=ASa (S:=S) (i:=(i:Int)) h1.2
  omega
 have hoth:∀ x∈(O.map (rT S top i)).map (rO S top i),x.2.2.2.1=false→∃ y∈O,y.2.2.2.1=false∧x=rO S top i y:=fun x hx h=>by
  obtain⟨y,hy,rfl⟩:=hmem x hx
  rw[AJU,ON]at h
  exact⟨y,hy,h,by rw[M6 h]⟩
 refine⟨fun x hx => ?_,fun x hx => ?_,hG.it,?_,fun x hx h hj => ?_,fun x hx h hj => ?_,fun k hk v hv => ?_,fun k hk1 hk2 v hv => ?_⟩
 ·obtain⟨y,hy,rfl⟩:=hmem x hx
  have:=hlv y hy
  have:=(hG.lvl y hy).1
  omega
 ·obtain⟨y,hy,rfl⟩:=hmem x hx
  rw[Aca,AGq];exact hG.ins y hy
 ·rw[TP,Cd (by omega) hit];exact hG.fo
 ·obtain⟨y,hy,hf,rfl⟩:=hoth x hx h
  rw[TP]
  by_cases hr:y.2.2.1=(i:Int)∧both S y=true
  ·have he:rO S top i y=AA3 top y:=by unfold rO;rw[AjP ⟨hf,hr.1,hr.2⟩]
   rw[he]
   exact hG.ACW hit hL hy hr.1 hr.2
  ·have he:rO S top i y=y:=by unfold rO;rw[AjQ (fun q=>hr ⟨q.2.1,q.2.2⟩)]
   rw[he]at hj ⊢
   by_cases hi:y.2.2.1=(i:Int)
   ·have hnb:¬ both S y=true:=fun q=>hr ⟨hi,q⟩
    have hne:=hno y (Aja.2 ⟨y,hy,M6 hf⟩) hf hi
    have h2:=hG.lie2 y hy hf (by omega)
    rw[hi,Cd (Int.le_refl _) hit]
    rw[hi]at h2
    unfold AXF at hne
    have hne:=Alr.1 hne
    have hfalse:S y.1=false∧S y.2.1=false:=by
     unfold both at hnb
     rw[← hne]at hnb ⊢
     cases hsy:S y.1
     ·exact⟨rfl,rfl⟩
     ·rw[hsy]at hnb;exact absurd rfl hnb
    rw[Con.snoc]at h2
    rcases h2 with h2|⟨q1,q2⟩|⟨q1,q2⟩
    ·exact h2
    ·have e1:=hS _ _ q1
     have e2:=hS _ _ q2
     rcases hL.at_ with hc|hc
     ·rw[hc,hL.AW7,hfalse.1]at e1;cases e1
     ·rw[hc,hL.AW7,hfalse.2]at e2;cases e2
    ·have e1:=hS _ _ q1
     have e2:=hS _ _ q2
     rcases hL.at_ with hc|hc
     ·rw[hc,hL.AW7,hfalse.2]at e2;cases e2
     ·rw[hc,hL.AW7,hfalse.1]at e1;cases e1
   ·exact(hG.lie1 y hy hf (by omega)).sub (Kw hl _)
 ·obtain⟨y,hy,hf,rfl⟩:=hoth x hx h
  have h1:=ASa (S:=S) (i:=(i:Int)) (hl y hy)
  have he:rO S top i y=y:=by unfold rO;rw[AjQ (fun q=>by have:=q.2.1;omega)]
  rw[he]at hj ⊢
  rw[TP,Cd (by omega) hit]
  exact hG.lie2 y hy hf (by omega)
 ·rw[TP];exact hG.AhV hit hL k hk v hv
 ·rw[TP,Cd (by omega) hit];exact hG.halt k (by omega) hk2 v hv
theorem PS.found{A B:List Tie}{x:Tie}(hsp:O.map (rT S top i)=A++x::B)(hf:x.2.2.2.1=false)(hi:x.2.2.1=(i:Int))(hx:AXF S x):
  Snd N top (A.map (rO S top i)++GM x::B)∧Con (trk (A.map (rO S top i)++GM x::B) 0) t.1 t.2.1:=by
 have hS:=hL.closed hG.ins
 have hl:∀ x∈O,x.2.2.1≤top:=fun x hx=>(hG.lvl x hx).2
 have hxM:x∈O.map (rT S top i):=by rw[hsp];simp
 have hxO:x∈O:=AA4 hG hit hxM hf
 have hAm:∀ y∈A,y∈O.map (rT S top i):=fun y hy=>by rw[hsp];simp[hy]
 have hBm:∀ y∈B,y∈O.map (rT S top i):=fun y hy=>by rw[hsp];simp[hy]
 have hml:∀ y∈O.map (rT S top i),0≤y.2.2.1∧y.2.2.1≤top:=fun y hy=>by
  obtain⟨z,hz,rfl⟩:=Aja.1 hy
  have:=AJT (S:=S) (i:=(i:Int)) (hl z hz)
  have:=(hG.lvl z hz).1
  omega
 have hme:∀ y∈O.map (rT S top i),InE N (ed y):=fun y hy=>by
  obtain⟨z,hz,rfl⟩:=Aja.1 hy
  rw[AGq];exact hG.ins z hz
 have hxt:trk [x]=fun _=>[]:=by
  funext k
  unfold trk
  rw[AkN,hf]
  rfl
 have hat:∀ k,trk [GM x] k=if k≤(i:Int)then [ed x]else []:=by
  intro k
  unfold trk
  have q1:(GM x).2.2.1=(i:Int):=hi
  have q2:(GM x).2.2.2.1=true:=rfl
  rw[AkN,q1,q2]
  by_cases hk:k≤(i:Int)
  ·rw[AjP hk,AjG hk];rfl
  ·rw[AjQ hk,AjF hk];rfl
 have hM:∀ k,trk (O.map (rT S top i)) k=trk A k++trk B k:=by
  intro k
  rw[hsp,show A++x::B=A++([x]++B)from rfl,DW,DW,hxt,Ajs]
 have hO':∀ k,trk (A.map (rO S top i)++GM x::B) k=trk A k++((if k≤(i:Int)then [ed x]else [])++trk B k):=by
  intro k
  rw[show A.map (rO S top i)++GM x::B=A.map (rO S top i)++([GM x]++B)from rfl,DW,DW,TP,hat]
 have hsup:∀ k,∀ e∈trk (O.map (rT S top i)) k,e∈trk (A.map (rO S top i)++GM x::B) k:=by
  intro k e he
  rw[hM]at he
  rw[hO']
  rcases AjL.1 he with he|he
  ·exact AjL.2 (.inl he)
  ·exact AjL.2 (.inr (AjL.2 (.inr he)))
 have hxin:∀ k,k≤(i:Int)→ed x∈trk (A.map (rO S top i)++GM x::B) k:=by
  intro k hk
  rw[hO',AjP hk];simp
 have h2:=hG.lie2 x hxO hf (by omega)
 rw[hi]at h2
 have ht:Con (trk O i++[ed x]) t.1 t.2.1:=by
  have up:∀ {a b:Int},Con (trk O i) a b→Con (trk O i++[ed x]) a b:=fun c=>c.sub fun e he=>AjL.2 (.inl he)
  have hxe:Con (trk O i++[ed x]) x.1 x.2.1:=.edge (l:=trk O i++[ed x]) (ed x) (by simp)
  rw[Con.snoc]at h2
  rcases h2 with h2|⟨q1,q2⟩|⟨q1,q2⟩
  ·exact absurd (hS _ _ h2) hx
  ·exact((up q1).symm.trans hxe).trans (up q2).symm
  ·exact((up q2).trans hxe.symm).trans (up q1)
 have ht':∀ k,k≤(i:Int)→Con (trk (A.map (rO S top i)++GM x::B) k) t.1 t.2.1:=by
  intro k hk
  refine ht.sub fun e he => ?_
  rcases AjL.1 he with he|he
  ·exact Ho hk _ (hsup _ _ (Kw hl _ _ he))
  ·rw[Ajk]at he;subst he;exact hxin k hk
 refine⟨⟨fun y hy => ?_,fun y hy => ?_,?_,fun y hy h => ?_,fun k hk v hv => ?_⟩,ht' 0 (by omega)⟩
 ·rcases AjL.1 hy with hy|hy
  ·obtain⟨z,hz,rfl⟩:=Aja.1 hy
   have h1:=hml z (hAm z hz)
   have:=ASa (S:=S) (i:=(i:Int)) h1.2
   omega
  ·rcases AjN.1 hy with rfl|hy
   ·exact hG.lvl x hxO
   ·exact hml y (hBm y hy)
 ·rcases AjL.1 hy with hy|hy
  ·obtain⟨z,hz,rfl⟩:=Aja.1 hy
   rw[Aca];exact hme z (hAm z hz)
  ·rcases AjN.1 hy with rfl|hy
   ·exact hG.ins x hxO
   ·exact hme y (hBm y hy)
 ·rw[hO',AjP (by omega)]
  have hM0:=hM 0
  rw[Cd (by omega) hit]at hM0
  have hp:(trk A 0++([ed x]++trk B 0)).Perm (trk O 0++[ed x]):=by
   rw[hM0,AkU]
   exact List.Perm.append_left _ Ak7
  refine Fo.perm ?_ hp.symm
  have hfo:=hG.fo
  have hcc:cc N (trk O 0++[ed x])=cc N (trk O 0++[t]):=ADp fun a b=>by
   have m0:=Ho (ts:=O) (show(0:Int)≤(i:Int) by omega)
   constructor
   ·intro c
    refine c.cut fun e he => ?_
    rcases AjL.1 he with he|he
    ·exact .edge _ (AjL.2 (.inl he))
    ·rw[Ajk]at he;subst he
     refine h2.sub fun e he => ?_
     rcases AjL.1 he with he|he
     ·exact AjL.2 (.inl (m0 _ he))
     ·exact AjL.2 (.inr he)
   ·intro c
    refine c.cut fun e he => ?_
    rcases AjL.1 he with he|he
    ·exact .edge _ (AjL.2 (.inl he))
    ·rw[Ajk]at he;subst he
     refine ht.sub fun e he => ?_
     rcases AjL.1 he with he|he
     ·exact AjL.2 (.inl (m0 _ he))
     ·exact AjL.2 (.inr he)
  unfold Fo at hfo ⊢
  rw[hcc,AjS]at *
  exact hfo
 ·-- others
  have key:∀ y:Tie,y∈O→y.2.2.2.1=false→Con (trk (A.map (rO S top i)++GM x::B) y.2.2.1) y.1 y.2.1:=by
   intro y hy h
   by_cases hle:y.2.2.1≤(i:Int)
   ·refine(hG.lie2 y hy h (by omega)).cut fun e he => ?_
    rcases AjL.1 he with he|he
    ·exact .edge _ (hsup _ _ (Kw hl _ _ he))
    ·rw[Ajk]at he;subst he;exact ht' _ hle
   ·exact(hG.lie1 y hy h (by omega)).sub fun e he=>hsup _ _ (Kw hl _ _ he)
  rcases AjL.1 hy with hy|hy
  ·obtain⟨z,hz,rfl⟩:=Aja.1 hy
   rw[AJU]at h
   have hzO:=AA4 hG hit (hAm z hz) h
   by_cases hr:z.2.2.1=(i:Int)∧both S z=true
   ·have he:rO S top i z=AA3 top z:=by unfold rO;rw[AjP ⟨h,hr.1,hr.2⟩]
    rw[he]
    exact(hG.ACW hit hL hzO hr.1 hr.2).sub (hsup _)
   ·have he:rO S top i z=z:=by unfold rO;rw[AjQ (fun q=>hr ⟨q.2.1,q.2.2⟩)]
    rw[he]
    exact key z hzO h
  ·rcases AjN.1 hy with rfl|hy
   ·cases h
   ·exact key y (AA4 hG hit (hBm y hy) h) h
 ·by_cases hki:(k:Int)≤(i:Int)
  ·refine Aka (AK6 fun w hw hc => ?_) (hG.halt k (by omega) hk v hv)
   refine hc.cut fun e he => ?_
   rw[hO',AjP hki]at he
   have hMk:=hM (k:Int)
   rw[Cd hki hit]at hMk
   rcases AjL.1 he with he|he
   ·exact .edge _ (AjL.2 (.inl (by rw[hMk];simp[he])))
   ·rcases AjL.1 he with he|he
    ·rw[Ajk]at he;subst he
     refine h2.sub fun e he => ?_
     rcases AjL.1 he with he|he
     ·exact AjL.2 (.inl (Ho hki _ he))
     ·exact AjL.2 (.inr he)
    ·exact .edge _ (AjL.2 (.inl (by rw[hMk];simp[he])))
  ·have:trk (A.map (rO S top i)++GM x::B) (k:Int)=trk (O.map (rT S top i)) (k:Int):=by
    rw[hO',AjQ hki,hM];rfl
   rw[this]
   exact hG.AhV hit hL k hk v hv
end
theorem PS.end{N:Nat}{top:Int}{t:Edge}{O:List Tie}(h:PS N top t 0 O):Snd N top O∧¬ Con (trk O 0) t.1 t.2.1:=by
 refine⟨⟨h.lvl,h.ins,h.fo.front (Yy h.ins 0) (fun e he=>by rw[Ajk]at he;subst he;exact h.it),fun x hx hf=>h.lie1 x hx hf (h.lvl x hx).1,h.halv⟩,h.fo.AWk (Yy h.ins 0) h.it⟩
theorem Snd.other{N:Nat}{top:Int}{P Q:List Tie}{t:Tie}(h:Snd N top (P++t::Q))(ht:t.2.2.2.1=false):Snd N top (P++Q):=by
 have hm:∀ x∈P++Q,x∈P++t::Q:=fun x hx=>by
  rcases AjL.1 hx with hx|hx
  ·simp[hx]
  ·simp[hx]
 have htk:∀ k,trk (P++t::Q) k=trk (P++Q) k:=by
  intro k
  rw[show P++t::Q=P++([t]++Q)from rfl,DW,DW,DW]
  congr 1
  unfold trk
  rw[AkN,ht]
  rfl
 refine⟨fun x hx=>h.lvl x (hm x hx),fun x hx=>h.ins x (hm x hx),by rw[← htk];exact h.fo,fun x hx hf=>by rw[← htk];exact h.lie x (hm x hx) hf,fun k hk v hv=>by rw[← htk];exact h.halv k hk v hv⟩
theorem Snd.span{N:Nat}{top:Int}{O:List Tie}(h:Snd N top O)(a b:Int):Con (O.map ed) a b↔Con (trk O 0) a b:=by
 constructor
 ·intro c
  refine c.cut fun e he => ?_
  obtain⟨x,hx,rfl⟩:=Aja.1 he
  cases hf:x.2.2.2.1
  ·exact(h.lie x hx hf).sub (Ho (h.lvl x hx).1)
  ·exact .edge _ (C8.2 ⟨x,hx,hf,(h.lvl x hx).1,rfl⟩)
 ·intro c
  refine c.sub fun e he => ?_
  obtain⟨x,h1,_,_,rfl⟩:=C8.1 he
  exact Aja.2 ⟨x,h1,rfl⟩
end Go.Pev.Pl
end
section
namespace Go.Pev.Pl
theorem Snd.below{N:Nat}{top:Nat}{O:List Tie}(h:Snd N (top:Int) O)(hN:N/2 ^ top≤1){x:Tie}(hx:x∈O)(hne:x.1≠x.2.1):x.2.2.1<(top:Int):=by
 have hl:=h.lvl x hx
 refine AkK fun hn => ?_
 have he:x.2.2.1=(top:Int):=by omega
 obtain⟨⟨a1,a2⟩,b1,b2⟩:=h.ins x hx
 obtain⟨u,hu⟩:=AjU a1
 obtain⟨v,hv⟩:=AjU b1
 have hc:Con (trk O (top:Int)) x.1 x.2.1:=by
  cases hf:x.2.2.2.1
  ·have:=h.lie x hx hf
   rw[he]at this;exact this
  ·exact .edge (l:=trk O (top:Int)) (ed x) (C8.2 ⟨x,hx,hf,by omega,rfl⟩)
 have hu':x.1=(u:Int):=hu
 have hv':x.2.1=(v:Int):=hv
 rw[hu',hv']at hc hne
 have h2:=AhA (N:=N) (a:=u) (b:=v) (by omega) (by omega) (by omega) hc
 have h3:=h.halv top (Int.le_refl _) u (by omega)
 omega
theorem Snd.grown{N:Nat}{top:Int}{O O':List Tie}{come:List Edge}{new:List Tie}(h:Snd N top O)(ht:0≤top)(hp:O'.Perm (O++new))(hc:∀ e∈come,InE N e)
  (hn:∀ x∈new,x.2.2.1=0∧ed x∈come) (htr:(trk O' 0).Perm (trk O 0++Mc (trk O 0) come)):Snd N top O':=by
 have hmem:∀ x,x∈O'↔x∈O∨x∈new:=fun x=>by rw[hp.mem_iff,AjL]
 have hk:∀ k:Int,0<k→∀ e,e∈trk O' k↔e∈trk O k:=by
  intro k hk e
  rw[C8,C8]
  constructor
  ·rintro⟨t,h1,h2,h3,h4⟩
   rcases(hmem t).1 h1 with h1|h1
   ·exact⟨t,h1,h2,h3,h4⟩
   ·have:=(hn t h1).1;omega
  ·rintro⟨t,h1,h2,h3,h4⟩
   exact⟨t,(hmem t).2 (.inl h1),h2,h3,h4⟩
 have hsup:∀ k:Int,∀ e∈trk O k,e∈trk O' k:=fun k e he=>by
  obtain⟨t,h1,h2,h3,h4⟩:=C8.1 he
  exact C8.2 ⟨t,(hmem t).2 (.inl h1),h2,h3,h4⟩
 refine⟨fun x hx => ?_,fun x hx => ?_,?_,fun x hx hf => ?_,fun k hkt v hv => ?_⟩
 ·rcases(hmem x).1 hx with hx|hx
  ·exact h.lvl x hx
  ·have:=(hn x hx).1;omega
 ·rcases(hmem x).1 hx with hx|hx
  ·exact h.ins x hx
  ·exact hc _ (hn x hx).2
 ·refine Fo.perm ?_ htr.symm
  have h1:=Oi come (trk O 0) hc
  have h2:cc N (trk O 0++come)=cc N (trk O 0++Mc (trk O 0) come):=ADp fun a b=>ADh come (trk O 0)
  have h3:=h.fo
  unfold Fo at *
  rw[AjS]
  omega
 ·rcases(hmem x).1 hx with hx|hx
  ·exact(h.lie x hx hf).sub (hsup _)
  ·obtain⟨h0,he⟩:=hn x hx
   rw[h0,AK9 fun e=>htr.mem_iff,← ADh]
   exact .edge (l:=trk O 0++come) (ed x) (AjL.2 (.inr he))
 ·by_cases hk0:k=0
  ·subst hk0
   have:csz N (trk O' ((0:Nat):Int)) (v:Int)≤N:=by
    unfold csz
    have:=List.countP_le_length (p:=fun(w:Nat)=>PA (trk O' ((0:Nat):Int)) (v:Int) (w:Int)) (l:=List.range N)
    rw[AjY]at this
    exact this
   simp only[Nat.pow_zero,Nat.div_one]
   omega
  ·exact Aka (AK6 fun w hw c=>c.sub fun e he=>(hk k (by omega) e).1 he) (h.halv k hkt v hv)
end Go.Pev.Pl
end
section
namespace Go.Pev.Pl
end Go.Pev.Pl
end
section
section
namespace Go.Pev.Pl
structure UF(N:Nat)(s:List Int)(c:Int→Int):Prop where
 len:s.length=N
 lo:∀ k,k<N→0≤s.getD k 0∧s.getD k 0≤(k:Int)
 par:∀ k,k<N→c (s.getD k 0)=c (k:Int)
 root:∀ k,k<N→s.getD k 0=(k:Int)→c (k:Int)=(k:Int)
 le:∀ k,k<N→0≤c (k:Int)∧c (k:Int)≤(k:Int)
theorem UF.idem{N:Nat}{s:List Int}{c:Int→Int}(h:UF N s c):∀ (m k:Nat),k≤m→k<N→c (c (k:Int))=c (k:Int):=by
 intro m
 induction m with
 |zero=>
  intro k hk hN
  have:=h.le k hN
  have e:c (k:Int)=(k:Int):=by omega
  rw[e,e]
 |succ m ih=>
  intro k hk hN
  have h1:=h.lo k hN
  by_cases hr:s.getD k 0=(k:Int)
  ·have e:=h.root k hN hr
   rw[e,e]
  ·obtain⟨j,hj⟩:=AjU h1.1
   have hp:=h.par k hN
   rw[hj]at hp
   rw[← hp]
   exact ih j (by omega) (by omega)
theorem UF.top{N:Nat}{s:List Int}{c:Int→Int}(h:UF N s c){k:Nat}(hk:k<N):s.getD (c (k:Int)).toNat 0=c (k:Int):=by
 have h1:=h.le k hk
 obtain⟨j,hj⟩:=AjU h1.1
 have hi:=h.idem k k (AjO _) hk
 rw[hj]at hi ⊢
 have hjN:j<N:=by omega
 have h2:=h.lo j hjN
 have hp:=h.par j hjN
 obtain⟨i,hi'⟩:=AjU h2.1
 rw[hi']at hp
 have h3:=h.le i (by omega)
 show s.getD j 0=_
 omega
theorem Agu(a b:Int):Ci a b=min a b:=by unfold Ci;split<;>omega
theorem LA{N i x:Nat}(h:(List.range N)[i]? = some x):x=i:=by
 rw[AkO]at h
 obtain⟨h1,h2⟩:=h
 simpa using h2.symm
def AhT(c:Int→Int)(u v:Int):Int→Int:=fun x=>if c x=max (c u) (c v)then min (c u) (c v)else c x
def Ae6(N:Nat)(c:Int→Int)(l:List Edge):Prop:=∀ a b,In (N:Int) a→In (N:Int) b→(c a=c b↔Con l a b)
theorem Ae6.snoc{N:Nat}{c:Int→Int}{l:List Edge}{e:Edge}(h:Ae6 N c l)(h1:In (N:Int) e.1)(h2:In (N:Int) e.2.1):Ae6 N (AhT c e.1 e.2.1) (l++[e]):=by
 intro a b ia ib
 rw[Con.snoc,← h a b ia ib,← h a _ ia h1,← h _ b h2 ib,← h a _ ia h2,← h _ b h1 ib]
 unfold AhT
 generalize c a=x
 generalize c b=y
 generalize c e.1=u
 generalize c e.2.1=v
 split<;>split<;>omega
end Go.Pev.Pl
end
section
namespace Go.Pev.Pl
def sh(n:Int):Prop:=0≤n∧n≤65535
instance (n:Int):Decidable (sh n):=inferInstanceAs (Decidable (_∧_))
def tw(n:Int):List Int:=[n/256,n % 256]
end Go.Pev.Pl
end
section
namespace Go.Pev.Pl
abbrev Res:=Int×Int×List Int×Unit
def val(r:Res):Prop:=(0≤r.1∧r.1≤255)∧sh r.2.1∧sh (r.2.2.1.length:Int)∧∀ x∈r.2.2.1,sh x
instance (r:Res):Decidable (val r):=inferInstanceAs (Decidable (_∧_∧_∧_))
def enc(r:Res):List Int:=r.1::(tw r.2.1++(tw (r.2.2.1.length:Int)++r.2.2.1.flatMap tw))
end Go.Pev.Pl
end
section
namespace Go.Pev.Pl
theorem OX(a:Int):ieq a a=true:=by rw[B9];simp
end Go.Pev.Pl
end
section
namespace Go.Pev.Pl
open Go.RowKit Tok
section
variable {n:Int} {rings:List (List Int)}
theorem APR{l:List Edge}{out:List Int}(h:FC n rings l)(hc:W7 n l out){A:List Int}{u:Int}(hA:A∈rings)(iu:In n u)(hu:u∈A):hd A=cl out u:=by
 have gA:=h.fr.rg A hA
 have ih:=Oq gA
 have hh:=VY gA.2.1
 have h1:Con l u (hd A):=(h.sam u (hd A) iu ih).1 ⟨A,hA,hu,hh⟩
 have h2:=hc.least u (hd A) iu ih h1
 have h3:=hc.isin u iu
 obtain⟨K,hK,k1,k2⟩:=(h.sam u _ iu h3).2 (hc.con u iu)
 have:=h.fr.one hA hK iu.2.2.2 hu k1
 subst this
 have h4:=(Ez gA.2.1).2 _ k2
 rw[gA.2.2.1]at h4
 have:hd A=A.headD 0:=rfl
 omega
end
end Go.Pev.Pl
end
section
namespace Go.Pev.Pl
def It(n:Nat):Int:=((@Z4 idI ((n:Int),())).getD (0,())).1
theorem Ai4:((List.range 65).all fun k=>decide (@Z4 idI ((k:Int),())=some (It k,())))=true:=by kernel_rfl
theorem Aif:((List.range 65).all fun k=>decide (@AKK idI ((k:Int),())=some (It k,())))=true:=by kernel_rfl
theorem AXt(n:Nat)(h:n≤64):Z4 ((n:Int),())=some (It n,()):=by
 rw[show Z4 ((n:Int),()) = @Z4 idI ((n:Int),())from Akf (fun i=>@Z4 i ((n:Int),())) ACS]
 exact AlT (Ajd.1 Ai4 n (by simp;omega))
theorem AOt(n:Nat)(h:n≤64):AKK ((n:Int),())=some (It n,()):=by
 rw[show AKK ((n:Int),()) = @AKK idI ((n:Int),())from Akf (fun i=>@AKK i ((n:Int),())) ACS]
 exact AlT (Ajd.1 Aif n (by simp;omega))
def AhD(a b:Int):Int:=if a<b then -1 else if b<a then 1 else 0
theorem ALA(a b:Int):Dh (a,b,())=some (AhD a b,()):=by
 rw[G1,EZ]
 simp only[LJ,LK,OX,AjT]
 unfold AhD
 rw[Ag,Ag]
 by_cases h:a<b
 ·rw[AjG h,AjP h]
 ·rw[AjF h,AjQ h]
  by_cases h':b<a
  ·rw[AjG h',AjP h']
  ·rw[AjF h',AjQ h']
theorem AgM(a b:Int):orI ([a,b],())=some (if a=0 then b else a,()):=by
 rw[AJy,AG8]
 have e:=PN (step:=Fv) (fun i=>(0,[a,b],AG [a,b],(i:Int),())) [a,b] (fun x => !decide (x=0)) (fun i=>.inl ([a,b].getD i 0,())) (.inr (.inl (0,()))) (by simp)
  (fun i x hi hx=>by
   rw[Fv,AK,AL,AjG hi]
   simp only[Ae hx,An]
   have hi2:i<2:=hi
   rw[AM (by omega)]
   have hg:[a,b].getD i 0=x:=by rw[AjI,hx];rfl
   rw[hg]
   by_cases h:x=0
   ·simp[h]
   ·simp[h])
  (by rw[Fv,AK,AL,AjF (by omega)])
 have e':AS Fv many (0,[a,b],AG [a,b],(0:Int),())=_:=e
 rw[e']
 by_cases h:a=0
 ·by_cases h':b=0
  ·simp[h,h']
  ·simp[h,h',Alq]
 ·simp[h,Alq]
theorem AKT(p x:Tie):∃ y,KZ (p,x,())=some (y,())∧ile 0 y = !decide (ahead p x):=by
 rw[Xn,LV]
 simp only[ALA,AgM]
 refine⟨_,rfl,?_⟩
 rw[Ar]
 by_cases h:ahead p x
 ·rw[AjG h]
  unfold ahead at h
  unfold AhD
  rw[AjF];· rfl
  split<;>split<;>(try split)<;>omega
 ·rw[AjF h]
  unfold ahead at h
  unfold AhD
  rw[AjG];· rfl
  split<;>split<;>(try split)<;>omega
def Mb(N:Nat)(ts:List Tie)(i:Nat):Prop:=
 0≤(ts.getD i zT).1∧(ts.getD i zT).1<(ts.getD i zT).2.1∧(ts.getD i zT).2.1<(N:Int)∧0≤(ts.getD i zT).2.2.1∧(ts.getD i zT).2.2.1≤It N∧(i=0∨ahead (ts.getD (i-1) zT) (ts.getD i zT))
instance (N:Nat)(ts:List Tie)(i:Nat):Decidable (Mb N ts i):=inferInstanceAs (Decidable (_∧_∧_∧_∧_∧_))
def trs(ts:List Tie)(k:Nat):List Edge:=(List.range k).foldl (fun a i=>if(ts.getD i zT).2.2.2.1=true then a++[ed (ts.getD i zT)]else a) []
theorem ALw{α β ρ:Type}(P:β→Prop)[DecidablePred P](g:β→α→α)(fin:α→ρ)(rt:ρ):∀ (xs:List β) (a:α),walk (fun x a=>if P x then .inl (g x a)else .inr rt) fin xs a=if ∀ x∈xs,P x then fin (xs.foldl (fun a x=>g x a) a)else rt:=by
 intro xs
 induction xs with
 |nil=>intro a;simp[walk]
 |cons x xs ih=>
  intro a
  rw[walk]
  by_cases h:P x
  ·rw[AjP h]
   simp only[]
   rw[ih]
   simp[h]
  ·rw[AjQ h]
   simp[h]
theorem Zt(ts:List Tie)(k:Nat):trs ts (k+1)=if(ts.getD k zT).2.2.2.1=true then trs ts k++[ed (ts.getD k zT)]else trs ts k:=by
 unfold trs
 rw[Ake,List.foldl_append]
 rfl
theorem AIM(ts:List Tie):∀ k,(trs ts k).length≤k:=by
 intro k
 induction k with
 |zero=>exact AjO _
 |succ k ih=>
  rw[Zt]
  split
  ·rw[AjS];simp;omega
  ·omega
theorem AfK(ts:List Tie)(e:Edge):∀ k,e∈trs ts k→∃ i,i<k∧e=ed (ts.getD i zT):=by
 intro k
 induction k with
 |zero=>intro h;simp[trs]at h
 |succ k ih=>
  intro h
  rw[Zt]at h
  split at h
  ·rcases AjL.1 h with h|h
   ·obtain⟨i,h1,h2⟩:=ih h;exact⟨i,by omega,h2⟩
   ·simp only[Ajk]at h;exact⟨k,by omega,h⟩
  ·obtain⟨i,h1,h2⟩:=ih h;exact⟨i,by omega,h2⟩
def oks(N:Nat)(ts:List Tie):Prop:=∀ i∈List.range ts.length,Mb N ts i
instance (N:Nat)(ts:List Tie):Decidable (oks N ts):=inferInstanceAs (Decidable (∀ i∈List.range ts.length,Mb N ts i))
theorem AOx(N:Nat)(hN:N≤64)(ts:List Tie)(hs:ts.length≤400):
  AS Du many ((N:Int),ts,It N,ts,AG ts,(0:Int),())=some (if oks N ts then .inr (.inl ((N:Int),ts,()))else .inl (false,())):=by
 have e:=Bn (step:=Du) (fun i (_:Unit)=>((N:Int),ts,It N,ts,AG ts,(i:Int),())) (List.range ts.length) (fun i a=>if Mb N ts i then .inl a else .inr (.inl (false,()))) (fun _=>.inr (.inl ((N:Int),ts,()))) (fun _ _=>True) (by simp;omega)
  (fun i x a hi hx _=>by
   have:=LA hx
   subst this
   rw[AjY]at hi
   have step:Du ((N:Int),ts,It N,ts,AG ts,(x:Int),())=if Mb N ts x then some (.inl ((N:Int),ts,It N,ts,AG ts,((x+1:Nat):Int),()))else some (.inr (.inl (false,()))):=by
    rw[Du,AK,AL,AjG hi]
    simp only[Bs zT hi]
    obtain⟨t,ht⟩:∃ t,ts.getD x zT=t:=⟨_,rfl⟩
    have hk:Mb N ts x↔(0≤t.1∧t.1<t.2.1∧t.2.1<(N:Int)∧0≤t.2.2.1∧t.2.2.1≤It N∧(x=0∨ahead (ts.getD (x-1) zT) t)):=by unfold Mb;rw[ht]
    rw[ht]
    rw[Ag,Ar,Ar,Ag,Ag]
    by_cases h1:t.1<0
    ·rw[AjG h1,AjQ (fun h=>by obtain⟨q1,q2,q3,q4,q5,_⟩:=hk.1 h;omega)]
    rw[AjF h1]
    by_cases h2:t.2.1≤t.1
    ·rw[AjG h2,AjQ (fun h=>by obtain⟨q1,q2,q3,q4,q5,_⟩:=hk.1 h;omega)]
    rw[AjF h2]
    by_cases h3:(N:Int)≤t.2.1
    ·rw[AjG h3,AjQ (fun h=>by obtain⟨q1,q2,q3,q4,q5,_⟩:=hk.1 h;omega)]
    rw[AjF h3]
    by_cases h4:t.2.2.1<0
    ·rw[AjG h4,AjQ (fun h=>by obtain⟨q1,q2,q3,q4,q5,_⟩:=hk.1 h;omega)]
    rw[AjF h4]
    by_cases h5:It N<t.2.2.1
    ·rw[AjG h5,AjQ (fun h=>by obtain⟨q1,q2,q3,q4,q5,_⟩:=hk.1 h;omega)]
    rw[AjF h5]
    simp only[]
    rw[AM (by omega),Ag]
    by_cases h6:x=0
    ·subst h6
     rw[AjF (by omega),AjP (hk.2 ⟨by omega,by omega,by omega,by omega,by omega,.inl rfl⟩)]
    ·rw[AjG (by omega),Ai (by omega),show((x:Int)-1)=((x-1:Nat):Int) by omega]
     simp only[Bs zT (show x-1<ts.length by omega)]
     obtain⟨y,ey,hy⟩:=AKT (ts.getD (x-1) zT) t
     have ey':KZ (((ts.getD (x-1) zT).1,((ts.getD (x-1) zT).2.1,((ts.getD (x-1) zT).2.2.1,((ts.getD (x-1) zT).2.2.2.1,())))),(t.1,(t.2.1,(t.2.2.1,(t.2.2.2.1,())))),())=some (y,()):=ey
     simp only[ey',hy]
     by_cases h7:ahead (ts.getD (x-1) zT) t
     ·rw[AjG h7,AjP (hk.2 ⟨by omega,by omega,by omega,by omega,by omega,.inr h7⟩)]
      rfl
     ·rw[AjF h7,AjQ (fun h=>by rcases(hk.1 h).2.2.2.2.2 with h|h;exact h6 h;exact h7 h)]
      rfl
   by_cases h:Mb N ts x
   ·rw[AjP h]at step ⊢
    refine⟨fun m' h' => ?_,fun r h'=>(by cases h')⟩
    cases h'
    exact⟨step,trivial⟩
   ·rw[AjQ h]at step ⊢
    refine⟨fun m' h'=>(by cases h'),fun r h' => ?_⟩
    cases h'
    exact step)
  (fun a _=>by rw[Du,AjY,AK,AL,AjF (by omega)]) () trivial
 have e':AS Du many ((N:Int),ts,It N,ts,AG ts,(0:Int),())=_:=e
 rw[e',ALw (Mb N ts) (fun _ a=>a)]
 rfl
theorem RQ(N:Nat)(hN:N≤64)(ts:List Tie)(hs:ts.length≤400):
  AS EN many ((N:Int),ts,[],(0:Int),())=some (if oks N ts then .inr (.inl ((N:Int),ts,trs ts ts.length,()))else .inl (false,())):=by
 have e:=Bn (step:=EN) (fun i (a:List Edge)=>((N:Int),ts,a,(i:Int),())) (List.range ts.length) (fun i a=>if Mb N ts i then .inl (if(ts.getD i zT).2.2.2.1=true then a++[ed (ts.getD i zT)]else a)else .inr (.inl (false,()))) (fun a=>.inr (.inl ((N:Int),ts,a,()))) (fun i a=>a.length≤i) (by simp;omega)
  (fun i x a hi hx ha=>by
   have:=LA hx
   subst this
   rw[AjY]at hi
   have step:EN ((N:Int),ts,a,(x:Int),())=if Mb N ts x then some (.inl ((N:Int),ts,if(ts.getD x zT).2.2.2.1=true then a++[ed (ts.getD x zT)]else a,((x+1:Nat):Int),()))else some (.inr (.inl (false,()))):=by
    rw[EN,AK,AL,AjG hi]
    simp only[Bs zT hi,AXt N hN]
    obtain⟨t,ht⟩:∃ t,ts.getD x zT=t:=⟨_,rfl⟩
    have hk:Mb N ts x↔(0≤t.1∧t.1<t.2.1∧t.2.1<(N:Int)∧0≤t.2.2.1∧t.2.2.1≤It N∧(x=0∨ahead (ts.getD (x-1) zT) t)):=by unfold Mb;rw[ht]
    rw[ht]
    rw[Ag,Ar,Ar,Ag,Ag]
    by_cases h1:t.1<0
    ·rw[AjG h1,AjQ (fun h=>by obtain⟨q1,q2,q3,q4,q5,_⟩:=hk.1 h;omega)]
    rw[AjF h1]
    by_cases h2:t.2.1≤t.1
    ·rw[AjG h2,AjQ (fun h=>by obtain⟨q1,q2,q3,q4,q5,_⟩:=hk.1 h;omega)]
    rw[AjF h2]
    by_cases h3:(N:Int)≤t.2.1
    ·rw[AjG h3,AjQ (fun h=>by obtain⟨q1,q2,q3,q4,q5,_⟩:=hk.1 h;omega)]
    rw[AjF h3]
    by_cases h4:t.2.2.1<0
    ·rw[AjG h4,AjQ (fun h=>by obtain⟨q1,q2,q3,q4,q5,_⟩:=hk.1 h;omega)]
    rw[AjF h4]
    by_cases h5:It N<t.2.2.1
    ·rw[AjG h5,AjQ (fun h=>by obtain⟨q1,q2,q3,q4,q5,_⟩:=hk.1 h;omega)]
    rw[AjF h5]
    simp only[AK]
    have hfit:fits ((a.length:Int)+(([(t.1,t.2.1,())]:List Edge).length:Int))=true:=BK (by simp;omega)
    rw[AM (by omega),Ag]
    by_cases h6:x=0
    ·subst h6
     rw[AjF (by omega),AjP (hk.2 ⟨by omega,by omega,by omega,by omega,by omega,.inl rfl⟩)]
     cases ht4:t.2.2.2.1
     ·simp
     ·simp only[hfit]
      simp[ed,A2]
    ·rw[AjG (by omega),Ai (by omega),show((x:Int)-1)=((x-1:Nat):Int) by omega]
     simp only[Bs zT (show x-1<ts.length by omega),An]
     generalize ts.getD (x-1) zT=p at hk ⊢
     rw[Ag,Ar]
     by_cases h7:t.1<p.1
     ·rw[AjG h7,AjQ (fun h=>by rcases(hk.1 h).2.2.2.2.2 with h|h|h<;>omega)]
     rw[AjF h7]
     by_cases h8:p.1=t.1
     ·rw[AjG h8]
      by_cases h9:t.2.1≤p.2.1
      ·rw[AjG h9,AjQ (fun h=>by rcases(hk.1 h).2.2.2.2.2 with h|h|h<;>omega)]
      rw[AjF h9,AjP (hk.2 ⟨by omega,by omega,by omega,by omega,by omega,.inr (.inr ⟨h8,by omega⟩)⟩)]
      cases ht4:t.2.2.2.1
      ·simp
      ·simp only[hfit]
       simp[ed,A2]
     ·rw[AjF h8,AjP (hk.2 ⟨by omega,by omega,by omega,by omega,by omega,.inr (.inl (by omega))⟩)]
      cases ht4:t.2.2.2.1
      ·simp
      ·simp only[hfit]
       simp[ed,A2]
   by_cases h:Mb N ts x
   ·rw[AjP h]at step ⊢
    refine⟨fun m' h' => ?_,fun r h'=>(by cases h')⟩
    cases h'
    refine⟨step,?_⟩
    split
    ·rw[AjS];simp;omega
    ·omega
   ·rw[AjQ h]at step ⊢
    refine⟨fun m' h'=>(by cases h'),fun r h' => ?_⟩
    cases h'
    exact step)
  (fun a _=>by rw[EN,AjY,AK,AL,AjF (by omega)]) [] (AjO _)
 have e':AS EN many ((N:Int),ts,[],(0:Int),())=_:=e
 rw[e',ALw (Mb N ts) (fun i a=>if(ts.getD i zT).2.2.2.1=true then a++[ed (ts.getD i zT)]else a)]
 rfl
end Go.Pev.Pl
end
end
section
section
namespace Go.Pev.Pl
theorem AWj{N:Nat}{ts:List Tie}(hN:N≤64){i:Nat}(h:Mb N ts i):In (N:Int) (ed (ts.getD i zT)).1∧In (N:Int) (ed (ts.getD i zT)).2.1:=by
 obtain⟨q1,q2,q3,_⟩:=h
 exact⟨⟨by omega,by omega,q1,by show(ts.getD i zT).1<_;omega⟩,⟨by omega,by omega,by show 0≤(ts.getD i zT).2.1;omega,q3⟩⟩
theorem AQ6{N:Nat}{ts:List Tie}(hN:N≤64)(h:oks N ts):∀ e∈trs ts ts.length,In (N:Int) e.1∧In (N:Int) e.2.1:=by
 intro e he
 obtain⟨i,hi,rfl⟩:=AfK ts e _ he
 exact AWj hN (h i (by simp[hi]))
theorem AiT{N:Nat}{ts:List Tie}(hN:N≤64)(h:oks N ts):∀ e∈ts.map ed,In (N:Int) e.1∧In (N:Int) e.2.1:=by
 intro e he
 obtain⟨t,ht,rfl⟩:=Aja.1 he
 obtain⟨i,hi,rfl⟩:=Akx ht
 have:=AWj hN (h i (by simp[hi]))
 simpa [hi]using this
theorem ATr{N:Nat}(ts:List Tie)(hs:ts.length≤400)(h:oks N ts):P9 (((N:Int),(ts,())),(0:Int),())=some (trs ts ts.length,()):=by
 rw[VB,NM]
 have e:=Bn (step:=Cq) (fun i (a:List Edge)=>((0:Int),a,ts,AG ts,(i:Int),())) (List.range ts.length) (fun i a=>.inl (if(ts.getD i zT).2.2.2.1=true then a++[ed (ts.getD i zT)]else a)) (fun a=>.inl (a,())) (fun i a=>a.length≤i) (by simp;omega)
  (fun i x a hi hx ha=>by
   refine⟨fun m' h' => ?_,fun r h'=>(by cases h')⟩
   cases h'
   have:=LA hx
   subst this
   rw[AjY]at hi
   have hlv:=(h x (by simp[hi])).2.2.2.1
   constructor
   ·rw[Cq,AK,AL,AjG hi]
    simp only[Bs zT hi,AK]
    have hfit:fits ((a.length:Int)+(([((ts.getD x zT).1,(ts.getD x zT).2.1,())]:List Edge).length:Int))=true:=BK (by simp;omega)
    rw[AM (by omega),Ar,AjG hlv]
    cases ht4:(ts.getD x zT).2.2.2.1
    ·simp
    ·simp only[hfit]
     simp[ed,A2]
   ·split
    ·rw[AjS];simp;omega
    ·omega)
  (fun a _=>by rw[Cq,AjY,AK,AL,AjF (by omega)]) [] (AjO _)
 have e':AS Cq many ((0:Int),[],ts,AG ts,(0:Int),())=_:=e
 simp only[e']
 rw[A0 (fun i a=>if(ts.getD i zT).2.2.2.1=true then a++[ed (ts.getD i zT)]else a)]
 rfl
def cnt(out:List Int)(N:Nat):Nat:=((List.range N).filter fun k=>decide (out.getD k 0=(k:Int))).length
theorem AM8{N:Nat}{rings:List (List Int)}{l:List Edge}{out:List Int}(h:FC (N:Int) rings l)(hc:W7 (N:Int) l out):rings.length=cnt out N:=by
 have hsz:=h.fr.sz
 have hp:(rings.map hd).Perm (((List.range N).filter fun k=>decide (out.getD k 0=(k:Int))).map fun(k:Nat)=>(k:Int)):=by
  rw[List.perm_ext_iff_of_nodup]
  ·intro a
   simp only[Aja,AkE,AkB,AjJ]
   constructor
   ·rintro⟨A,hA,rfl⟩
    have gA:=h.fr.rg A hA
    have ih:In (N:Int) (hd A):=Oq gA
    have hh:=VY gA.2.1
    have:=APR h hc hA ih hh
    obtain⟨_,_,a1,a2⟩:=ih
    refine⟨(hd A).toNat,⟨by omega,?_⟩,by omega⟩
    rw[show out.getD (hd A).toNat 0=cl out (hd A)from rfl,← this]
    omega
   ·rintro⟨k,⟨hk,ho⟩,rfl⟩
    have ik:In (N:Int) (k:Int):=⟨hsz.1,hsz.2,by omega,by omega⟩
    obtain⟨A,hA,hm⟩:=h.fr.cov _ ik
    refine⟨A,hA,?_⟩
    rw[APR h hc hA ik hm]
    unfold cl
    rw[AkG];exact ho
  ·exact(Akq.2 h.fr.up).imp (fun h=>by omega)
  ·refine List.Pairwise.map _ (S:=fun a b=>a≠b) (R:=fun a b=>a≠b) (fun a b h h'=>h (by omega)) ?_
   exact(AmY).filter _
 have:=hp.length_eq
 rw[Aj6,Aj6]at this
 exact this
theorem PE(N:Nat)(hN:N≤64)(p:List Tie)(q:List Edge)(out:List Int)(ho:out.length=N):AS Fk many ((N:Int),p,q,out,(0:Int),(0:Int),())=some (.inl ((N:Int),p,q,(cnt out N:Int),())):=by
 have e:=Bn (step:=Fk) (fun i (a:Nat)=>((N:Int),p,q,out,(a:Int),(i:Int),())) (List.range N) (fun k a=>.inl (if out.getD k 0=(k:Int)then a+1 else a)) (fun a=>.inl ((N:Int),p,q,(a:Int),())) (fun i a=>a≤i) (by simp;omega)
  (fun i x a hi hx ha=>by
   refine⟨fun m' h' => ?_,fun r h'=>(by cases h')⟩
   cases h'
   have:=LA hx
   subst this
   rw[AjY]at hi
   constructor
   ·rw[Fk,AL,AjG hi]
    simp only[Bs 0 (show x<out.length by omega),GG,An]
    rw[AM (by omega),AM (by omega)]
    by_cases h:out.getD x 0=(x:Int)
    ·rw[AjG h,AjP h]
    ·rw[AjF h,AjQ h]
   ·split<;>omega)
  (fun a _=>by rw[Fk,AjY,AL,AjF (by omega)]) 0 (AjO _)
 have e':AS Fk many ((N:Int),p,q,out,(0:Int),(0:Int),())=_:=e
 rw[e',A0 (fun k a=>if out.getD k 0=(k:Int)then a+1 else a)]
 have key:∀ (xs:List Nat) (a:Nat),xs.foldl (fun a k=>if out.getD k 0=(k:Int)then a+1 else a) a=a+(xs.filter fun k=>decide (out.getD k 0=(k:Int))).length:=by
  intro xs
  induction xs with
  |nil=>intro a;rfl
  |cons x xs ih=>
   intro a
   rw[Ajt,ih,AkN]
   by_cases h:out.getD x 0=(x:Int)
   ·simp only[h,Ajw,AjV,AjR];omega
   ·simp only[h,Ajc,Ajj,Ajf]
 rw[key,AkI]
 rfl
theorem AEI(n:Int)(ts:List Tie)(hl:ts.length<4611686018427387904):∃ b:Bool,HM ((n,(ts,())),())=some (b,())∧LO ((n,(ts,())),())=some (b,())∧(b=true→∃ N:Nat,n=(N:Int)∧1≤N∧N≤64∧ts.length≤400∧oks N ts):=by
 by_cases hn:¬ (1≤n∧n≤64)
 ·refine⟨false,?_,?_,fun h=>by cases h⟩
  ·rw[H5,Fl,Ag,Ag]
   by_cases h:n<1
   ·simp only[AjG h]
   ·simp only[AjF h,AjG (show 64<n by omega)]
  ·rw[KX,II]
   simp only[VC,NN,Ar]
   by_cases h:1≤n
   ·simp only[AjG h,AjF (show ¬ n≤64 by omega),Aj2]
   ·simp only[AjF h,Aj2]
 have hn:=Alr.1 hn
 obtain⟨N,rfl⟩:=AjU (show 0≤n by omega)
 have hsz:VD ((N:Int),())=some (true,()):=by
  simp only[VC,NN,Ar,AjG hn.1,AjG hn.2]
 by_cases h4:¬ ts.length≤400
 ·refine⟨false,?_,?_,fun h=>by cases h⟩
  ·rw[H5,Fl]
   simp only[Ag,AK]
   rw[AjF (show ¬ (N:Int)<1 by omega),AjF (show ¬ 64<(N:Int) by omega),AjG (show 400<(ts.length:Int) by omega)]
  ·rw[KX,II]
   simp only[hsz,AjT,Ag,AK]
   rw[AjG (show 400<(ts.length:Int) by omega)]
 have h4:=Alr.1 h4
 have R:=RQ N (by omega) ts h4
 have L:=AOx N (by omega) ts h4
 by_cases ho:¬ oks N ts
 ·rw[AjQ ho]at R L
  refine⟨false,?_,?_,fun h=>by cases h⟩
  ·rw[H5,Fl]
   simp only[Ag,AK]
   rw[AjF (show ¬ (N:Int)<1 by omega),AjF (show ¬ 64<(N:Int) by omega),AjF (show ¬ 400<(ts.length:Int) by omega)]
   simp only[R]
  ·rw[KX,II]
   simp only[hsz,AjT,Ag,AK,AOt N (by omega)]
   rw[AjF (show ¬ 400<(ts.length:Int) by omega)]
   rw[AK]at L
   simp only[L]
 have ho:=Alr.1 ho
 rw[AjP ho]at R L
 have hin:=AQ6 (show N≤64 by omega) ho
 have hlen:=AIM ts ts.length
 obtain⟨out,hc,hcl⟩:=Gk (N:Int) (trs ts ts.length) hn (by omega) hin
 rcases(AXE (N:Int) (trs ts ts.length) hn (by omega)).symm with⟨hno,_⟩|⟨_,rings,hf,hfc⟩
 ·exact absurd hin hno
 have hcount:=AM8 hfc hcl
 have hol:out.length=N:=by have:=hcl.len;omega
 refine⟨decide ((cnt out N:Int)=(N:Int)-(trs ts ts.length).length),?_,?_,fun _=>⟨N,rfl,by omega,by omega,h4,ho⟩⟩
 ·rw[H5,Fl]
  simp only[Ag,AK]
  rw[AjF (show ¬ (N:Int)<1 by omega),AjF (show ¬ 64<(N:Int) by omega),AjF (show ¬ 400<(ts.length:Int) by omega)]
  simp only[R,hc,PE N (by omega) _ _ out hol,An]
  rw[Ai (by omega)]
 ·rw[KX,II]
  simp only[hsz,AjT,Ag,AK,AOt N (by omega)]
  rw[AjF (show ¬ 400<(ts.length:Int) by omega)]
  rw[AK]at L
  simp only[L,ATr ts h4 ho,hf,OX,An,hcount]
  rw[Ai (by omega)]
end Go.Pev.Pl
end
section
namespace Go.Pev.Pl
theorem W7.unique{N:Nat}{l:List Edge}{a b:List Int}(h1:1≤N)(h2:N≤64)(ha:W7 (N:Int) l a)(hb:W7 (N:Int) l b):a=b:=by
 have la:=ha.len
 have lb:=hb.len
 refine Bv (0:Int) (by omega) fun k hk => ?_
 have ik:In (N:Int) (k:Int):=⟨by omega,by omega,by omega,by omega⟩
 have e1:=ha.least _ _ ik (hb.isin _ ik) (hb.con _ ik)
 have e2:=hb.least _ _ ik (ha.isin _ ik) (ha.con _ ik)
 unfold cl at e1 e2
 rw[AkG]at e1 e2
 omega
def InV(N:Nat)(x:Int):Prop:=0≤x∧x<(N:Int)
instance (N:Nat)(x:Int):Decidable (InV N x):=inferInstanceAs (Decidable (_∧_))
end Go.Pev.Pl
end
section
namespace Go.Pev.Pl
end Go.Pev.Pl
end
section
namespace Go.Pev.Pl
def Agy(l:List Edge)(u v:Int):Prop:=((u,(v,())):Edge)∈l∨((v,(u,())):Edge)∈l
instance (l:List Edge)(u v:Int):Decidable (Agy l u v):=inferInstanceAs (Decidable (_∨_))
def Afz(N:Nat)(l:List Edge)(u:Nat):List Edge:=((List.range (N-(u+1))).filter fun i=>decide (Agy l (u:Int) ((u+1+i:Nat):Int))).map fun(i:Nat)=>((u:Int),((u+1+i:Nat):Int),())
def AA9(N:Nat)(l:List Edge):List Edge:=(List.range N).flatMap fun u=>Afz N l u
end Go.Pev.Pl
end
section
namespace Go.Pev.Pl
def Kj(N:Nat)(ts:List Tie)(l:List Edge):List Edge:=(AA9 N l).filter fun x => !decide (x∈ts.map ed)
def AA5(l:List Tie)(t:Tie):List Tie:=l.take (l.findIdx fun x => !decide (ahead x t))++t::l.drop (l.findIdx fun x => !decide (ahead x t))
end Go.Pev.Pl
end
section
namespace Go.Pev.Pl
def valid(N:Nat)(t:Tie):Prop:=0≤t.1∧t.1<t.2.1∧t.2.1<(N:Int)∧0≤t.2.2.1∧t.2.2.1≤It N
theorem ahead.trans{a b c:Tie}(h:ahead a b)(h':ahead b c):ahead a c:=by
 unfold ahead at *
 omega
theorem Y7(N:Nat)(ts:List Tie):oks N ts↔(∀ t∈ts,valid N t)∧ts.Pairwise ahead:=by
 constructor
 ·intro h
  have hv:∀ i,i<ts.length→Mb N ts i:=fun i hi=>h i (by simpa using hi)
  refine⟨fun t ht => ?_,?_⟩
  ·obtain⟨i,hi,rfl⟩:=Akx ht
   obtain⟨q1,q2,q3,q4,q5,_⟩:=hv i hi
   simp only[AjI,AjM hi,Ajn]at q1 q2 q3 q4 q5
   exact⟨q1,q2,q3,q4,q5⟩
  ·have key:∀ (d i:Nat),i+d+1<ts.length→ahead (ts.getD i zT) (ts.getD (i+d+1) zT):=by
    intro d
    induction d with
    |zero=>
     intro i hi
     obtain⟨_,_,_,_,_,q⟩:=hv (i+0+1) hi
     rcases q with q|q
     ·omega
     ·simpa using q
    |succ d ih=>
     intro i hi
     have h1:=ih i (by omega)
     obtain⟨_,_,_,_,_,q⟩:=hv (i+(d+1)+1) hi
     rcases q with q|q
     ·omega
     ·rw[show i+(d+1)+1-1=i+d+1 by omega]at q
      exact h1.trans q
   rw[Akw]
   intro i j hi hj hij
   have:=key (j-i-1) i (by omega)
   rw[show i+(j-i-1)+1=j by omega]at this
   simpa only[AjI,AjM hi,AjM hj,Ajn]using this
 ·rintro⟨h1,h2⟩ i hi
  have hi:i<ts.length:=by simpa using hi
  have e:∀ j (hj:j<ts.length),ts.getD j zT=ts[j]:=fun j hj=>by
   simp only[AjI,AjM hj,Ajn]
  obtain⟨q1,q2,q3,q4,q5⟩:=h1 ts[i] (AkY hi)
  unfold Mb
  rw[e i hi]
  refine⟨q1,q2,q3,q4,q5,?_⟩
  by_cases h0:i=0
  ·exact .inl h0
  ·right
   rw[e (i-1) (by omega)]
   exact(Akw.1 h2) (i-1) i (by omega) hi (by omega)
theorem AGr(l:List Tie)(t:Tie):(AA5 l t).Perm (t::l):=by
 unfold AA5
 refine List.perm_middle.trans ?_
 rw[AkF]
theorem AYk{l:List Tie}{t:Tie}(h:l.Pairwise ahead)(hn:∀ x∈l,¬ (x.1=t.1∧x.2.1=t.2.1)):(AA5 l t).Pairwise ahead:=by
 induction l with
 |nil=>simp[AA5]
 |cons a l ih=>
  rw[Aj9]at h
  have hna:=hn a (by simp)
  have hnl:∀ x∈l,¬ (x.1=t.1∧x.2.1=t.2.1):=fun x hx=>hn x (by simp[hx])
  by_cases ha:ahead a t
  ·have e:AA5 (a::l) t=a::AA5 l t:=by
    unfold AA5
    rw[Alq]
    simp[ha]
   rw[e,Aj9]
   refine⟨fun x hx => ?_,ih h.2 hnl⟩
   rcases AjN.1 ((AGr l t).mem_iff.1 hx)with rfl|hx
   ·exact ha
   ·exact h.1 x hx
  ·have e:AA5 (a::l) t=t::a::l:=by
    unfold AA5
    rw[Alq]
    simp[ha]
   have hta:ahead t a:=by unfold ahead at *;omega
   rw[e,Aj9,Aj9]
   refine⟨fun x hx => ?_,h.1,h.2⟩
   rcases AjN.1 hx with rfl|hx
   ·exact hta
   ·exact hta.trans (h.1 x hx)
end Go.Pev.Pl
end
section
namespace Go.Pev.Pl
theorem ATh(N:Nat)(l:List Edge)(x:Edge):x∈AA9 N l↔0≤x.1∧x.1<x.2.1∧x.2.1<(N:Int)∧Agy l x.1 x.2.1:=by
 unfold AA9 Afz
 simp only[AmX,Aja,AkE,AkB,AjJ]
 constructor
 ·rintro⟨u,hu,i,⟨hi,he⟩,rfl⟩
  exact⟨by show(0:Int)≤(u:Int);omega,by show(u:Int)<((u+1+i:Nat):Int);omega,by show((u+1+i:Nat):Int)<(N:Int);omega,he⟩
 ·obtain⟨a,b,⟨⟩⟩:=x
  rintro⟨h1,h2,h3,h4⟩
  simp only at h1 h2 h3 h4
  obtain⟨u,rfl⟩:=AjU h1
  obtain⟨v,rfl⟩:=AjU (show 0≤b by omega)
  refine⟨u,by omega,v-(u+1),⟨by omega,?_⟩,?_⟩
  ·rw[show u+1+(v-(u+1))=v by omega];exact h4
  ·rw[show u+1+(v-(u+1))=v by omega]
def J7(p x:Edge):Prop:=p.1<x.1∨(p.1=x.1∧p.2.1<x.2.1)
theorem ANK(N:Nat)(l:List Edge):(AA9 N l).Pairwise J7:=by
 unfold AA9
 rw[List.pairwise_flatMap]
 refine⟨fun u _ => ?_,?_⟩
 ·unfold Afz
  rw[Akq]
  refine Alz _ ?_
  refine List.pairwise_lt_range.imp fun h => ?_
  exact .inr ⟨rfl,by show((u+1+_:Nat):Int)<((u+1+_:Nat):Int);omega⟩
 ·refine List.pairwise_lt_range.imp fun h x hx y hy => ?_
  unfold Afz at hx hy
  simp only[Aja]at hx hy
  obtain⟨i,_,rfl⟩:=hx
  obtain⟨j,_,rfl⟩:=hy
  exact .inl (by simp only;omega)
theorem UN(N:Nat)(ts:List Tie)(l:List Edge)(x:Edge):x∈Kj N ts l↔(0≤x.1∧x.1<x.2.1∧x.2.1<(N:Int)∧Agy l x.1 x.2.1)∧¬ x∈ts.map ed:=by
 unfold Kj
 rw[AkE,ATh]
 simp
theorem AU5(N:Nat)(ts:List Tie)(l:List Edge):(Kj N ts l).Pairwise J7:=(ANK N l).filter _
end Go.Pev.Pl
end
section
namespace Go.Pev.Pl
open Tok
instance (n v:Int):Decidable (In n v):=inferInstanceAs (Decidable (_∧_))
instance (n:Int):Decidable (Sz n):=inferInstanceAs (Decidable (_∧_))
theorem IN(n v:Int):AKY (n,v,())=some (decide (In n v),()):=by
 rw[Ags,AUO]
 simp only[Ar,Ag]
 by_cases h1:1≤n<;>by_cases h2:n≤64<;>by_cases h3:0≤v<;>simp[In,h1,h2,h3]
theorem AHk(n u v:Int):AQU (n,u,v,())=some (EB n u v,()):=by
 rw[Ae0,ALX]
 simp only[IN,EB,An]
 by_cases h1:In n u
 ·by_cases h2:In n v
  ·by_cases h3:u=v
   ·simp[h1,h2,h3]
   ·obtain⟨a1,a2,a3,a4⟩:=h1
    obtain⟨b1,b2,b3,b4⟩:=h2
    have hb:=Fw a1 a2 a3 (by omega)
    have e1:u*n=n*u:=Int.mul_comm _ _
    have e2:n*(u+1)=n*u+n:=by rw[AmP,AmQ]
    rw[e1,Ai (n:=n*u) (by omega),Ai (n:=n+n*u) (by omega),Ai (n:=n+n*u+v) (by omega),e2]
    have e3:n+n*u+v=n*u+n+v:=by omega
    simp[In,a1,a2,a3,a4,b3,b4,h3,e3]
  ·simp[h1,h2]
 ·simp[h1]
theorem XA(n t:Int)(ht:-9223372036854775808≤t∧t≤9223372036854775807):Yz (n,t,())=some (O4 (CD n t)):=by
 rw[ARE,TT]
 simp only[IN,Ag,Ar]
 by_cases hi:In n t
 ·simp only[hi,AjV,CD,Ajw,O4]
 ·simp only[hi,Ajj]
  by_cases h1:n<1
  ·have hs:¬ Sz n:=fun h=>by have:=h.1;omega
   simp only[h1,AjV,CD,hi,Ajc,hs,AlU,O4]
  ·simp only[h1,Ajj]
   by_cases h2:64<n
   ·have hs:¬ Sz n:=fun h=>by have:=h.2;omega
    simp only[h2,AjV,CD,hi,Ajc,hs,AlU,O4]
   ·have a1:1≤n:=by omega
    have a2:n≤64:=by omega
    have hb:=Fw (u:=n) a1 a2 (by omega) (by omega)
    have e3:n*(n+1)=n*n+n:=by rw[AmP,AmQ]
    rw[Ai (n:=n*n) (by omega),Ai (n:=n+n*n) (by omega)]
    simp only[h2,Ajj]
    by_cases h3:t<n
    ·have:¬ n≤t:=by omega
     simp only[h3,AjV,CD,hi,Ajc,this,AlU,and_false,O4]
    ·simp only[h3,Ajj]
     by_cases h4:n+n*n≤t
     ·have:¬ t<n*(n+1):=by omega
      simp only[h4,AjV,CD,hi,Ajc,this,AlU,and_false,O4]
     ·obtain⟨d1,d2,d3⟩:=AK4 (t:=t) ⟨a1,a2⟩ (by omega) (by omega)
      have q1:=d1.2.2.1
      have q2:=d1.2.2.2
      rw[Ai (n:=t-n) (by omega)]
      have hq:(t-n).tdiv n=t/n-1:=by
       rw[AlL (by omega)]
       have:=Int.add_mul_ediv_right t (-1) (show n≠0 by omega)
       rw[show t-n=t + -1*n by omega,this];omega
      have hm:(t-n).tmod n=t % n:=by
       rw[Int.tmod_eq_emod_of_nonneg (by omega)]
       have:=Int.add_mul_emod_self_right t (-1) n
       rw[show t-n=t + -1*n by omega,this]
      simp only[h4,Ajj,Ts,Tt,AJR,AA2]
      rw[AjQ (by omega),AjQ (by omega),hq,hm,Ai (n:=t/n-1) (by omega)]
      simp only[]
      rw[An,CD,AjQ hi]
      by_cases h5:t/n-1=t % n
      ·rw[AjQ (by intro h;exact h.2.2.2 h5),AjG h5];rfl
      ·rw[AjP ⟨⟨a1,a2⟩,by omega,by omega,h5⟩,AjF h5];rfl
theorem NO(xs ys:List (List Int))(hs:xs.length<9223372036854775808)(hi:∀ x∈xs,x.length<9223372036854775808):LQ (xs,ys,())=some (decide (xs=ys),()):=by
 rw[ACV,OS,ACl]
 by_cases hl:xs.length=ys.length
 ·rw[AjG hl]
  simp only[AjT]
  rcases AMt (step:=Dc) (fun i=>(xs,ys,((i:Nat):Int),())) xs.length (fun i => !decide (xs.getD i []=ys.getD i [])) (fun _=>.inl (false,())) (.inr (.inl ())) hs (fun i hii=>by
   have hm:(xs.getD i []).length<9223372036854775808:=hi _ (by simp[hii])
   rw[Dc,AK,AL,AjG hii]
   simp (disch:=first|omega|exact hm) only[Bs ([]:List Int),AM,QI]
   by_cases h:xs.getD i []=ys.getD i []
   ·rw[AjG h];simp
   ·rw[AjF h];simp) (by rw[Dc,AK,AL,AjF (by omega)])with⟨k,hk,hP,_,e⟩|⟨h,e⟩
  ·have e':AS Dc many (xs,ys,(0:Int),())=_:=e
   rw[e']
   have:xs≠ys:=Xk ([]:List Int) (j:=k) (by simpa using hP)
   simp[this]
  ·have e':AS Dc many (xs,ys,(0:Int),())=_:=e
   rw[e']
   have:xs=ys:=Bv ([]:List Int) hl fun j hj=>by simpa using h j hj
   simp[this]
 ·rw[AjF hl]
  have:xs≠ys:=fun e=>hl (by rw[e])
  simp[this]
theorem AOq(N:Nat)(hN:N≤64)(c:Int):∀ (k i n:Nat),i+k=N→k<n→AX KW n ((N:Int),c,(N:Int),BT i,(i:Int),())=some (.inl (c,(N:Int),BT N,())):=by
 intro k
 induction k with
 |zero=>
  intro i n hi hn
  obtain⟨n,rfl⟩:∃ k,n=k+1:=⟨n-1,by omega⟩
  have:i=N:=by omega
  subst this
  rw[AX,KW,AL,AjF (by omega)]
 |succ k ih=>
  intro i n hi hn
  obtain⟨n,rfl⟩:∃ k,n=k+1:=⟨n-1,by omega⟩
  rw[AX,KW,AL,AjG (by omega)]
  simp only[AK,XG,AjR,Aji]
  rw[BK (by omega),AM (by omega)]
  simp only[DC,← RA]
  exact ih (i+1) n (by omega) (by omega)
theorem ATp(n:Int):AKI (n,())=some (HQ n):=by
 have hm:4294967296<many:=by simp only[many];omega
 rw[AZa,ACE,HQ]
 simp only[Ag]
 by_cases h1:n<1
 ·have:¬ Sz n:=fun h=>by have:=h.1;omega
  simp[h1,this]
 ·by_cases h2:64<n
  ·have:¬ Sz n:=fun h=>by have:=h.2;omega
   simp[h1,h2,this]
  ·obtain⟨N,rfl⟩:=AjU (show 0≤n by omega)
   have hS:Sz (N:Int):=⟨by omega,by omega⟩
   have e:=AOq N (by omega) 0 N 0 many (by omega) (by omega)
   have e':AX KW many ((N:Int),0,(N:Int),[],(0:Int),())=_:=e
   simp[h1,h2,hS,Au,e']
end Go.Pev.Pl
end
section
namespace Go.Pev.Pl
theorem NA(xs:List Int)(t:Int)(hs:xs.length<9223372036854775808):I4 (xs,t,())=some (pos xs t,()):=by
 rw[ABG,OP]
 have e:=PN (step:=ES) (fun i=>(xs,t,(i:Int),())) xs (fun x=>decide (x=t)) (fun i=>.inl ((i:Int),())) (.inr (.inl ())) hs
  (fun i x hi hx=>by
   rw[ES,AK,AL,AjG hi]
   simp only[Ae hx,An]
   by_cases h:x=t
   ·simp[h]
   ·simp only[h,Ajj];rw[AM (by omega)];simp)
  (by rw[ES,AK,AL,AjF (by omega)])
 have e':AS ES many (xs,t,(0:Int),())=_:=e
 rw[e',AXN,pos]
 by_cases h:t∈xs<;>simp[h]
instance (xs:List Int):Decidable (Rt xs):=inferInstanceAs (Decidable (_∧_∧_))
theorem I3(xs:List Int):HN (xs,())=some (decide (Rt xs),()):=by
 rw[AAz,OM,AK,Ag]
 by_cases hl:xs.length≤1000
 ·rw[AjF (by omega)]
  simp only[]
  rcases AMt (step:=DZ) (fun i=>(xs,((i:Nat):Int),())) xs.length (fun i=>decide (xs.getD i 0<0)||decide (10000<xs.getD i 0)||decide (xs.getD i 0∈xs.take i)) (fun _=>.inl (false,())) (.inr (.inl ())) (by omega) (fun i hi=>by
   rw[DZ,AK,AL,AjG hi]
   have hpl:I4 (xs.take i,xs.getD i 0,())=some (pos (xs.take i) (xs.getD i 0),()):=NA _ _ (by simp;omega)
   simp (disch:=omega) only[Bs (0:Int),Ky,hpl,AM,Ag,Ar]
   by_cases h1:xs.getD i 0<0
   ·simp only[h1,AjV];simp
   ·by_cases h2:10000<xs.getD i 0
    ·simp only[h1,h2,AjV,Ajj];simp
    ·by_cases h3:xs.getD i 0∈xs.take i
     ·obtain⟨k,e,_⟩:=AJW h3
      rw[e]
      simp only[h1,h2,h3,AjV,Ajj];simp
     ·rw[Ra h3]
      simp only[h1,h2,h3,Ajj];simp) (by rw[DZ,AK,AL,AjF (by omega)])with⟨k,hk,hP,_,e⟩|⟨h,e⟩
  ·have e':AS DZ many (xs,(0:Int),())=_:=e
   rw[e']
   have:¬ Rt xs:=by
    rintro⟨_,h1,h2⟩
    have hm:xs.getD k 0∈xs:=by
     rw[AjI,AjM hk,Ajn];exact AkY hk
    have:=h1 _ hm
    have h3:=(Rj xs).1 h2 k hk
    have c1:¬ xs.getD k 0<0:=by omega
    have c2:¬ 10000<xs.getD k 0:=by omega
    rw[AjF c1,AjF c2,AjF h3]at hP
    cases hP
   simp[this]
  ·have e':AS DZ many (xs,(0:Int),())=_:=e
   rw[e']
   have:Rt xs:=by
    have key:∀ j,j<xs.length→¬ xs.getD j 0<0∧¬ 10000<xs.getD j 0∧xs.getD j 0∉xs.take j:=fun j hj=>by
     have:=h j hj
     rw[AlQ,AlQ,AkA,AkA,AkA]at this
     exact⟨this.1.1,this.1.2,this.2⟩
    refine⟨hl,fun x hx => ?_,(Rj xs).2 fun j hj=>(key j hj).2.2⟩
    obtain⟨j,hj,rfl⟩:=Akx hx
    obtain⟨k1,k2,_⟩:=key j hj
    rw[AjI,AjM hj,Ajn]at k1 k2
    omega
   simp[this]
 ·rw[AjG (by omega)]
  have:¬ Rt xs:=fun h=>hl h.1
  simp[this]
theorem QP(xs:List Int)(t:Int)(hs:xs.length<9223372036854775808):AC4 (xs,t,())=some (JI xs t):=by
 rw[AaM,AC3,JI]
 simp only[NA xs t hs,I3]
 by_cases hr:Rt xs
 ·have hl:=hr.1
  simp only[hr,AjV,AjT,Alf]
  by_cases h:t∈xs
  ·have hk:xs.findIdx (fun x=>decide (x=t))<xs.length:=AlZ.2 ⟨t,h,by simp⟩
   rw[pos,AjP h,AjP h,A6,rot]
   generalize xs.findIdx (fun x=>decide (x=t))=k at *
   rw[Ag,AjF (by omega)]
   simp only[Gq (Ak8 hk),Ky (Ak8 hk)]
   rw[BK (by simp only[AK,Aji,Aj3];omega)]
   simp only[]
   rw[BK (by simp only[AK,DC,Ajs,Ajb,Aj3];omega)]
   simp only[DC,Ajs]
  ·rw[Ra h,AjQ h,Ag]
   simp
 ·simp[hr]
theorem XJ(xs:List Int):Y6 (xs,())=some (plain xs,()):=by
 rw[ASe,Tu,plain]
 simp only[I3]
 by_cases hr:Rt xs
 ·have hl:=hr.1
  simp only[hr,AjV,AjT,Alf]
  cases xs with
  |nil=>simp[AK,B9]
  |cons x xs=>
   rw[AK,An,AjF (by simp only[AjR];omega)]
   have i0:idx (x::xs) (0:Int)=some x:=by rw[Gy];rfl
   simp only[i0]
   have e:=Bn (step:=H8) (fun i (a:Int)=>(x::xs,a,(i:Int),())) (x::xs) (fun y a=>.inl (Ci a y)) (fun a=>.inl (x::xs,a,())) (fun _ _=>True) (by omega)
    (fun i y a hi hy _=>by
     refine⟨fun m' h' => ?_,fun r h'=>by cases h'⟩
     cases h'
     rw[H8,AK,AL,AjG hi]
     simp only[Ae hy]
     rw[AM (by omega)]
     exact⟨rfl,trivial⟩)
    (fun a _=>by rw[H8,AK,AL,AjF (by omega)]) x trivial
   have e':AS H8 many (x::xs,x,(0:Int),())=_:=e
   rw[e',A0]
   have hmin:(x::xs).foldl (fun a y=>Ci a y) x=Gw (x::xs):=by
    rw[Ajt,Gw]
    have:Ci x x=x:=by rw[Ci];split<;>rfl
    rw[this]
   rw[hmin]
   have hm:=(Ez (xs:=x::xs) (by simp)).1
   simp only[QP (x::xs) _ (by omega),JI,hr,hm,and_self,Ajw]
   simp
 ·simp[hr]
end Go.Pev.Pl
end
section
namespace Go.Pev.Pl
open Tok
noncomputable instance (n:Int) (xs:List Int):Decidable (TI n xs):=Classical.propDecidable _
end Go.Pev.Pl
end
section
namespace Go.Pev.Pl
open Tok
theorem AIi(n t u:Int)(ht:-9223372036854775808≤t∧t≤9223372036854775807):AAC (n,t,u,())=some (Kz n t u,()):=by
 rw[AMW,Pf,Kz]
 simp only[XA n t ht,An]
 cases CD n t with
 |none=>rfl
 |some x=>cases x with
  |ver v=>
   by_cases h:v=u<;>simp[O4,st,h]
  |arc p q=>
   by_cases h:q=u<;>simp[O4,st,h]
end Go.Pev.Pl
end
section
namespace Go.Pev.Pl
open Tok
theorem AfN(n:Int)(l:List Int)(i:Nat)(hi:i<l.length)(hl:l.length<1073741824)(d5 d6 d7 d8:Bool)(d9 d10:Int)(d11:Bool)(d12 d13 d14 d15 d16:Int)(d17:Bool)(d18 d19 d20 d21 d22 d23 d24 d25 d26:Int)(d27:Bool):
  ∀ (m k cnt:Nat) (acc:List Int),k+m=l.length→acc.length≤k→m<cnt →
  AX KG cnt (n,l,(i:Int),acc,(k:Int),d5,d6,d7,d8,d9,d10,d11,d12,d13,d14,d15,d16,d17,d18,d19,d20,d21,d22,d23,d24,d25,d26,d27,()) =
   some (.inl (n,(i:Int),acc++(List.range' k m).map (fun k=>l.getD ((i+k) % l.length) 0),d5,d6,d7,d8,d9,d10,d11,d12,d13,d14,d15,d16,d17,d18,l,d19,d20,d21,d22,d23,d24,d25,d26,d27,())):=by
 intro m
 induction m with
 |zero=>
  intro k cnt acc hk ha hc
  obtain⟨cnt,rfl⟩:∃ c,cnt=c+1:=⟨cnt-1,by omega⟩
  rw[AX,KG,AK,AL,AjF (by omega)]
  simp
 |succ m ih=>
  intro k cnt acc hk ha hc
  obtain⟨cnt,rfl⟩:∃ c,cnt=c+1:=⟨cnt-1,by omega⟩
  have hm:(i+k) % l.length<l.length:=Ak6 _ (by omega)
  rw[AX,KG,AK,AL,AjG (by omega)]
  simp only[]
  rw[wrap_add (by omega),EH (by omega)]
  simp only[Bs (0:Int) hm,GG]
  rw[BK (by simp only[AK,AjR,Aji];omega),AM (by omega)]
  simp only[DC]
  rw[ih (k+1) cnt _ (by omega) (by simp;omega) (by omega)]
  simp[AmW]
theorem AQ9(n:Int)(l:List Int)(i:Nat)(hi:i<l.length)(h1:1<l.length)(hl:l.length<1073741824)(hr:∀ x∈l, -9223372036854775808≤x∧x≤9223372036854775807):
  Dq (n,l,false,(i:Int),())=if LU n l i then some (.inl (n,Fm l i,true,((i+1:Nat):Int),()))else some (.inl (n,l,false,((i+1:Nat):Int),())):=by
 have hmany:4294967296<many:=by simp only[many];omega
 have m1:(i+1) % l.length<l.length:=Ak6 _ (by omega)
 have m2:(i+2) % l.length<l.length:=Ak6 _ (by omega)
 have m0:(i+l.length-1) % l.length<l.length:=Ak6 _ (by omega)
 have hin:∀ {k:Nat},k<l.length→l.getD k 0∈l:=fun {k} hk=>by
  rw[AjI,AjM hk,Ajn];exact AkY hk
 have w2:IntKind.wrap .i64 ((i:Int)+2)=((i+2:Nat):Int):=by rw[Ai (by omega)];omega
 have w3:IntKind.wrap .i64 ((i:Int)+(l.length:Int))=((i+l.length:Nat):Int):=wrap_add (by omega)
 have w4:IntKind.wrap .i64 (((i+l.length:Nat):Int)-1)=((i+l.length-1:Nat):Int):=BG (by omega)
 have f4:ile (4:Int) (l.length:Int)=decide (4≤l.length):=by
  rw[Ar]
  by_cases h:4≤l.length
  ·rw[AjG h,AjG (by omega)]
  ·rw[AjF h,AjF (by omega)]
 rw[Dq,AK,AL,AjG hi]
 simp only[Aj2,Bs (0:Int) hi]
 rw[AM (by omega),w2,EH (by omega),EH (by omega)]
 simp only[Bs (0:Int) m1,Bs (0:Int) m2,GG,XA n _ (hr _ (hin hi)),f4,LU]
 by_cases h4:4≤l.length
 ·simp only[h4,AjV,Ale]
  cases ht:CD n (l.getD i 0)with
  |none=>rfl
  |some t=>
   cases t with
   |ver v=>rfl
   |arc u v=>
    simp only[O4,An,AHk]
    by_cases c1:l.getD ((i+1) % l.length) 0=v
    ·simp only[c1,AjV,Ale]
     by_cases c2:l.getD ((i+2) % l.length) 0=EB n v u
     ·simp only[c2,AjV,Ale,w3,w4]
      rw[EH (by omega)]
      simp only[Bs (0:Int) m0,GG,AIi n _ u (hr _ (hin m0))]
      cases Kz n (l.getD ((i+l.length-1) % l.length) 0) u
      ·rfl
      ·simp only[Ajw,Au]
       have e:=AfN n l i hi hl false true true true v v true (EB n v u) n v u (EB n v u) true n (i:Int) (l.length:Int) ((i+l.length:Nat):Int) ((i+l.length-1:Nat):Int) (l.length:Int) (((i+l.length-1) % l.length:Nat):Int) (l.getD ((i+l.length-1) % l.length) 0) u true (l.length-3) 3 many [] (by omega) (by simp) (by omega)
       have e':AX KG many (n,l,(i:Int),[],(3:Int),_)=_:=e
       simp only[e',AM (show i+1<9223372036854775808 by omega)]
       rfl
     ·simp only[c2,Ajj,Alj,Ajf,Ajc]
    ·simp only[c1,Ajj,Alj,Ajf,Ajc]
 ·simp only[h4,Ajj,Alj,Ajf,Ajc]
theorem AfO(n:Int)(l:List Int)(h1:1<l.length)(hl:l.length<1073741824)(hr:∀ x∈l, -9223372036854775808≤x∧x≤9223372036854775807):
  ∀ (m i cnt:Nat),i+m=l.length→m+1<cnt →
  (∃ k,k<l.length∧LU n l k=true∧AX Dq cnt (n,l,false,(i:Int),())=some (.inl (n,Fm l k,true,()))) ∨
  ((∀ k,i≤k→k<l.length→LU n l k=false)∧AX Dq cnt (n,l,false,(i:Int),())=some (.inl (n,l,false,()))):=by
 intro m
 induction m with
 |zero=>
  intro i cnt hi hc
  obtain⟨cnt,rfl⟩:∃ c,cnt=c+1:=⟨cnt-1,by omega⟩
  right
  refine⟨fun k q1 q2=>by omega,?_⟩
  rw[AX,Dq,AK,AL,AjF (by omega)]
 |succ m ih=>
  intro i cnt hi hc
  obtain⟨cnt,rfl⟩:∃ c,cnt=c+1:=⟨cnt-1,by omega⟩
  rw[AX,AQ9 n l i (by omega) h1 hl hr]
  cases hlf:LU n l i
  ·simp only[Ajf,Ajc]
   rcases ih (i+1) cnt (by omega) (by omega)with h|⟨h,e⟩
   ·exact .inl h
   ·refine .inr ⟨fun k q1 q2 => ?_,e⟩
    by_cases ek:k=i
    ·rw[ek];exact hlf
    ·exact h k (by omega) q2
  ·simp only[Ajw]
   obtain⟨cnt,rfl⟩:∃ c,cnt=c+1:=⟨cnt-1,by omega⟩
   refine .inl ⟨i,by omega,hlf,?_⟩
   rw[AX,Dq]
   cases ilt ((i+1:Nat):Int) (AG (Fm l i))<;>rfl
theorem AfP(n:Int):∀ (m:Nat) (l:List Int) (cnt:Nat),l.length=m→l.length<1073741824→(∀ x∈l, -9223372036854775808≤x∧x≤9223372036854775807)→l.Nodup→m<cnt →
  (¬ TI n l∧AX OF cnt (n,l,())=some (.inl (false,()))) ∨
  ∃ l',AX OF cnt (n,l,())=some (.inr (.inl (n,l',())))∧l'.length≤1∧(TI n l↔TI n l'):=by
 intro m
 induction m using Nat.strongRecOn with
 |_ m ih=>
 intro l cnt hm hl hr hn hc
 have hmany:4294967296<many:=by simp only[many];omega
 obtain⟨cnt,rfl⟩:∃ c,cnt=c+1:=⟨cnt-1,by omega⟩
 rw[AX,OF,AK,Ag]
 by_cases h1:1<l.length
 ·rw[AjG (by omega)]
  simp only[Au]
  rcases AfO n l h1 hl hr l.length 0 many (by omega) (by omega)with⟨k,k1,k2,e⟩|⟨k1,e⟩
  ·have e':AX Dq many (n,l,false,(0:Int),())=_:=e
   simp only[e',AjT]
   have hred:=AT5 k1 k2
   have hiff:=Ah4 hred hn
   have hlen:(Fm l k).length=l.length-3:=by simp[Fm]
   rcases ih (l.length-3) (by omega) (Fm l k) cnt hlen (by omega) (fun x hx=>hr x (ASS k1 x hx)) (AYj hred hn) (by omega)with⟨q1,q2⟩|⟨l',q1,q2,q3⟩
   ·exact .inl ⟨fun h=>q1 (hiff.1 h),q2⟩
   ·exact .inr ⟨l',q1,q2,hiff.trans q3⟩
  ·have e':AX Dq many (n,l,false,(0:Int),())=_:=e
   simp only[e',Aj2]
   refine .inl ⟨fun h => ?_,by trivial⟩
   obtain⟨l',hl'⟩:=Aia h h1
   obtain⟨i,i1,i2⟩:=ASW hl'
   rw[k1 i (by omega) i1]at i2
   cases i2
 ·rw[AjF (by omega)]
  exact .inr ⟨l,rfl,by omega,Iff.rfl⟩
theorem ARA(n:Int)(l:List Int)(hl:l.length<1073741824)(hr:∀ x∈l, -9223372036854775808≤x∧x≤9223372036854775807)(hn:l.Nodup):ARB (n,l,())=some (decide (TI n l),()):=by
 have hmany:4294967296<many:=by simp only[many];omega
 rw[AXo,Zz,BK (by simp only[AK,Aji];omega)]
 simp only[DC,Ajs,Au]
 rcases AfP n l.length l many rfl hl hr hn (by omega)with⟨q1,q2⟩|⟨l',q1,q2,q3⟩
 ·rw[q2,AjF q1]
 ·rw[q1]
  simp only[AK,An]
  match l',q2,q3 with
  |[],_,q3=>
   have:¬ TI n l:=fun h=>Ae9 n (q3.1 h)
   simp[this]
  |[t],_,q3=>
   rw[Ae8]at q3
   have i0:idx [t] (0:Int)=some t:=by rw[Gy];rfl
   have d0:AY [t] 0 (0:Int)=t:=rfl
   rw[AjG (by simp)]
   simp only[i0,d0,IN]
   by_cases h:In n t
   ·rw[AjG h,AjG (q3.2 h)]
   ·rw[AjF h,AjF (fun h2=>h (q3.1 h2))]
end Go.Pev.Pl
end
section
namespace Go.Pev.Pl
open Tok
noncomputable instance (n:Int) (rings:List (List Int)):Decidable (RF n rings):=Classical.propDecidable _
noncomputable instance (n:Int) (xs:List Int):Decidable (RG n xs):=Classical.propDecidable _
end Go.Pev.Pl
end
end
section
section
namespace Go.Pev.Pl
open Tok
theorem AFA(N:Nat)(hN:N≤64)(l:List Int)(hl:l.length<1073741824)(h0:∀ t∈l,0≤t)(d1:List (List Int))(d3 d5:Int)(d8:List Int)(d9:Int)(d10:Bool)(d11:Int)(d12:List Int)(d13 d14:Bool)(d15 d16:List Int)(d17:List (List Int))(d18:List Int)(d19:List (List Int))(d20 d21:Bool)(d22:List Int)(d23 d24:Int)(d25:Bool):
  ∀ (m k cnt:Nat) (met:List Bool) (seen:List Int),k+m=l.length→MB N met seen→(l.drop k).Nodup→seen.length+m<4611686018427387904→m<cnt →
  ((∀ t∈l.drop k,t<(N:Int)→t∉seen)∧∃ met',AX EO cnt ((N:Int),d1,met,d3,(seen.length:Int),d5,l,(k:Int),d8,d9,d10,d11,d12,d13,d14,d15,d16,d17,d18,d19,d20,d21,d22,d23,d24,d25,()) =
    some (.inr (.inl ((N:Int),d1,met',d3,((seen++(l.drop k).filter (fun t=>decide (t<(N:Int)))).length:Int),d5,d8,d9,d10,d11,d12,d13,d14,d15,d16,d17,d18,d19,d20,d21,d22,d23,d24,d25,())))∧MB N met' (seen++(l.drop k).filter (fun t=>decide (t<(N:Int))))) ∨
  (¬ (∀ t∈l.drop k,t<(N:Int)→t∉seen)∧AX EO cnt ((N:Int),d1,met,d3,(seen.length:Int),d5,l,(k:Int),d8,d9,d10,d11,d12,d13,d14,d15,d16,d17,d18,d19,d20,d21,d22,d23,d24,d25,())=some (.inl (false,()))):=by
 intro m
 induction m with
 |zero=>
  intro k cnt met seen hk hm hn hsl hc
  obtain⟨cnt,rfl⟩:∃ c,cnt=c+1:=⟨cnt-1,by omega⟩
  have e:l.drop k=[]:=AkZ (by omega)
  rw[e]
  refine .inl ⟨by simp,met,?_,by simpa using hm⟩
  rw[AX,EO,AK,AL,AjF (by omega)]
  simp
 |succ m ih=>
  intro k cnt met seen hk hm hn hsl hc
  obtain⟨cnt,rfl⟩:∃ c,cnt=c+1:=⟨cnt-1,by omega⟩
  have hk':k<l.length:=by omega
  have e:l.drop k=l.getD k 0::l.drop (k+1):=by
   rw[AkC hk',AjI,AjM hk',Ajn]
  have hpos:0≤l.getD k 0:=h0 _ (by rw[AjI,AjM hk',Ajn];exact AkY hk')
  rw[AX,EO,AK,AL,AjG hk']
  simp only[Bs (0:Int) hk']
  rw[e]at hn ⊢
  generalize l.getD k 0=t at *
  rw[Aju]at hn
  rw[AM (show k+1<9223372036854775808 by omega),Ag]
  by_cases ht:t<(N:Int)
  ·rw[AjG ht]
   obtain⟨q,rfl⟩:=AjU hpos
   have hq:q<met.length:=by rw[hm.1];omega
   have hmq:=hm.2 q (by omega)
   simp only[Bs false hq,GG,Nj,hmq]
   by_cases hs:(q:Int)∈seen
   ·rw[AjG hs]
    exact .inr ⟨fun h=>h (q:Int) (by simp) ht hs,rfl⟩
   ·rw[AjF hs]
    simp only[]
    have hm':MB N (met.set q true) (seen++[(q:Int)]):=by
     refine⟨by simp[hm.1],fun y hy => ?_⟩
     by_cases e2:y=q
     ·subst e2
      simp[AjI,hq]
     ·have h3:=hm.2 y hy
      have e3:¬ (y:Int)=(q:Int):=by omega
      rw[AjI,Ajx (Ajy e2),← AjI,h3]
      simp[e3]
    have hlen:(((seen.length:Nat):Int))=((seen.length:Nat):Int):=rfl
    have hw:IntKind.wrap .i64 ((seen.length:Int)+1)=((seen++[(q:Int)]).length:Int):=by
     rw[Ai (by omega)];simp
    rw[hw]
    have hiff:(∀ y∈(q:Int)::l.drop (k+1),y<(N:Int)→y∉seen)↔∀ y∈l.drop (k+1),y<(N:Int)→y∉seen++[(q:Int)]:=by
     constructor
     ·intro h y hy hyn hm2
      simp only[AjL,Ajk]at hm2
      rcases hm2 with h2|rfl
      ·exact h y (Ajh _ hy) hyn h2
      ·exact hn.1 hy
     ·intro h y hy hyn hm2
      rcases AjN.1 hy with rfl|hy
      ·exact hs hm2
      ·exact h y hy hyn (by simp[hm2])
    rcases ih (k+1) cnt _ _ (by omega) hm' hn.2 (by simp;omega) (by omega)with⟨q1,met',q2,q3⟩|⟨q1,q2⟩
    ·refine .inl ⟨hiff.2 q1,met',?_,?_⟩
     ·rw[AmJ (by simpa using ht)]
      rw[q2,AkU]
      rfl
     ·rw[AmJ (by simpa using ht)]
      simpa using q3
    ·exact .inr ⟨fun h=>q1 (hiff.1 h),q2⟩
  ·rw[AjF ht]
   simp only[]
   have hiff:(∀ y∈t::l.drop (k+1),y<(N:Int)→y∉seen)↔∀ y∈l.drop (k+1),y<(N:Int)→y∉seen:=by
    constructor
    ·intro h y hy;exact h y (Ajh _ hy)
    ·intro h y hy hyn
     rcases AjN.1 hy with rfl|hy
     ·exact absurd hyn ht
     ·exact h y hy hyn
   rcases ih (k+1) cnt _ _ (by omega) hm hn.2 (by omega) (by omega)with⟨q1,met',q2,q3⟩|⟨q1,q2⟩
   ·refine .inl ⟨hiff.2 q1,met',?_,?_⟩
    ·rw[AmK (by simpa using ht)]
     exact q2
    ·rw[AmK (by simpa using ht)]
     exact q3
   ·exact .inr ⟨fun h=>q1 (hiff.1 h),q2⟩
theorem YZ(N:Nat)(hN1:1≤N)(hN:N≤64)(rings:List (List Int))(hlen:rings.length≤64)(hr:∀ l∈rings,l.length<9223372036854775808∧∀ x∈l, -9223372036854775808≤x∧x≤9223372036854775807):
  ∀ (ls:List (List Int)) (i cnt:Nat) (met:List Bool) (last:Int) (seen:List Int),rings.drop i=ls→i≤rings.length→MB N met seen→seen.length≤i*1073741824→ls.length<cnt →
  (okR (N:Int) seen last ls∧∃ met' seen',AX EP cnt ((N:Int),rings,met,last,(seen.length:Int),(i:Int),())=some (.inr (.inl ((N:Int),rings,(seen'.length:Int),())))∧MB N met' seen'∧seen'=seen++ls.flatten.filter (fun t=>decide (t<(N:Int)))) ∨
  (¬ okR (N:Int) seen last ls∧AX EP cnt ((N:Int),rings,met,last,(seen.length:Int),(i:Int),())=some (.inl (false,()))):=by
 have hmany:4294967296<many:=by simp only[many];omega
 intro ls
 induction ls with
 |nil=>
  intro i cnt met last seen hd hi hm hsl hc
  obtain⟨cnt,rfl⟩:∃ c,cnt=c+1:=⟨cnt-1,by simp at hc;omega⟩
  have:rings.length≤i:=by simpa using hd
  refine .inl ⟨trivial,met,seen,?_,hm,by simp⟩
  rw[AX,EP,AK,AL,AjF (by omega)]
 |cons l ls ih=>
  intro i cnt met last seen hd hi hm hsl hc
  simp only[AjR]at hc
  obtain⟨cnt,rfl⟩:∃ c,cnt=c+1:=⟨cnt-1,by omega⟩
  have hi':i<rings.length:=by
   refine AkK fun h => ?_
   rw[AkZ (by omega)]at hd
   cases hd
  rw[AkC hi']at hd
  simp only[Aje]at hd
  obtain⟨hd1,hd2⟩:=hd
  have hx:rings[i]? = some l:=by rw[AjM hi',hd1]
  have hmem:l∈rings:=AjW hx
  obtain⟨hl,hlr⟩:=hr l hmem
  rw[AX,EP,AK,AL,AjG hi',okR]
  simp only[Ae hx,I3]
  by_cases c2:Rt l
  ·rw[AjG c2]
   have hl:l.length<1073741824:=by have:=c2.1;omega
   simp only[AjT]
   cases l with
   |nil=>
    rw[AK,An,AjG (by simp)]
    exact .inr ⟨fun h=>h.1.2.1 rfl,rfl⟩
   |cons x tl=>
    rw[AK,An,AjF (by simp only[AjR];omega)]
    simp only[ARA (N:Int) (x::tl) hl hlr c2.2.2]
    by_cases c4:TI (N:Int) (x::tl)
    ·rw[AjG c4]
     simp only[AjT,XJ]
     rw[NO _ _ (by simp) (by
      intro y hy
      simp only[Ajk]at hy
      subst hy
      obtain⟨a,b,q1,q2⟩:=H7 c2 (by simp)
      have:=Akf List.length q1
      rw[q2]
      simp only[AjR,AjS]at this hl ⊢
      omega)]
     have hps:=AA8 c2 (by simp)
     have hps2:([plain (x::tl)]=[x::tl])↔Gw (x::tl)=x:=by simpa using hps
     by_cases c3:Gw (x::tl)=x
     ·rw[AjG (hps2.2 c3)]
      have i0:idx (x::tl) (0:Int)=some x:=by rw[Gy];rfl
      simp only[AjT,i0,AmB,Ar]
      by_cases c1:x≤last
      ·rw[AjG c1]
       exact .inr ⟨fun h=>by omega,rfl⟩
      ·rw[AjF c1]
       simp only[Au]
       have hRG:RG (N:Int) (x::tl):=⟨c2,by simp,c3,c4⟩
       rcases AFA N hN (x::tl) hl (fun t ht=>(c2.2.1 t ht).1) rings x (i:Int) (x::tl) ((x::tl).length:Int) false (N:Int) (x::tl) true false (x::tl) (plain (x::tl)) [plain (x::tl)] (x::tl) [x::tl] true false (x::tl) x last false (x::tl).length 0 many met seen (by omega) hm (by rw[AlD];exact c2.2.2) (by omega) (by omega)with⟨q1,met',q2,q3⟩|⟨q1,q2⟩
       ·rw[AlD]at q1 q3 q2
        have q2':AX EO many ((N:Int),rings,met,x,(seen.length:Int),(i:Int),x::tl,(0:Int),x::tl,((x::tl).length:Int),false,(N:Int),x::tl,true,false,x::tl,plain (x::tl),[plain (x::tl)],x::tl,[x::tl],true,false,x::tl,x,last,false,())=_:=q2
        simp only[q2',AM (show i+1<9223372036854775808 by omega)]
        have hfl:((x::tl).filter (fun t=>decide (t<(N:Int)))).length≤(x::tl).length:=Akm _ _
        rcases ih (i+1) cnt met' x (seen++(x::tl).filter (fun t=>decide (t<(N:Int)))) hd2 (by omega) q3 (by rw[AjS];omega) (by omega)with⟨p1,met2,seen2,p2,p3,p4⟩|⟨p1,p2⟩
        ·refine .inl ⟨⟨hRG,by omega,q1,p1⟩,met2,seen2,p2,p3,?_⟩
         rw[p4,AlS,AlB,AkU]
        ·exact .inr ⟨fun h=>p1 h.2.2.2,p2⟩
       ·rw[AlD]at q1
        have q2':AX EO many ((N:Int),rings,met,x,(seen.length:Int),(i:Int),x::tl,(0:Int),x::tl,((x::tl).length:Int),false,(N:Int),x::tl,true,false,x::tl,plain (x::tl),[plain (x::tl)],x::tl,[x::tl],true,false,x::tl,x,last,false,())=_:=q2
        simp only[q2']
        exact .inr ⟨fun h=>q1 h.2.2.1,by trivial⟩
     ·rw[AjF (fun h=>c3 (hps2.1 h))]
      exact .inr ⟨fun h=>c3 h.1.2.2.1,rfl⟩
    ·rw[AjF c4]
     exact .inr ⟨fun h=>c4 h.1.2.2.2,rfl⟩
  ·rw[AjF c2]
   exact .inr ⟨fun h=>c2 h.1.1,rfl⟩
theorem Ep(n:Int)(rings:List (List Int))(hlen:rings.length<1073741824)(hr:∀ l∈rings,l.length<9223372036854775808∧∀ x∈l, -9223372036854775808≤x∧x≤9223372036854775807):
  RR ((n,(rings,())),())=some (decide (RF n rings),()):=by
 have hmany:4294967296<many:=by simp only[many];omega
 rw[ASB,Tg]
 simp only[Ag,AK]
 by_cases h1:n<1
 ·rw[AjG h1,AjF (show ¬ RF n rings from fun h=>by have:=h.1.1;omega)]
 ·rw[AjF h1]
  simp only[]
  by_cases h2:64<n
  ·rw[AjG h2,AjF (show ¬ RF n rings from fun h=>by have:=h.1.2;omega)]
  ·rw[AjF h2]
   simp only[]
   by_cases h3:n<(rings.length:Int)
   ·rw[AjG h3,AjF (show ¬ RF n rings from fun h=>by
     have:=AWh (by omega) h.2.1 (by omega) (by omega)
     omega)]
   ·rw[AjF h3]
    obtain⟨N,rfl⟩:=AjU (show 0≤n by omega)
    have f1:D6 (N:Int)=true:=(E1 _).2 (by omega)
    have f2:ile (N:Int) (N:Int)=true:=by rw[Ar];simp
    simp only[f1,f2,AkP,Bool.and_true,Au]
    have hMB:MB N (EA (AN (N:Int)) false) []:=by
     refine⟨by simp[EA,GF],fun k hk => ?_⟩
     simp[EA,GF,hk]
    rcases YZ N (by omega) (by omega) rings (by omega) hr rings 0 many _ (-1) [] (by simp) (by omega) hMB (by simp) (by omega)with⟨p1,met,seen,p2,p3,p4⟩|⟨p1,p2⟩
    ·have p2':AX EP many ((N:Int),rings,EA (AN (N:Int)) false, -1,(0:Int),(0:Int),())=_:=p2
     simp only[p2',An]
     obtain⟨q1,q2⟩:=AZG p1 (by simp)
     rw[← p4]at q1
     have hsub:∀ x∈seen,x∈(List.range N).map (fun(k:Nat)=>(k:Int)):=by
      intro x hx
      rw[p4]at hx
      simp only[Ajs,AkE,AmU,AjJ]at hx
      obtain⟨⟨l,hl,hxl⟩,hxn⟩:=hx
      have:=((q2 l hl).1.2.1 x hxl).1
      rw[Aja]
      exact⟨x.toNat,by rw[AkB];omega,by omega⟩
     have hv:∀ v,v∈seen↔(v<(N:Int)∧v∈rings.flatten):=fun v=>by rw[p4,Ajs,AkE,AjJ,and_comm]
     have hS:Sz (N:Int):=⟨by omega,by omega⟩
     by_cases hc:(seen.length:Int)=(N:Int)
     ·rw[AjG hc,AjG]
      refine⟨hS,p1,fun v v1 v2 => ?_⟩
      have:=Ri q1 hsub (by simp;omega) v (by rw[Aja];exact⟨v.toNat,by rw[AkB];omega,by omega⟩)
      exact((hv v).1 this).2
     ·rw[AjF hc,AjF]
      rintro⟨_,_,h⟩
      have a1:=DO q1 hsub
      have hrn:((List.range N).map (fun(k:Nat)=>(k:Int))).Nodup:=by
       rw[List.Nodup,Akq]
       exact List.nodup_range.imp fun h e=>h (by omega)
      have a2:=DO (a:=(List.range N).map (fun(k:Nat)=>(k:Int))) (b:=seen) hrn fun x hx=>by
       rw[Aja]at hx
       obtain⟨k,hk,rfl⟩:=hx
       rw[AkB]at hk
       exact(hv _).2 ⟨by omega,h (k:Int) (by omega) (by omega)⟩
      simp only[Aj6,AjY]at a1 a2
      omega
    ·have p2':AX EP many ((N:Int),rings,EA (AN (N:Int)) false, -1,(0:Int),(0:Int),())=_:=p2
     simp only[p2']
     rw[AjF (fun h=>p1 h.2.1)]
end Go.Pev.Pl
end
section
namespace Go.Pev.Pl
open Tok
theorem M9(n:Int)(rings:List (List Int))(v:Int)(hlen:rings.length<1073741824)(hr:∀ l∈rings,l.length<9223372036854775808):LB ((n,(rings,())),v,())=some (plc rings v,()):=by
 rw[ASi,Tv]
 have e:=PN (step:=H9) (fun i=>(v,n,rings,(i:Int),())) rings (fun l=>decide (v∈l)) (fun i=>.inl ((i:Int),())) (.inr (.inl ())) (by omega)
  (fun i l hi hx=>by
   have hl:=hr l (AjW hx)
   rw[H9,AK,AL,AjG hi]
   simp only[Ae hx,NA l v (by omega)]
   rw[AM (by omega),Ar]
   by_cases h:v∈l
   ·obtain⟨k,e,_⟩:=AJW h
    rw[e,AjG (by omega),AjG h];rfl
   ·rw[Ra h,AjF (by omega),AjF h];rfl)
  (by rw[H9,AK,AL,AjF (by omega)])
 have e':AS H9 many (v,n,rings,(0:Int),())=_:=e
 simp only[e',plc]
 cases rings.any (fun l=>decide (v∈l))<;>rfl
end Go.Pev.Pl
end
section
namespace Go.Pev.Pl
open Tok
theorem AYl(rest:List (List Int))(r:List Int)(hlen:rest.length<1073741824)(hne:∀ l∈rest,l≠[])(hp:plain r≠[]):AWS (rest,r,())=some (AA6 rest (plain r),()):=by
 rw[Acb,AJV]
 simp only[XJ]
 generalize plain r=p at *
 have e:=PN (step:=M7) (fun i=>(rest,p,(i:Int),())) rest (fun x => !decide (hd x<hd p)) (fun i=>.inl (rest,p,(i:Int),())) (.inl (rest,p,(rest.length:Int),())) (by omega)
  (fun i x hi hx=>by
   rw[M7,AK,AL,AjG hi]
   simp only[Ae hx,AW2 (hne x (AjW hx)),AW2 hp,Aef,Ag]
   rw[AM (by omega)]
   by_cases h:hd x<hd p
   ·rw[AjG h];rfl
   ·rw[AjF h];rfl)
  (by rw[M7,AK,AL,AjF (by omega)])
 have e':AS M7 many (rest,p,(0:Int),())=_:=e
 have hk:(if rest.any (fun x => !decide (hd x<hd p))then(.inl (rest,p,((rest.findIdx fun x => !decide (hd x<hd p):Nat):Int),()):(List (List Int)×List Int×Int×Unit)⊕Unit)else .inl (rest,p,(rest.length:Int),())) = .inl (rest,p,((rest.findIdx fun x => !decide (hd x<hd p):Nat):Int),()):=by
  split
  ·rfl
  ·rename_i h
   rw[List.findIdx_eq_length.2 fun x hx=>by
    refine AkK fun hc=>h (AlX.2 ⟨x,hx,by simpa using hc⟩)]
 rw[e',hk]
 have hle:(rest.findIdx fun x => !decide (hd x<hd p))≤rest.length:=List.findIdx_le_length
 rw[AA6]
 generalize (rest.findIdx fun x => !decide (hd x<hd p))=k at *
 simp only[Ky hle,Gq hle]
 rw[BK (by simp only[AK,Aji,Ajb];omega)]
 simp only[]
 rw[BK (by simp only[AK,DC,AjS,AjR,Aji,Ajb];omega)]
 simp only[]
 rw[BK (by simp only[AK,DC,AjS,AjR,Aji,Ajb,Aj3];omega)]
 simp only[DC,Ajs,AkU,Ald]
theorem PC(l:List (List Int))(i:Nat)(hi:i<l.length)(hlen:l.length<1073741824):HY (l,(i:Int),())=some (l.eraseIdx i,()):=by
 rw[AH4,Md]
 rw[AM (by omega)]
 simp only[Ky (Ak8 hi),Gq (show i+1≤l.length by omega)]
 rw[BK (by simp only[AK,Aji,Ajb];omega)]
 simp only[]
 rw[BK (by simp only[AK,DC,AjS,Aji,Ajb,Aj3];omega)]
 simp only[DC,Ajs,List.eraseIdx_eq_take_drop_succ]
end Go.Pev.Pl
end
section
namespace Go.Pev.Pl
open Tok
theorem AfT(n:Int)(rings:List (List Int))(v:Int)(hD:Dom rings):tof ((n,(rings,())),v,())=some (if RF n rings∧In n v then plc rings v else -1,()):=by
 rw[Abb,AVv]
 simp only[Y1,Pa n rings hD.1 hD.2,Hr n rings v hD.1 (fun l hl=>(hD.2 l hl).1)]
 by_cases h1:In n v
 ·by_cases h2:RF n rings<;>simp[h1,h2]
 ·simp[h1]
end Go.Pev.Pl
end
section
namespace Go.Pev.Pl
open Go.RowKit Tok
end Go.Pev.Pl
end
section
namespace Go.Pev.Pl
open Tok
end Go.Pev.Pl
end
section
namespace Go.Pev.Pl
open Tok
theorem AOz{n:Int}{rings:List (List Int)}{u v:Int}(h:FR n rings)(iu:In n u)(iv:In n v)(hp:plc rings u=plc rings v):
  Mq ((n,(rings,())),u,v,())=some (n,rings,5,())∧VK ((n,(rings,())),u,v,())=some (n,rings,5,()):=by
 have hD:=h.dom
 have hRF:=L5.2 h
 constructor
 ·rw[Hu,HK]
  simp only[Hh n rings u v hD,hRF,iu,iv,and_self,Ajw,An,Hr n rings _ hD.1 (fun l hl=>(hD.2 l hl).1),hp,AjV,AjT]
 ·rw[OU,KY]
  simp only[Ep n rings hD.1 hD.2,hRF,IN,iu,iv,AjV,AjT,M9 n rings _ hD.1 (fun l hl=>(hD.2 l hl).1),An,hp]
theorem Adi{n:Int}{rings:List (List Int)}{u v:Int}{i j:Nat}{A B:List Int}(h:FR n rings)(iu:In n u)(iv:In n v)(hi:rings[i]? = some A)(hj:rings[j]? = some B)(hu:u∈A)(hv:v∈B)(hij:i≠j):
  ∃ zs rest,Mq ((n,(rings,())),u,v,())=some (n,zs,0,())∧VK ((n,(rings,())),u,v,())=some (n,zs,0,())∧FR n zs∧rings.Perm (A::B::rest)∧zs.Perm (plain (BF n A B u v)::rest)∧Dis n A B:=by
 have hD:=h.dom
 have hRF:=L5.2 h
 have rA:=h.rg A (AjW hi)
 have rB:=h.rg B (AjW hj)
 have hil:=(AkO.1 hi).1
 have hjl:=(AkO.1 hj).1
 have pu:plc rings u=(i:Int):=h.AJX hi iu.2.2.2 hu
 have pv:plc rings v=(j:Int):=h.AJX hj iv.2.2.2 hv
 have hperm:rings.Perm (A::B::(rings.eraseIdx (max i j)).eraseIdx (min i j)):=by
  rcases AmG hij with g|g
  ·rw[Alk (by omega),AkT (by omega)]
   exact JM g hi hj
  ·rw[Aln (by omega),Al2 (by omega)]
   exact(JM g hj hi).trans (List.Perm.swap _ _ _)
 have hdis:Dis n A B:=by
  have:=Kf hperm h.dis
  rw[Aj9]at this
  exact this.1 B (by simp)
 obtain⟨l1,l2,l3,huv,ho⟩:=OT rA.2.2.2 rB.2.2.2 hu hv iu iv hdis
 obtain⟨hRG,hrot⟩:=AEO l1
 have hall:BF n A B u v=u::EB n u v::(A6 B v++EB n v u::(A6 A u).tail):=rfl
 have lA:(A6 A u).length≤1000:=by rw[← (Cg hu).perm.length_eq];exact rA.1.1
 have lB:(A6 B v).length≤1000:=by rw[← (Cg hv).perm.length_eq];exact rB.1.1
 have hsub:((rings.eraseIdx (max i j)).eraseIdx (min i j)).Sublist rings:=(Alw _ _).trans (Alw _ _)
 have hw1:HY (rings,((max i j:Nat):Int),())=some (rings.eraseIdx (max i j),()):=PC _ _ (by omega) hD.1
 have hel:(rings.eraseIdx (max i j)).length=rings.length-1:=by rw[List.length_eraseIdx];rw[AjP (by omega)]
 have hw2:HY (rings.eraseIdx (max i j),((min i j:Nat):Int),())=some ((rings.eraseIdx (max i j)).eraseIdx (min i j),()):=PC _ _ (by omega) (by have:=hD.1;omega)
 have hdrop:Cs (fun k=>decide ((k:Int)∈[(i:Int),(j:Int)])) 0 rings=(rings.eraseIdx (max i j)).eraseIdx (min i j):=by
  rcases AmG hij with g|g
  ·rw[Alk (by omega),AkT (by omega)]
   exact Lq _ i j g rings 0 (by omega) fun k _=>AlN.2 (by simp only[AjN,AlC,Alo];omega)
  ·rw[Aln (by omega),Al2 (by omega)]
   exact Lq _ j i g rings 0 (by omega) fun k _=>AlN.2 (by simp only[AjN,AlC,Alo];omega)
 have hrl:((rings.eraseIdx (max i j)).eraseIdx (min i j)).length≤rings.length:=hsub.length_le
 generalize (rings.eraseIdx (max i j)).eraseIdx (min i j)=rest at *
 have hupr:rest.Pairwise (fun a b=>hd a<hd b):=h.up.sublist hsub
 have hner:∀ l∈rest,l≠[]:=fun l hl=>(h.rg l (hsub.subset hl)).2.1
 have hdd:=Kf hperm h.dis
 rw[Aj9,Aj9]at hdd
 have hheads:∀ x∈rest,hd x≠hd (plain (BF n A B u v)):=by
  intro x hx e
  have g1:=Oq hRG
  have g2:=(l3 _ g1.2.2.2).1 (hrot.perm.mem_iff.2 (VY hRG.2.1))
  have g3:hd (plain (BF n A B u v))∈x:=e▸VY (hner x hx)
  rcases g2 with g|g
  ·exact hdd.1 x (by simp[hx]) _ g g1.2.2.2 g3
  ·exact hdd.2.1 x hx _ g g1.2.2.2 g3
 have hup:=AWR hupr hheads
 have hpz:=AGs rest (plain (BF n A B u v))
 refine⟨AA6 rest (plain (BF n A B u v)),rest,?_,?_,AXT h hperm hRG (fun t ht=>by rw[← hrot.perm.mem_iff];exact l3 t ht) hpz hup,hperm,hpz,hdis⟩
 ·obtain⟨ys,y1,y2,y3⟩:=AGB n rings [(i:Int),(j:Int)] [BF n A B u v] hD.1 (by simp) (by simp) (fun l hl=>(h.rg l hl).2.1) (by simp;exact hRG.2.1)
  have hys:ys=AA6 rest (plain (BF n A B u v)):=by
   refine XD hup (y2.trans ?_) y3
   rw[hdrop]
   exact(Ak7 (l₁:=rest) (l₂:=[plain (BF n A B u v)])).trans hpz.symm
  rw[hys]at y1
  rw[Hu,HK]
  have s1:Ce (A6 A u) (0:Int) (1:Int)=some [u]:=by
   have:=AIg (xs:=A6 A u) (l:=0) (h:=1) (by omega) (by rw[l2];simp)
   rw[l2]at this ⊢
   exact this
  have s2:Ce (A6 A u) (1:Int) (AG (A6 A u))=some (A6 A u).tail:=by
   have:=Gq (xs:=A6 A u) (l:=1) (by rw[l2];simp)
   rw[AlK]at this
   exact this
  have d1:DK 0 (AN (AG [u])) (A6 A u)=[u]:=by rw[l2];rfl
  have d2:DK 1 (AN (AG (A6 A u).tail)) (A6 A u)=(A6 A u).tail:=by
   rw[DK,AK,GF,AlK,Akv]
  have hcat:JQ ([[u],[EB n u v],A6 B v,[EB n v u],(A6 A u).tail],())=some (BF n A B u v,()):=by
   rw[Nr _ (by simp) (by simp;omega)]
   simp[BF]
  have ne:((i:Int))≠(j:Int):=by omega
  simp only[Hh n rings u v hD,hRF,iu,iv,and_self,Ajw,An,Hr n rings _ hD.1 (fun l hl=>(hD.2 l hl).1),pu,pv,ne,AjV,Ajj,AjT,Ae hi,Ae hj,AGn,JI,rA.1,rB.1,hu,hv,s1,s2,AMT,d1,d2,hcat,y1]
 ·rw[OU,KY]
  have s2:Ce (A6 A u) (1:Int) (AG (A6 A u))=some (A6 A u).tail:=by
   have:=Gq (xs:=A6 A u) (l:=1) (by rw[l2];simp)
   rw[AlK]at this
   exact this
  have d2:DK 1 (AN (AG (A6 A u).tail)) (A6 A u)=(A6 A u).tail:=by
   rw[DK,AK,GF,AlK,Akv]
  have ne:((i:Int))≠(j:Int):=by omega
  have f1:fits (AG [u,EB n u v]+AG (A6 B v))=true:=BK (by simp only[AK,AjR,Aji];omega)
  have f2:fits (AG (A2 [u,EB n u v] (A6 B v))+AG [EB n v u])=true:=BK (by simp only[AK,DC,AjS,AjR,Aji];omega)
  have f3:fits (AG (A2 (A2 [u,EB n u v] (A6 B v)) [EB n v u])+AG (A6 A u).tail)=true:=BK (by simp only[AK,DC,AjS,AjR,Aji,List.length_tail];omega)
  have hcat:A2 (A2 (A2 [u,EB n u v] (A6 B v)) [EB n v u]) (A6 A u).tail=BF n A B u v:=by simp[DC,BF]
  have hput:AWS (rest,BF n A B u v,())=some (AA6 rest (plain (BF n A B u v)),()):=AYl rest _ (by have:=hD.1;omega) hner hRG.2.1
  simp only[Ep n rings hD.1 hD.2,hRF,IN,iu,iv,AjV,AjT,M9 n rings _ hD.1 (fun l hl=>(hD.2 l hl).1),pu,pv,An,ne,Ajj,Ae hi,Ae hj,QP A u (by have:=rA.1.1;omega),QP B v (by have:=rB.1.1;omega),JI,rA.1,rB.1,hu,hv,and_self,Ajw,AHk,f1,f2,s2,d2,f3,Ady,Adx,hw1,hw2,hcat,hput]
theorem AFY{n:Int}{rings:List (List Int)}{u v:Int}(hD:Dom rings)(h:¬ (RF n rings∧In n u∧In n v)):
  ∃ e,e≠0∧(∃ b,e=b∧(b=1∨b=10))∧Mq ((n,(rings,())),u,v,())=some (n,rings,e,())∧VK ((n,(rings,())),u,v,())=some (n,rings,e,()):=by
 by_cases h1:RF n rings
 ·have h2:¬ (In n u∧In n v):=fun h2=>h ⟨h1,h2⟩
  refine⟨10,by omega,⟨10,rfl,.inr rfl⟩,?_,?_⟩
  ·rw[Hu,HK]
   simp only[Hh n rings u v hD,h1,h2,Ajw,Ajc,An]
   rfl
  ·rw[OU,KY]
   simp only[Ep n rings hD.1 hD.2,h1,IN,AjV,AjT]
   by_cases hu:In n u
   ·have hv:¬ In n v:=fun hv=>h2 ⟨hu,hv⟩
    simp[hu,hv]
   ·simp[hu]
 ·refine⟨1,by omega,⟨1,rfl,.inl rfl⟩,?_,?_⟩
  ·rw[Hu,HK]
   simp only[Hh n rings u v hD,h1,Ajc,An]
   rfl
  ·rw[OU,KY]
   simp only[Ep n rings hD.1 hD.2,h1,Ajj,Aj2]
theorem AVZ{n:Int}{rings:List (List Int)}(u v:Int)(hD:Dom rings):∃ zs e,Mq ((n,(rings,())),u,v,())=some (n,zs,e,())∧VK ((n,(rings,())),u,v,())=some (n,zs,e,())∧Dom zs:=by
 by_cases h:RF n rings∧In n u∧In n v
 ·obtain⟨h1,iu,iv⟩:=h
  have hF:=L5.1 h1
  obtain⟨i,A,pu,hi,hu,_⟩:=M8 (hF.cov u iu)
  obtain⟨j,B,pv,hj,hv,_⟩:=M8 (hF.cov v iv)
  by_cases hij:i=j
  ·obtain⟨q1,q2⟩:=AOz hF iu iv (by rw[pu,pv,hij])
   exact⟨_,_,q1,q2,hD⟩
  ·obtain⟨zs,rest,q1,q2,q3,_⟩:=Adi hF iu iv hi hj hu hv hij
   exact⟨_,_,q1,q2,q3.dom⟩
 ·obtain⟨e,_,_,q1,q2⟩:=AFY hD h
  exact⟨_,_,q1,q2,hD⟩
end Go.Pev.Pl
end
section
namespace Go.Pev.Pl
open Tok
def sel(l:List Edge)(bs:List Bool):List Edge:=((l.zip bs).filter fun p=>p.2).map fun p=>p.1
end Go.Pev.Pl
end
section
namespace Go.Pev.Pl
open Tok
instance (n v:Int):Decidable (In n v):=inferInstanceAs (Decidable (_∧_))
instance (n:Int):Decidable (Sz n):=inferInstanceAs (Decidable (_∧_))
end Go.Pev.Pl
end
section
namespace Go.Pev.Pl
instance (xs:List Int):Decidable (Rt xs):=inferInstanceAs (Decidable (_∧_∧_))
end Go.Pev.Pl
end
section
namespace Go.Pev.Pl
open Tok
noncomputable instance (n:Int) (xs:List Int):Decidable (TI n xs):=Classical.propDecidable _
end Go.Pev.Pl
end
section
namespace Go.Pev.Pl
open Tok
noncomputable instance (n:Int) (rings:List (List Int)):Decidable (RF n rings):=Classical.propDecidable _
noncomputable instance (n:Int) (xs:List Int):Decidable (RG n xs):=Classical.propDecidable _
end Go.Pev.Pl
end
section
namespace Go.Pev.Pl
open Tok
theorem AMS(n:Int)(rings:List (List Int))(l:List (Int×Int×Unit))(hD:Dom rings)(hs:l.length<9223372036854775808):AIe ((n,(rings,())),l,())=some (AQT n rings (l.all fun e=>decide (In n e.1)&&decide (In n e.2.1)),()):=by
 rw[ARI,TU]
 simp only[Ep n rings hD.1 hD.2,AQT]
 by_cases h:RF n rings
 ·simp only[h,AjV,AjT,Ajw]
  have e:=PN (step:=Hv) (fun i=>(l,n,rings,(i:Int),())) l (fun e => !(decide (In n e.1)&&decide (In n e.2.1))) (fun _=>.inl ((10:Int),())) (.inr (.inl ())) hs
   (fun i x hi hx=>by
    rw[Hv,AK,AL,AjG hi]
    simp only[Ae hx,Ag,Ar]
    rw[AM (by omega)]
    have q1:=AVg (v:=x.1) h.1
    have q2:=AVg (v:=x.2.1) h.1
    by_cases c1:x.1<0
    ·rw[AjG c1,Bool.true_or]at q1
     have:decide (In n x.1)=false:=by simpa using q1.symm
     simp[c1,this]
    ·by_cases c2:n≤x.1
     ·rw[AjG c2,Bool.or_true]at q1
      have:decide (In n x.1)=false:=by simpa using q1.symm
      simp[c1,c2,this]
     ·rw[AjF c1,AjF c2]at q1
      have g1:decide (In n x.1)=true:=by simpa using q1.symm
      by_cases c3:x.2.1<0
      ·rw[AjG c3,Bool.true_or]at q2
       have:decide (In n x.2.1)=false:=by simpa using q2.symm
       simp[c1,c2,c3,this]
      ·by_cases c4:n≤x.2.1
       ·rw[AjG c4,Bool.or_true]at q2
        have:decide (In n x.2.1)=false:=by simpa using q2.symm
        simp[c1,c2,c3,c4,this]
       ·rw[AjF c3,AjF c4]at q2
        have g2:decide (In n x.2.1)=true:=by simpa using q2.symm
        simp[c1,c2,c3,c4,g1,g2])
   (by rw[Hv,AK,AL,AjF (by omega)])
  have e':AS Hv many (l,n,rings,(0:Int),())=_:=e
  rw[e',List.any_eq_not_all_not]
  simp only[Bool.not_not]
  cases l.all fun e=>decide (In n e.1)&&decide (In n e.2.1)<;>rfl
 ·simp[h]
end Go.Pev.Pl
end
section
namespace Go.Pev.Pl
open Tok
end Go.Pev.Pl
end
section
namespace Go.Pev.Pl
open Tok
end Go.Pev.Pl
end
section
namespace Go.Pev.Pl
open Tok
end Go.Pev.Pl
end
section
namespace Go.Pev.Pl
open Tok
theorem ANA{N:Nat}(h1:1≤N)(hN:N≤64){ts:List Tie}(hs:ts.length≤400)(ho:oks N ts){out:List Int}(hc:W7 (N:Int) (trs ts ts.length) out):
  HM (((N:Int),(ts,())),())=some (decide ((cnt out N:Int)=(N:Int)-(trs ts ts.length).length),()):=by
 have R:=RQ N hN ts hs
 rw[AjP ho]at R
 have hin:=AQ6 hN ho
 have hlen:=AIM ts ts.length
 obtain⟨o2,e2,c2⟩:=Gk (N:Int) (trs ts ts.length) ⟨by omega,by omega⟩ (by omega) hin
 have:=W7.unique h1 hN hc c2
 subst this
 have hol:out.length=N:=by have:=hc.len;omega
 rw[H5,Fl]
 simp only[Ag,AK]
 rw[AjF (show ¬ (N:Int)<1 by omega),AjF (show ¬ 64<(N:Int) by omega),AjF (show ¬ 400<(ts.length:Int) by omega)]
 simp only[R,e2,PE N hN _ _ out hol,An]
 rw[Ai (by omega)]
end Go.Pev.Pl
end
section
namespace Go.Pev.Pl
open Tok
theorem Con.perm{l l':List Edge}(h:∀ e,e∈l↔e∈l'){a b:Int}:Con l a b↔Con l' a b:=
 ⟨fun c=>c.mono fun e he=>⟨e,(h e).1 he,.inl ⟨rfl,rfl⟩⟩,fun c=>c.mono fun e he=>⟨e,(h e).2 he,.inl ⟨rfl,rfl⟩⟩⟩
theorem W7.congr{n:Int}{l l':List Edge}{out:List Int}(h:∀ a b,Con l a b↔Con l' a b)(hc:W7 n l out):W7 n l' out:=
 ⟨hc.len,fun a b ia ib=>(hc.same a b ia ib).trans (h a b),hc.isin,fun a ia=>(h a _).1 (hc.con a ia),fun a b ia ib c=>hc.least a b ia ib ((h a b).2 c)⟩
end Go.Pev.Pl
end
section
namespace Go.Pev.Pl
open Tok
def AGP(x:Edge)(b:Bool):Tie:=(x.1,x.2.1,0,b,())
def Yv(ts:List Tie)(xs:List Edge)(bs:List Bool)(k:Nat):List Tie:=(List.range k).foldl (fun a i=>AA5 a (AGP (xs.getD i (0,0,())) (bs.getD i false))) ts
end Go.Pev.Pl
end
section
namespace Go.Pev.Pl
open Tok
def ATX(xs:List Edge)(bs:List Bool)(k:Nat):List Tie:=(List.range k).map fun i=>AGP (xs.getD i (0,0,())) (bs.getD i false)
theorem AHm(ts:List Tie)(xs:List Edge)(bs:List Bool)(k:Nat):Yv ts xs bs (k+1)=AA5 (Yv ts xs bs k) (AGP (xs.getD k (0,0,())) (bs.getD k false)):=by
 unfold Yv
 rw[Ake,List.foldl_append]
 rfl
theorem Wk(ts:List Tie)(xs:List Edge)(bs:List Bool):∀ k,(Yv ts xs bs k).Perm (ts++ATX xs bs k):=by
 intro k
 induction k with
 |zero=>simp[Yv,ATX]
 |succ k ih=>
  rw[AHm]
  refine(AGr _ _).trans ?_
  unfold ATX at *
  rw[Ake,Akt,← AkU]
  refine(List.Perm.cons _ ih).trans ?_
  exact(List.perm_append_singleton _ _).symm
end Go.Pev.Pl
end
section
namespace Go.Pev.Pl
open Tok
theorem Ae4{N:Nat}{ts:List Tie}(h:oks N ts)(hv0:0≤It N){xs:List Edge}(bs:List Bool)(hp:xs.Pairwise J7)(hx:∀ e∈xs,0≤e.1∧e.1<e.2.1∧e.2.1<(N:Int))(hn:∀ e∈xs,¬ e∈ts.map ed):oks N (Yv ts xs bs xs.length):=by
 rw[Y7]at h ⊢
 obtain⟨h1,h2⟩:=h
 have hget:∀ i (hi:i<xs.length),xs.getD i (0,0,())=xs[i]:=fun i hi=>by
  simp only[AjI,AjM hi,Ajn]
 have hmem:∀ k,k≤xs.length→∀ t∈Yv ts xs bs k,t∈ts∨∃ i,i<k∧t=AGP (xs.getD i (0,0,())) (bs.getD i false):=by
  intro k hk t ht
  rcases AjL.1 ((Wk ts xs bs k).mem_iff.1 ht)with h|h
  ·exact .inl h
  ·unfold ATX at h
   obtain⟨i,hi,rfl⟩:=Aja.1 h
   exact .inr ⟨i,by simpa using hi,rfl⟩
 refine⟨fun t ht => ?_,?_⟩
 ·rcases hmem _ (AjO _) t ht with h|⟨i,hi,rfl⟩
  ·exact h1 t h
  ·rw[hget i hi]
   obtain⟨q1,q2,q3⟩:=hx xs[i] (AkY hi)
   exact⟨q1,q2,q3,by show(0:Int)≤0;omega,hv0⟩
 ·have key:∀ k,k≤xs.length→(Yv ts xs bs k).Pairwise ahead:=by
   intro k
   induction k with
   |zero=>intro _;exact h2
   |succ k ih=>
    intro hk
    rw[AHm]
    refine AYk (ih (by omega)) fun t ht => ?_
    rw[hget k (by omega)]
    rintro⟨e1,e2⟩
    rcases hmem k (by omega) t ht with h|⟨i,hi,rfl⟩
    ·refine hn xs[k] (AkY (by omega)) (Aja.2 ⟨t,h,?_⟩)
     unfold ed
     rw[e1,e2]
     rfl
    ·rw[hget i (by omega)]at e1 e2
     have:=(Akw.1 hp) i k (by omega) (by omega) hi
     unfold J7 at this
     simp only[AGP]at e1 e2
     omega
  exact key _ (AjO _)
end Go.Pev.Pl
end
section
namespace Go.Pev.Pl
open Tok
theorem AbP(ts:List Tie):∀ k,k≤ts.length→trs ts k=((ts.take k).filter fun t=>t.2.2.2.1).map ed:=by
 intro k
 induction k with
 |zero=>intro _;simp[trs]
 |succ k ih=>
  intro hk
  have hk':k<ts.length:=by omega
  rw[Zt,ih (by omega),Akk hk',AlB,Akt]
  simp only[AjI,AjM hk',Ajn]
  cases h:ts[k].2.2.2.1
  ·simp[h]
  ·simp[h]
theorem AIN(ts:List Tie):trs ts ts.length=(ts.filter fun t=>t.2.2.2.1).map ed:=by
 rw[AbP ts _ (AjO _),Akv]
end Go.Pev.Pl
end
section
namespace Go.Pev.Pl
open Tok
theorem AdU{xs:List Edge}{bs:List Bool}(h:bs.length=xs.length):ATX xs bs xs.length=(xs.zip bs).map fun p=>AGP p.1 p.2:=by
 unfold ATX
 apply AmT
 ·simp[h]
 ·intro i h1 h2
  have hi:i<xs.length:=by simpa using h1
  simp[hi,show i<bs.length by omega]
theorem Ae3(ts:List Tie){xs:List Edge}{bs:List Bool}(h:bs.length=xs.length):(trs (Yv ts xs bs xs.length) (Yv ts xs bs xs.length).length).Perm (trs ts ts.length++sel xs bs):=by
 rw[AIN,AIN]
 refine(((Wk ts xs bs xs.length).filter _).map ed).trans ?_
 rw[AlB,Akt,AdU h,List.filter_map,AmC]
 exact List.Perm.refl _
theorem Ae5(ts:List Tie)(xs:List Edge)(bs:List Bool):∀ k,(Yv ts xs bs k).length=ts.length+k:=by
 intro k
 rw[(Wk ts xs bs k).length_eq]
 simp[ATX]
end Go.Pev.Pl
end
end
section
section
namespace Go.Pev.Pl
open Tok
theorem Aen{N:Nat}(hN:N≤64)(ts:List Tie)(l:List Edge):∀ e∈Kj N ts l,In (N:Int) e.1∧In (N:Int) e.2.1:=by
 intro e he
 obtain⟨⟨a,b,c,_⟩,_⟩:=(UN N ts l e).1 he
 exact⟨⟨by omega,by omega,a,by omega⟩,⟨by omega,by omega,by omega,c⟩⟩
end Go.Pev.Pl
end
section
namespace Go.Pev.Pl
open Tok
theorem Adv{N:Nat}(h1:1≤N)(hN:N≤64){a:Int}(h:0≤a∧a<(N:Int)):In (N:Int) a:=⟨by omega,by omega,h.1,h.2⟩
theorem Adw{N:Nat}{e:Edge}(h:In (N:Int) e.1∧In (N:Int) e.2.1):InE N e:=⟨⟨h.1.2.2.1,h.1.2.2.2⟩,⟨h.2.2.2.1,h.2.2.2.2⟩⟩
theorem AiV{N:Nat}(h1:1≤N)(hN:N≤64){l:List Edge}{out:List Int}(hc:W7 (N:Int) l out):cnt out N=cc N l:=by
 unfold cnt cc
 rw[List.countP_eq_length_filter]
 congr 1
 refine AmL fun k hk => ?_
 have hk:k<N:=by simpa using hk
 have ik:=Adv h1 hN (a:=(k:Int)) ⟨by omega,by omega⟩
 have hg:out.getD k 0=cl out (k:Int):=by unfold cl;rw[AkG]
 rw[hg,Alb,Aku,IJ]
 constructor
 ·intro h j hj hcn
  have:=hc.least (k:Int) (j:Int) ik (Adv h1 hN ⟨by omega,by omega⟩) hcn.symm
  omega
 ·intro h
  have a1:=hc.isin _ ik
  have a2:=hc.con _ ik
  have a3:=hc.least (k:Int) (k:Int) ik ik (.refl _)
  obtain⟨m,hm⟩:=AjU a1.2.2.1
  rw[hm]at a2 a3 ⊢
  by_cases hlt:m<k
  ·exact absurd a2.symm (h m hlt)
  ·omega
theorem FC.congr{n:Int}{rings:List (List Int)}{l l':List Edge}(h:FC n rings l)(hm:∀ e∈l,e∈l')(hc:∀ e∈l',Con l e.1 e.2.1):FC n rings l':=
 ⟨h.fr,fun a b ia ib=>(h.sam a b ia ib).trans ⟨fun c=>c.sub hm,fun c=>c.cut hc⟩,fun A hA u v ho hu=>by
  obtain⟨e,he,q⟩:=h.arcs A hA u v ho hu
  exact⟨e,hm e he,q⟩⟩
theorem AM9{N:Nat}(h1:1≤N)(hN:N≤64){ts:List Tie}(hs:ts.length≤400)(ho:oks N ts):HM (((N:Int),(ts,())),())=some (true,())↔Fo N (trs ts ts.length):=by
 have hlen:=AIM ts ts.length
 obtain⟨o,_,c⟩:=Gk (N:Int) (trs ts ts.length) ⟨by omega,by omega⟩ (by omega) (AQ6 hN ho)
 rw[ANA h1 hN hs ho c,AiV h1 hN c]
 unfold Fo
 constructor
 ·intro h
  have:decide ((cc N (trs ts ts.length):Int)=(N:Int)-(trs ts ts.length).length)=true:=by injection h with h;injection h
  have:=AlT this
  omega
 ·intro h
  rw[AjG (by omega)]
end Go.Pev.Pl
end
section
namespace Go.Pev.Pl
open Tok
end Go.Pev.Pl
end
section
namespace Go.Pev.Pl.SE
open Go.Sort
def ok(_:Int×Int×Unit):Prop:=True
def okz:Int×Int×Unit:=(0,0,())
theorem UJ:ok okz:=trivial
def lt(x y:Int×Int×Unit):Bool:=decide (x.1<y.1∨(x.1=y.1∧x.2.1<y.2.1))
theorem swo:SWO lt:=⟨fun x=>by simp[lt],fun x y z h1 h2=>by simp only[lt,AjJ]at *;omega,fun x y z h1 h2=>by simp only[lt,AkA]at *;omega⟩
theorem Xw(a b:Int):Dh (a,b,())=some (if a<b then -1 else if b<a then 1 else 0,()):=by
 rw[G1,EZ,LJ,LK,LJ,LK]
 simp only[B9,Ag]
 by_cases h:a<b
 ·simp[h]
 ·by_cases h2:b<a
  ·simp[h,h2]
  ·simp[h,h2]
theorem or_val(a b:Int):orI ([a,b],())=some (if a=0 then b else a,()):=by
 obtain⟨m,hm⟩:∃ m,many=m+3:=⟨many-3,by simp only[many]⟩
 rw[AJy,AG8,Au,hm]
 have i0:idx [a,b] (0:Int)=some a:=by rw[idx_eq];rfl
 have i1:idx [a,b] (1:Int)=some b:=by rw[idx_eq];rfl
 have l2:AG [a,b]=(2:Int):=rfl
 have w1:IntKind.wrap .i64 ((0:Int)+1)=1:=by rw[Ai (by omega)];rfl
 have w2:IntKind.wrap .i64 ((1:Int)+1)=2:=by rw[Ai (by omega)];rfl
 have c0:ilt (0:Int) 2=true:=by rw[Ag];rfl
 have c1:ilt (1:Int) 2=true:=by rw[Ag];rfl
 have c2:ilt (2:Int) 2=false:=by rw[Ag];rfl
 by_cases ha:a=0
 ·subst ha
  by_cases hb:b=0
  ·subst hb
   have z:ieq (0:Int) 0=true:=by rw[B9];rfl
   simp only[AX,Fv,l2,i0,i1,w1,w2,c0,c1,c2,z,AjT,Ajw]
  ·have:ieq b 0=false:=by rw[B9];simpa using hb
   have z:ieq (0:Int) 0=true:=by rw[B9];rfl
   simp only[AX,Fv,l2,i0,i1,w1,w2,c0,c1,c2,z,this,AjT,Aj2,Ajw]
 ·have:ieq a 0=false:=by rw[B9];simpa using ha
  simp only[AX,Fv,l2,i0,i1,w1,w2,c0,c1,c2,this,ha,Aj2,Ajc]
end Go.Pev.Pl.SE
end
section
namespace Go.Pev.Pl.ST
open Go.Sort
def ok(_:Int×Int×Int×Bool×Unit):Prop:=True
def okz:Int×Int×Int×Bool×Unit:=(0,0,0,false,())
theorem UJ:ok okz:=trivial
def lt(x y:Int×Int×Int×Bool×Unit):Bool:=decide (x.1<y.1∨(x.1=y.1∧x.2.1<y.2.1))
theorem swo:SWO lt:=⟨fun x=>by simp[lt],fun x y z h1 h2=>by simp only[lt,AjJ]at *;omega,fun x y z h1 h2=>by simp only[lt,AkA]at *;omega⟩
theorem Xw(a b:Int):Dh (a,b,())=some (if a<b then -1 else if b<a then 1 else 0,()):=by
 rw[G1,EZ,LJ,LK,LJ,LK]
 simp only[B9,Ag]
 by_cases h:a<b
 ·simp[h]
 ·by_cases h2:b<a
  ·simp[h,h2]
  ·simp[h,h2]
theorem or_val(a b:Int):orI ([a,b],())=some (if a=0 then b else a,()):=by
 obtain⟨m,hm⟩:∃ m,many=m+3:=⟨many-3,by simp only[many]⟩
 rw[AJy,AG8,Au,hm]
 have i0:idx [a,b] (0:Int)=some a:=by rw[idx_eq];rfl
 have i1:idx [a,b] (1:Int)=some b:=by rw[idx_eq];rfl
 have l2:AG [a,b]=(2:Int):=rfl
 have w1:IntKind.wrap .i64 ((0:Int)+1)=1:=by rw[Ai (by omega)];rfl
 have w2:IntKind.wrap .i64 ((1:Int)+1)=2:=by rw[Ai (by omega)];rfl
 have c0:ilt (0:Int) 2=true:=by rw[Ag];rfl
 have c1:ilt (1:Int) 2=true:=by rw[Ag];rfl
 have c2:ilt (2:Int) 2=false:=by rw[Ag];rfl
 by_cases ha:a=0
 ·subst ha
  by_cases hb:b=0
  ·subst hb
   have z:ieq (0:Int) 0=true:=by rw[B9];rfl
   simp only[AX,Fv,l2,i0,i1,w1,w2,c0,c1,c2,z,AjT,Ajw]
  ·have:ieq b 0=false:=by rw[B9];simpa using hb
   have z:ieq (0:Int) 0=true:=by rw[B9];rfl
   simp only[AX,Fv,l2,i0,i1,w1,w2,c0,c1,c2,z,this,AjT,Aj2,Ajw]
 ·have:ieq a 0=false:=by rw[B9];simpa using ha
  simp only[AX,Fv,l2,i0,i1,w1,w2,c0,c1,c2,this,ha,Aj2,Ajc]
end Go.Pev.Pl.ST
end
section
namespace Go.Pev.Pl
open Tok
section
variable {α β:Type} [DecidableEq α]
end
end Go.Pev.Pl
end
section
namespace Go.Pev.Pl
open Tok
theorem Afs:∀ (xs b:List Edge),sel xs (gfl b xs)=Mc b xs:=by
 intro xs
 induction xs with
 |nil=>intro b;rfl
 |cons x xs ih=>
  intro b
  have:=ih (b++[x])
  unfold sel at *
  rw[gfl,Mc,Alm,AkN]
  by_cases h:PA b x.1 x.2.1=true
  ·simp[h,this]
  ·simp[h,this]
theorem AhQ{N:Nat}{b xs:List Edge}(h:Fo N b)(hx:∀ e∈xs,InE N e):Fo N (b++Mc b xs):=by
 have h1:=Oi xs b hx
 have h2:cc N (b++xs)=cc N (b++Mc b xs):=ADp fun a c=>ADh xs b
 unfold Fo at *
 rw[AjS]
 omega
theorem W9{N:Nat}(hN:N≤64):0≤It N:=by
 have:((List.range 65).all fun k=>decide (0≤It k))=true:=by kernel_rfl
 exact AlT (Ajd.1 this N (by simp;omega))
noncomputable def grown(N:Nat)(ts:List Tie)(l:List Edge):List Tie:=Yv ts (Kj N ts l) (gfl (trs ts ts.length) (Kj N ts l)) (Kj N ts l).length
theorem AaB(N:Nat)(ts:List Tie)(l:List Edge):(grown N ts l).length=ts.length+(Kj N ts l).length:=Ae5 ..
theorem AZ9(N:Nat)(ts:List Tie)(l:List Edge):(trs (grown N ts l) (grown N ts l).length).Perm (trs ts ts.length++Mc (trs ts ts.length) (Kj N ts l)):=by
 have:=Ae3 ts (xs:=Kj N ts l) (bs:=gfl (trs ts ts.length) (Kj N ts l)) (Ag4 _ _)
 rw[Afs]at this
 exact this
theorem AaA{N:Nat}(hN:N≤64){ts:List Tie}(ho:oks N ts)(l:List Edge):oks N (grown N ts l):=
 Ae4 ho (W9 hN) _ (AU5 N ts l) (fun e he=>by
  obtain⟨⟨a,b,c,_⟩,_⟩:=(UN N ts l e).1 he
  exact⟨a,b,c⟩) (fun e he=>((UN N ts l e).1 he).2)
theorem Aab{N:Nat}(hN:N≤64)(ts:List Tie)(l:List Edge):∀ e∈Kj N ts l,InE N e:=fun e he=>Adw (Aen hN ts l e he)
theorem AeH{N:Nat}(hN:N≤64){ts:List Tie}(h:Fo N (trs ts ts.length))(l:List Edge):Fo N (trs (grown N ts l) (grown N ts l).length):=
 (AhQ h (Aab hN ts l)).perm (AZ9 N ts l).symm
structure RG2(N:Nat)(ts:List Tie):Prop where
 h1:1≤N
 hN:N≤64
 ht:ts.length≤400
 oks:oks N ts
 fo:Fo N (trs ts ts.length)
theorem RG2.r21{N:Nat}{ts:List Tie}(h:RG2 N ts):HM (((N:Int),(ts,())),())=some (true,()):=(AM9 h.h1 h.hN h.ht h.oks).2 h.fo
theorem RG2.lr{N:Nat}{ts:List Tie}(h:RG2 N ts):LO (((N:Int),(ts,())),())=some (true,()):=by
 obtain⟨b,h1,h2,_⟩:=AEI (N:Int) ts (by have:=h.ht;omega)
 rw[h.r21]at h1
 cases h1
 exact h2
theorem AYd(n:Int)(ts:List Tie)(hl:ts.length<4611686018427387904):(HM ((n,(ts,())),())=some (false,())∧LO ((n,(ts,())),())=some (false,()))∨∃ N:Nat,n=(N:Int)∧RG2 N ts:=by
 obtain⟨b,h1,h2,h3⟩:=AEI n ts hl
 cases b
 ·exact .inl ⟨h1,h2⟩
 ·obtain⟨N,rfl,q1,q2,q3,q4⟩:=h3 rfl
  exact .inr ⟨N,rfl,q1,q2,q3,q4,(AM9 q1 q2 q3 q4).1 h1⟩
theorem RG2.inE{N:Nat}{ts:List Tie}(h:RG2 N ts):∀ e∈ts.map ed,In (N:Int) e.1∧In (N:Int) e.2.1:=AiT h.hN h.oks
theorem RG2.grown{N:Nat}{ts:List Tie}(h:RG2 N ts){l:List Edge}(hf:ts.length+(Kj N ts l).length≤400):RG2 N (grown N ts l):=
 ⟨h.h1,h.hN,by rw[AaB];exact hf,AaA h.hN h.oks l,AeH h.hN h.fo l⟩
end Go.Pev.Pl
end
section
namespace Go.Pev.Pl
open Tok
end Go.Pev.Pl
end
end
section
namespace Go.Pev.Pl
open Tok
theorem AbS(ts:List Tie)(t:Tie)(k:Int):trk (ts++[t]) k=trk ts k++if t.2.2.2.1=true∧k≤t.2.2.1 then [ed t]else []:=by
 rw[DW]
 congr 1
 unfold trk
 rw[AkN]
 by_cases h:t.2.2.2.1=true∧k≤t.2.2.1
 ·rw[AjP h,h.1,AjG h.2];rfl
 ·rw[AjQ h,AjQ]
  ·rfl
  ·rw[AjK,AjJ];exact h
theorem AMG(k:Int):∀ (ts a:List Tie) (acc:List Edge),acc=trk a k→ts.foldl (fun acc t=>if t.2.2.2.1=true∧k≤t.2.2.1 then acc++[ed t]else acc) acc=trk (a++ts) k:=by
 intro ts
 induction ts with
 |nil=>intro a acc h;simpa using h
 |cons t ts ih=>
  intro a acc h
  rw[Ajt,ih (a++[t])]
  ·simp
  ·rw[AbS,← h]
   split<;>simp
theorem AfM(ts:List Tie)(k:Int):(trk ts k).length≤ts.length:=by
 unfold trk
 rw[Aj6]
 exact Akm _ _
theorem AfL(ts:List Tie)(k:Int):∀ e∈trk ts k,e∈ts.map ed:=by
 intro e he
 obtain⟨t,h1,_,_,rfl⟩:=C8.1 he
 exact Aja.2 ⟨t,h1,rfl⟩
theorem AOs(n:Int)(ts:List Tie)(hs:ts.length≤400)(k:Int):P9 ((n,(ts,())),k,())=some (trk ts k,()):=by
 rw[VB,NM]
 have e:=Bn (step:=Cq) (fun i (a:List Edge)=>(k,a,ts,AG ts,(i:Int),())) ts (fun t a=>.inl (if t.2.2.2.1=true∧k≤t.2.2.1 then a++[ed t]else a)) (fun a=>.inl (a,())) (fun i a=>a.length≤i) (by omega)
  (fun i x a hi hx ha=>by
   refine⟨fun m' h' => ?_,fun r h'=>(by cases h')⟩
   cases h'
   constructor
   ·rw[Cq,AK,AL,AjG hi]
    simp only[Ae hx,AK]
    rw[AM (by omega),Ar,BK (by simp only[AjR,Aji];omega)]
    cases h4:x.2.2.2.1
    ·simp
    ·by_cases h5:k≤x.2.2.1
     ·simp[h5,ed,A2]
     ·simp[h5]
   ·split
    ·rw[AjS];simp;omega
    ·omega)
  (fun a _=>by rw[Cq,AK,AL,AjF (by omega)]) [] (AjO _)
 have e':AS Cq many (k,[],ts,AG ts,(0:Int),())=_:=e
 simp only[e']
 rw[A0 (fun(t:Tie) (a:List Edge)=>if t.2.2.2.1=true∧k≤t.2.2.1 then a++[ed t]else a),AMG k ts [] [] rfl]
 rfl
theorem AXn(n:Int)(ts:List Tie)(hs:ts.length≤400)(k:Int):AIT ((n,(ts,())),k,())=some (trk ts k,()):=by
 rw[AQ8,TQ]
 have e:=Bn (step:=Hq) (fun i (a:List Edge)=>(k,n,ts,a,(i:Int),())) ts (fun t a=>.inl (if t.2.2.2.1=true∧k≤t.2.2.1 then a++[ed t]else a)) (fun a=>.inl (a,())) (fun i a=>a.length≤i) (by omega)
  (fun i x a hi hx ha=>by
   refine⟨fun m' h' => ?_,fun r h'=>(by cases h')⟩
   cases h'
   constructor
   ·rw[Hq,AK,AL,AjG hi]
    simp only[Ae hx,AK]
    rw[AM (by omega),Ar,BK (by simp only[AjR,Aji];omega)]
    cases h4:x.2.2.2.1
    ·simp
    ·by_cases h5:k≤x.2.2.1
     ·simp[h5,ed,A2]
     ·simp[h5]
   ·split
    ·rw[AjS];simp;omega
    ·omega)
  (fun a _=>by rw[Hq,AK,AL,AjF (by omega)]) [] (AjO _)
 have e':AS Hq many (k,n,ts,[],(0:Int),())=_:=e
 simp only[e']
 rw[A0 (fun(t:Tie) (a:List Edge)=>if t.2.2.2.1=true∧k≤t.2.2.1 then a++[ed t]else a),AMG k ts [] [] rfl]
 rfl
theorem AbR{N:Nat}{ts:List Tie}(h:oks N ts):trs ts ts.length=trk ts 0:=by
 rw[AIN]
 unfold trk
 congr 1
 refine AmL fun t ht => ?_
 have:=((Y7 N ts).1 h).1 t ht
 rw[AjG this.2.2.2.1,Bool.and_true]
theorem RG2.fo0{N:Nat}{ts:List Tie}(h:RG2 N ts):Fo N (trk ts 0):=by rw[← AbR h.oks];exact h.fo
theorem RG2.inK{N:Nat}{ts:List Tie}(h:RG2 N ts)(k:Int):∀ e∈trk ts k,In (N:Int) e.1∧In (N:Int) e.2.1:=fun e he=>h.inE e (AfL ts k e he)
theorem RG2.AiL{N:Nat}{ts:List Tie}(h:RG2 N ts)(k:Int):(trk ts k).length≤400:=Aka (AfM ts k) h.ht
theorem RG2.AjA{N:Nat}{ts:List Tie}(h:RG2 N ts)(k:Int):∃ zs,LS (((N:Int),(ts,())),k,())=some (((N:Int),(zs,())),0,())∧FC (N:Int) zs (trk ts k):=by
 have hl:=h.AiL k
 have h1:=h.h1
 have hN:=h.hN
 rcases(AXE (N:Int) (trk ts k) ⟨by omega,by omega⟩ (by omega)).symm with⟨hno,_⟩|⟨_,zs,e,hF⟩
 ·exact absurd (h.inK k) hno
 refine⟨zs,?_,hF⟩
 rw[LR,He]
 simp only[h.lr,AjT,AOs (N:Int) ts h.ht k,e]
theorem RG2.Ai2{N:Nat}{ts:List Tie}(h:RG2 N ts)(k:Int):∃ out,Og ((N:Int),trk ts k,())=some (out,())∧W7 (N:Int) (trk ts k) out:=by
 have:=h.AiL k
 have h1:=h.h1
 have hN:=h.hN
 exact Gk (N:Int) (trk ts k) ⟨by omega,by omega⟩ (by omega) (h.inK k)
end Go.Pev.Pl
end
section
namespace Go.Pev.Pl
open Tok
def Ahd(ts:List Tie):Prop:=∀ e∈ts.map ed,Con (trk ts 0) e.1 e.2.1
def Ai1(ts:List Tie):Prop:=∀ t∈ts,t.2.2.2.1=false→Con (trk ts t.2.2.1) t.1 t.2.1
def Ahe(N:Nat)(ts:List Tie):Prop:=∀ k:Nat,(k:Int)≤It N→∀ v:Nat,v<N→csz N (trk ts k) v≤max 1 (N/2 ^ k)
theorem RG2.tie{N:Nat}{ts:List Tie}(h:RG2 N ts){t:Tie}(ht:t∈ts):In (N:Int) t.1∧In (N:Int) t.2.1∧t.1<t.2.1∧0≤t.2.2.1∧t.2.2.1≤It N:=by
 have h1:=((Y7 N ts).1 h.oks).1 t ht
 have h2:=h.inE (ed t) (Aja.2 ⟨t,ht,rfl⟩)
 exact⟨h2.1,h2.2,h1.2.1,h1.2.2.2.1,h1.2.2.2.2⟩
end Go.Pev.Pl
end
section
namespace Go.Pev.Pl
open Tok
def AMK(N:Nat):Nat:=(It N).toNat
theorem AIV{N:Nat}(hN:N≤64):It N=(AMK N:Int):=by
 have:=W9 hN
 unfold AMK
 omega
theorem RG2.snd{N:Nat}{ts:List Tie}(h:RG2 N ts)(hs:Ahd ts∧Ai1 ts∧Ahe N ts):Snd N (AMK N:Int) ts:=by
 refine⟨fun x hx => ?_,fun x hx=>Adw (h.inE _ (Aja.2 ⟨x,hx,rfl⟩)),h.fo0,hs.2.1,fun k hk v hv=>hs.2.2 k (by rw[AIV h.hN];exact hk) v hv⟩
 rw[← AIV h.hN]
 exact(h.tie hx).2.2.2
theorem Snd.parts{N:Nat}{ts:List Tie}(h:RG2 N ts)(hs:Snd N (AMK N:Int) ts):Ahd ts∧Ai1 ts∧Ahe N ts:=by
 refine⟨fun e he=>(hs.span _ _).1 (.edge e he),hs.lie,fun k hk v hv=>hs.halv k (by rw[← AIV h.hN];exact hk) v hv⟩
end Go.Pev.Pl
end
section
namespace Go.Pev.Pl
open Tok
theorem AfQ{N:Nat}(hN:N≤64):N/2 ^ AMK N≤1:=by
 have:((List.range 65).all fun k=>decide (k/2 ^ AMK k≤1))=true:=by kernel_rfl
 exact AlT (Ajd.1 this N (by simp;omega))
theorem RG2.below{N:Nat}{ts:List Tie}(h:RG2 N ts)(hs:Snd N (AMK N:Int) ts){t:Tie}(ht:t∈ts):t.2.2.1<(AMK N:Int):=
 hs.below (AfQ h.hN) ht (by have:=(h.tie ht).2.2.1;omega)
end Go.Pev.Pl
end
section
namespace Go.Pev.Pl
open Tok
end Go.Pev.Pl
end
section
namespace Go.Pev.Pl
open Tok
end Go.Pev.Pl
end
section
namespace Go.Pev.Pl
open Tok
end Go.Pev.Pl
end
section
namespace Go.Pev.Pl
open Tok
theorem RG2.edP{N:Nat}{ts:List Tie}(h:RG2 N ts):(ts.map ed).Pairwise J7:=by
 rw[Akq]
 exact((Y7 N ts).1 h.oks).2
end Go.Pev.Pl
end
section
namespace Go.Pev.Pl
open Tok
end Go.Pev.Pl
end
section
namespace Go.Pev.Pl
section
variable {N top:Nat} {ts w:List Tie} (hp:w.Perm ts) (hi:∀ x∈ts,InE N (ed x)) (hl:∀ t∈ts,0≤t.2.2.1∧t.2.2.1≤(top:Int)) (hfo:Fo N (trk ts 0)) (hlie:∀ x∈ts,x.2.2.2.1=false→Con (trk ts x.2.2.1) x.1 x.2.1)
include hp hi
include hl hfo hlie
end
end Go.Pev.Pl
end
section
namespace Go.Pev.Pl
open Tok
end Go.Pev.Pl
end
section
namespace Go.Pev.Pl
open Tok
def bef(x y:Tie):Prop:=y.2.2.1<x.2.2.1∨(x.2.2.1=y.2.2.1∧ahead x y)
theorem bef.trans{x y z:Tie}(h:bef x y)(h':bef y z):bef x z:=by
 unfold bef ahead at *
 omega
def Mrg(u v w:List Tie):Prop:=w.Perm (u++v)∧w.Pairwise bef
end Go.Pev.Pl
end
section
namespace Go.Pev.Pl
open Tok
noncomputable section
end
theorem Mrg.append{u1 u2 v1 v2 w1 w2:List Tie}(h1:Mrg u1 v1 w1)(h2:Mrg u2 v2 w2)(hu:(u1++u2).Pairwise bef)(hv:(v1++v2).Pairwise bef)(c1:∀ x∈u1,∀ y∈v2,bef x y)(c2:∀ y∈v1,∀ x∈u2,bef y x):Mrg (u1++u2) (v1++v2) (w1++w2):=by
 rw[Al0]at hu hv
 refine⟨?_,?_⟩
 ·refine(h1.1.append h2.1).trans ?_
  rw[AkU,AkU]
  refine List.Perm.append_left _ ?_
  rw[← AkU,← AkU]
  exact List.Perm.append_right _ Ak7
 ·rw[Al0]
  refine⟨h1.2,h2.2,fun x hx y hy => ?_⟩
  have hx:=AjL.1 (h1.1.mem_iff.1 hx)
  have hy:=AjL.1 (h2.1.mem_iff.1 hy)
  rcases hx with hx|hx<;>rcases hy with hy|hy
  ·exact hu.2.2 x hx y hy
  ·exact c1 x hx y hy
  ·exact c2 x hx y hy
  ·exact hv.2.2 x hx y hy
end Go.Pev.Pl
end
section
namespace Go.Pev.Pl
open Tok
end Go.Pev.Pl
end
section
namespace Go.Pev.Pl
open Tok
end Go.Pev.Pl
end
section
namespace Go.Pev.Pl
open Tok
theorem AMz(l:List Edge)(hs:l.length<1073741824):Pt (l,l,())=some (true,()):=by
 rw[AGk,RL,AK,An]
 have e:=PN (step:=Fj) (fun i=>(l,l,(i:Int),())) l (fun _=>false) (fun _=>.inl (false,())) (.inr (.inl ())) (by omega)
  (fun i x hi hx=>by
   rw[Fj,AK,AL,AjG hi]
   simp only[Ae hx,An,AjV,AkP,AjT]
   rw[AM (by omega)]
   rfl)
  (by rw[Fj,AK,AL,AjF (by omega)])
 have e':AS Fj many (l,l,(0:Int),())=_:=e
 have hf:(l.any fun _=>false)=false:=by simp
 rw[e',hf]
 simp
def lvl(ts:List Tie)(k:Int):List Tie:=ts.filter fun t=>decide (t.2.2.1=k)
end Go.Pev.Pl
end
section
namespace Go.Pev.Pl
open Tok
section
variable (n:Int) (ts:List Tie)
end
end Go.Pev.Pl
end
section
namespace Go.Pev.Pl
open Tok
def mid(f:Int→Int)(xs:List Int)(i:Nat):List Int:=(xs.take i).map f++xs.drop i
def lb(at0:List Int)(v:Int):Int:=at0.getD v.toNat 0
end Go.Pev.Pl
end
section
namespace Go.Pev.Pl
open Tok
end Go.Pev.Pl
end
section
namespace Go.Pev.Pl
section
variable {α β:Type} [DecidableEq α]
theorem ACR(es:List (α×β))(k:α)(v:β)(j:α):AP (Af es k v) j=if j=k then some v else AP es j:=by
 induction es with
 |nil=>
  simp only[Af,AP]
  by_cases h:j=k
  ·rw[AjP h,AjP h.symm]
  ·rw[AjQ h,AjQ (Ajy h)]
 |cons e es ih=>
  obtain⟨a,x⟩:=e
  by_cases h1:a=k
  ·subst h1
   simp only[Af,AP,Ajw]
   by_cases h:j=a
   ·rw[AjP h,AjP h.symm]
   ·rw[AjQ h,AjQ (Ajy h),AjQ (Ajy h)]
  ·simp only[Af,AP,h1,Ajc,ih]
   by_cases h:a=j
   ·subst h
    rw[AjP rfl,AjQ h1,AjP rfl]
   ·rw[AjQ h,AjQ h]
theorem AGu:∀ (es:List (α×β)) (k:α),D9 es k=none→∀ v,Af es k v=es++[(k,v)]:=by
 intro es
 induction es with
 |nil=>intro k _ v;rfl
 |cons e es ih=>
  intro k h v
  obtain⟨a,b⟩:=e
  by_cases hk:a=k
  ·simp[D9,hk]at h
  ·simp only[D9,hk,Ajc,AmO]at h
   simp only[Af,hk,Ajc,ih k h v,Ajm]
theorem AGt:∀ (es:List (α×β)) (k:α) (n:Nat),D9 es k=some n→∀ v,n<es.length∧Af es k v=es.modify n fun e=>(e.1,v):=by
 intro es
 induction es with
 |nil=>intro k n h;simp[D9]at h
 |cons e es ih=>
  intro k n h v
  obtain⟨a,b⟩:=e
  by_cases hk:a=k
  ·simp only[D9,hk,Ajw,AjH]at h
   subst h
   simp[Af,hk]
  ·simp only[D9,hk,Ajc,AjX]at h
   obtain⟨m,hm,rfl⟩:=h
   obtain⟨h1,h2⟩:=ih k m hm v
   simp only[Af,hk,Ajc,AjR]
   exact⟨by omega,by rw[h2];rfl⟩
theorem ATb(es:List (α×β))(k:α)(z v:β):(ile (0:Int) (Rb es k)&&ilt (Rb es k) (AG (Af es k z)))=true∧AOg (Af es k z) (Rb es k) v=Af es k v:=by
 rw[Ar,Ag]
 unfold Rb AOg
 cases h:D9 es k with
 |none=>
  rw[AGu es k h,AGu es k h,AmV,AkG]
  constructor
  ·rw[AjG (by omega),AjG (by rw[AK,AjS];simp;omega)];rfl
  ·have:∀ (xs:List (α×β)),(xs++[(k,z)]).modify xs.length (fun e=>(e.1,v))=xs++[(k,v)]:=by
    intro xs
    induction xs with
    |nil=>rfl
    |cons x xs ih=>rw[Ajm,AjR,List.modify_succ_cons,ih];rfl
   exact this es
 |some n=>
  obtain⟨h1,h2⟩:=AGt es k n h z
  obtain⟨_,h3⟩:=AGt es k n h v
  rw[h2,h3,Ajn,AkG]
  constructor
  ·rw[AjG (by omega),AjG (by rw[AK,List.length_modify];omega)];rfl
  ·apply Ak5
   intro i
   simp only[Aly]
   cases es[i]? with
   |none=>split<;>rfl
   |some e=>split<;>rfl
end
end Go.Pev.Pl
end
section
namespace Go.Pev.Pl
open Tok
end Go.Pev.Pl
end
section
namespace Go.Pev.Pl
open Tok
end Go.Pev.Pl
end
section
namespace Go.Pev.Pl
open Tok
end Go.Pev.Pl
end
section
namespace Go.Pev.Pl
open Tok
section
variable (n:Int) (a2 a3:Bool) (a4 a5 top:Int)
end
end Go.Pev.Pl
end
section
namespace Go.Pev.Pl
section
variable {α:Type} (z:α)
theorem ACx{a o:List α}{m k:Nat}(h:a.drop m=o.drop m)(hk:m≤k):a.getD k z=o.getD k z:=by
 have:=Akf (fun l=>l.getD (k-m) z) h
 simp only[AjI,AkH]at this
 rw[Nat.add_sub_cancel' hk]at this
 simpa [AjI]using this
theorem MP{xs:List α}{i:Nat}(h:i<xs.length):xs.take (i+1)=xs.take i++[xs.getD i z]:=by
 rw[Akk h];simp[h]
theorem Aeg{σ ρ:Type}{step:σ→Option (σ⊕ρ)}(st:List α→Nat→Nat→σ)(fin:List α→Nat→ρ)(keep:α→Bool)(o:List α)
  (h:∀ a w j,a.length=o.length→j<o.length→w<j→a.getD j z=o.getD j z→step (st a w j)=some (.inl (if keep (o.getD j z)=true then st (a.set w (o.getD j z)) (w+1) (j+1)else st a w (j+1))))
  (hN:∀ a w,a.length=o.length→step (st a w o.length)=some (.inr (fin a w))) :
  ∀ (k j w:Nat) (a:List α) (cnt:Nat),j+k=o.length→a.length=o.length→w=((o.take j).filter keep).length→a.take w=(o.take j).filter keep→w<j→a.drop j=o.drop j→k<cnt →
  ∃ a':List α,AX step cnt (st a w j)=some (fin a' (o.filter keep).length)∧a'.length=o.length∧a'.take (o.filter keep).length=o.filter keep:=by
 intro k
 induction k with
 |zero=>
  intro j w a cnt hk hl hw hq hwj hd hn
  obtain⟨cnt,rfl⟩:∃ k,cnt=k+1:=⟨cnt-1,by omega⟩
  have e:j=o.length:=by omega
  subst e
  rw[Akv]at hw hq
  rw[AX,hN a w hl]
  exact⟨a,by rw[hw],hl,by rw[← hw];exact hq⟩
 |succ k ih=>
  intro j w a cnt hk hl hw hq hwj hd hn
  obtain⟨cnt,rfl⟩:∃ k,cnt=k+1:=⟨cnt-1,by omega⟩
  have g1:=ACx z hd (AjO j)
  have hdd:a.drop (j+1)=o.drop (j+1):=by
   have:=Akf (List.drop 1) hd
   simpa only[AlE]using this
  have hst:(o.take (j+1)).filter keep=(o.take j).filter keep++if keep (o.getD j z)=true then [o.getD j z]else []:=by
   rw[MP z (by omega),AlB]
   generalize o.getD j z=v
   by_cases h:keep v=true<;>simp[h]
  rw[AX,h a w j hl (by omega) hwj g1]
  by_cases hv:keep (o.getD j z)=true
  ·rw[AjP hv]at hst ⊢
   refine ih (j+1) (w+1) (a.set w (o.getD j z)) cnt (by omega) (by simp[hl]) (by rw[hst];simp[hw]) ?_ (by omega) ?_ (by omega)
   ·rw[hst,← hq,Akk (by simp;omega)]
    simp[List.take_set_of_le]
   ·rw[List.drop_set_of_lt (by omega)]
    exact hdd
  ·rw[AjQ hv]at hst ⊢
   rw[AkS]at hst
   exact ih (j+1) w a cnt (by omega) hl (by rw[hst];exact hw) (by rw[hst];exact hq) (by omega) hdd (by omega)
theorem AaX{σ ρ σ' ρ':Type}{find:σ'→Option (σ'⊕ρ')}{step:σ→Option (σ⊕ρ)}(st:List α→Nat→Nat→σ)(fin:List α→Nat→ρ)(sf:Nat→σ')(fr:Nat→ρ')(fn:ρ')(keep:α→Bool)(o:List α)(hs:o.length<4294967296)
  (h:∀ a w j,a.length=o.length→j<o.length→w<j→a.getD j z=o.getD j z→step (st a w j)=some (.inl (if keep (o.getD j z)=true then st (a.set w (o.getD j z)) (w+1) (j+1)else st a w (j+1))))
  (hN:∀ a w,a.length=o.length→step (st a w o.length)=some (.inr (fin a w)))
  (f:∀ i,i<o.length→find (sf i)=if keep (o.getD i z)=true then some (.inl (sf (i+1)))else some (.inr (fr i))) (fN:find (sf o.length)=some (.inr fn)) :
  (o.filter keep=o∧AS find many (sf 0)=some fn) ∨
  (∃ k a',k<o.length∧AS find many (sf 0)=some (fr k)∧AS step many (st o k (k+1))=some (fin a' (o.filter keep).length)∧a'.length=o.length∧(o.filter keep).length≤o.length∧a'.take (o.filter keep).length=o.filter keep):=by
 have hm:4294967296<many:=by simp only[many];omega
 have hall:∀ n,(∀ j,j<n→j<o.length→keep (o.getD j z)=true)→(o.take n).filter keep=o.take n:=by
  intro n hj
  rw[Al5]
  intro x hx
  obtain⟨j,h1,rfl⟩:=AlP.1 hx
  have:=hj j (by omega) (by omega)
  simpa [show j<o.length by omega]using this
 rcases AMt (step:=find) sf o.length (fun i => !keep (o.getD i z)) fr fn (by omega) (fun i hi=>by rw[f i hi];cases keep (o.getD i z)<;>rfl) fN with⟨k,hk,hP,hF,e⟩|⟨hP,e⟩
 ·right
  have hkf:keep (o.getD k z)=false:=by
   cases hq:keep (o.getD k z)
   ·rfl
   ·rw[hq]at hP;cases hP
  have h1:(o.take k).filter keep=o.take k:=hall k fun j h1 _=>by
   have:=hF j h1
   cases hq:keep (o.getD j z)
   ·rw[hq]at this;cases this
   ·rfl
  have h2:(o.take (k+1)).filter keep=o.take k:=by
   rw[MP z hk,AlB,h1,AkN,hkf]
   simp
  obtain⟨a',e2,e3,e4⟩:=Aeg z st fin keep o h hN (o.length-(k+1)) (k+1) k o many (by omega) rfl (by rw[h2,Ajb];omega) (by rw[h2]) (by omega) rfl (by omega)
  exact⟨k,a',hk,e,by rw[Au];exact e2,e3,Akm _ _,e4⟩
 ·left
  refine⟨?_,e⟩
  have:=hall o.length fun j _ h2=>by
   have:=hP j h2
   cases hq:keep (o.getD j z)
   ·rw[hq]at this;cases this
   ·rfl
  rwa [Akv]at this
theorem AU7{a:List α}{w:Nat}(h:w≤a.length):(Bm w (a.length-w) z a).take w=a.take w∧(Bm w (a.length-w) z a).length=a.length:=by
 constructor
 ·rw[Bm,List.take_append_of_le_length (by simp;omega),AlW,Nat.min_self]
 ·simp[Bm];omega
end
end Go.Pev.Pl
end
section
namespace Go.Pev.Pl
open Tok
end Go.Pev.Pl
end
section
namespace Go.Pev.Pl
open Tok
end Go.Pev.Pl
end
section
namespace Go.Pev.Pl
open Tok
end Go.Pev.Pl
end
section
namespace Go.Pev.Pl
open Tok
theorem Yt{n:Int}(l:List Edge)(hs:l.length<1073741824)(ha:∀ e∈l,In n e.1∧In n e.2.1):
  ∀ (m i c1 c2:Nat) (rings:List (List Int)) (t1 t2:List Bool),i+m=l.length→t1.length=i→t2.length=i→FC n rings (l.take i)→m<c1→m<c2 →
  ∃ zs b1 b2,AX IK c1 (l,n,rings,(0:Int),t1,(i:Int),())=some (.inl (n,zs,(0:Int),b1,()))∧AX B4 c2 (n,rings,(0:Int),t2,l,(l.length:Int),(i:Int),())=some (.inl (n,zs,(0:Int),b2,()))∧FC n zs l:=by
 intro m
 induction m with
 |zero=>
  intro i c1 c2 rings t1 t2 hi ht1 ht2 h hc1 hc2
  obtain⟨c1,rfl⟩:∃ c,c1=c+1:=⟨c1-1,by omega⟩
  obtain⟨c2,rfl⟩:∃ c,c2=c+1:=⟨c2-1,by omega⟩
  rw[AkQ (by omega)]at h
  refine⟨rings,t1,t2,?_,?_,h⟩
  ·rw[AX,IK,AK,AL,AjF (by omega)]
  ·rw[AX,B4,AL,AjF (by omega)]
 |succ m ih=>
  intro i c1 c2 rings t1 t2 hi ht1 ht2 h hc1 hc2
  obtain⟨c1,rfl⟩:∃ c,c1=c+1:=⟨c1-1,by omega⟩
  obtain⟨c2,rfl⟩:∃ c,c2=c+1:=⟨c2-1,by omega⟩
  have hi':i<l.length:=by omega
  have hx:l[i]? = some l[i]:=AjM hi'
  obtain⟨iu,iv⟩:=ha _ (AkY hi')
  obtain⟨zs,q,e1,e2,_⟩:=AXU h iu iv
  obtain⟨zs',q',f1,f2,_⟩:=AVZ (n:=n) (rings:=rings) l[i].1 l[i].2.1 h.fr.dom
  rw[e1]at f1
  cases f1
  rw[← Akk hi']at e2
  obtain⟨zs2,b1,b2,g1,g2,g3⟩:=ih (i+1) c1 c2 zs (A2 t1 [ieq q 0]) (A2 t2 [ieq q 0]) (by omega) (by simp[DC,ht1]) (by simp[DC,ht2]) e2 (by omega) (by omega)
  refine⟨zs2,b1,b2,?_,?_,g3⟩
  ·rw[AX,IK,AK,AL,AjG hi']
   simp only[Ae hx,f2]
   rw[AM (by omega),BK (by simp only[AK,AjR,Aji];omega)]
   exact g1
  ·rw[AX,B4,AL,AjG hi']
   simp only[Ae hx,e1]
   rw[AM (by omega),BK (by simp only[AK,AjR,Aji];omega)]
   exact g2
theorem AhG{N:Nat}(h1:1≤N)(hN:N≤64)(l:List Edge)(hs:l.length<1073741824)(ha:∀ e∈l,In (N:Int) e.1∧In (N:Int) e.2.1):
  ∃ zs,fof ((N:Int),l,())=some (((N:Int),(zs,())),0,())∧AiD ((N:Int),l,())=some (((N:Int),(zs,())),0,())∧FC (N:Int) zs l:=by
 have hF:=AES h1 hN
 have hD:=hF.fr.dom
 have hRF:=L5.2 hF.fr
 obtain⟨zs,b1,b2,e1,e2,h2⟩:=Yt l hs ha l.length 0 many many (BT N) [] [] (by omega) rfl rfl (by simpa using hF) (by simp only[many];omega) (by simp only[many];omega)
 refine⟨zs,?_,?_,h2⟩
 ·have hth:QO (((N:Int),(BT N,())),l.flatMap fun e=>[e.1,e.2.1],())=some (0,()):=by
   have hfl:=APq l
   rw[ACz _ _ _ hD (by omega),APr,AQT,AjP hRF]
   split
   ·rfl
   ·rename_i hc
    exact absurd (Ajd.2 fun e he=>AjG (ha e he)) hc
  have hm:HQ (N:Int)=((N:Int),BT N,0,()):=by
   unfold HQ
   rw[AjP (show Sz (N:Int)from⟨by omega,by omega⟩),AkG]
  have e2':AX B4 many ((N:Int),BT N,(0:Int),[],l,(l.length:Int),(0:Int),())=_:=e2
  rw[AUb,APe]
  simp only[AGO,hm,Bd,AjT]
  rw[Vr,Nd,Ni,IW]
  simp only[ADN l hs,hth,Bd,AjT,Au,AK,e2']
 ·have hall:(l.all fun e=>decide (In (N:Int) e.1)&&decide (In (N:Int) e.2.1))=true:=by
   rw[Ajd]
   intro e he
   obtain⟨h1,h2⟩:=ha e he
   simp[h1,h2]
  have e1':AS IK many (l,(N:Int),BT N,(0:Int),[],(0:Int),())=_:=(Au _ _ _).trans e1
  have hE:AQT (N:Int) (BT N) true=0:=by
   unfold AQT
   simp[hRF]
  have hL:AKO (((N:Int),(BT N,())),l,())=some (((N:Int),(zs,())),b1,0,()):=by
   rw[AT2,VJ]
   simp only[AMS (N:Int) (BT N) l hD (by omega),hall]
   rw[hE]
   simp only[OX,AjT,e1']
  have hm:AKI ((N:Int),())=some ((N:Int),BT N,0,()):=by
   rw[ATp]
   unfold HQ
   rw[AjP (show Sz (N:Int)from⟨by omega,by omega⟩),AkG]
  rw[AgR,ATU]
  simp only[hm,OX,AjT,hL]
theorem RG2.both{N:Nat}{ts:List Tie}(h:RG2 N ts)(k:Int):∃ zs,LS (((N:Int),(ts,())),k,())=some (((N:Int),(zs,())),0,())∧AC5 (((N:Int),(ts,())),k,())=some (((N:Int),(zs,())),0,())∧FC (N:Int) zs (trk ts k):=by
 have hl:=h.AiL k
 obtain⟨zs,e1,e2,hF⟩:=AhG h.h1 h.hN (trk ts k) (by omega) (h.inK k)
 refine⟨zs,?_,?_,hF⟩
 ·rw[LR,He]
  simp only[h.lr,AjT,AOs (N:Int) ts h.ht k,e1]
 ·rw[APc,QQ]
  simp only[h.r21,AjT,AXn (N:Int) ts h.ht k,e2]
end Go.Pev.Pl
end
section
namespace Go.Pev.Pl
open Tok
section
variable (n:Int) (ts:List Tie)
theorem AO1(k:Int)(hr:LO ((n,(ts,())),())=some (false,())):LS ((n,(ts,())),k,())=some ((0,([],())),1,()):=by
 rw[LR,He]
 simp only[hr,Aj2]
end
end Go.Pev.Pl
end
section
namespace Go.Pev.Pl
open Tok
end Go.Pev.Pl
end
section
namespace Go.Pev.Pl
open Tok
end Go.Pev.Pl
end
section
namespace Go.Pev.Pl
open Tok
end Go.Pev.Pl
end
section
namespace Go.Pev.Pl
open Tok
theorem AZH(n:Int)(rings:List (List Int))(v:Int)(hD:Dom rings):AiE ((n,(rings,())),v,())=some (if RF n rings∧In n v then plc rings v else -1,()):=by
 rw[AgS,ATV]
 simp only[IN,Ep n rings hD.1 hD.2,M9 n rings v hD.1 (fun l hl=>(hD.2 l hl).1)]
 by_cases h1:In n v
 ·by_cases h2:RF n rings<;>simp[h1,h2]
 ·by_cases h2:RF n rings<;>simp[h1,h2]
section
variable (a0:Int) (a1:List Tie) (a2 a3 a4:Int) (a5:List (List Int)) (a6:Int) (a7:List (List Int)) (p q:List Edge)
end
end Go.Pev.Pl
end
section
namespace Go.Pev.Pl
open Tok
end Go.Pev.Pl
end
section
namespace Go.Pev.Pl
theorem ZO{α β:Type}:∀ m:List (α×β),List.zip (List.map Prod.fst m) (List.map Prod.snd m)=m
 |[]=>rfl
 |(a,b)::m=>by simp only[Ajr,Alm,ZO m]
theorem KM{β:Type}(k:Int):∀ m:List (Int×List β),AY (m.map Prod.snd) (C2 (m.map Prod.fst) k) []=(AP m k).getD []
 |[]=>by simp[C2,AY,AP]
 |(a,b)::m=>by
  have ih:=KM k m
  simp only[Ajr,C2,AP]
  by_cases h:a=k
  ·simp[h,AY]
  ·simp only[h,Ajc]
   rw[← ih]
   simp[AY]
theorem AM3{β:Type}(k:Int)(v:β):∀ m:List (Int×β),List.zip (Lr (m.map Prod.fst) (C2 (m.map Prod.fst) k) k) (Lr (m.map Prod.snd) (C2 (m.map Prod.fst) k) v)=Af m k v
 |[]=>by simp[C2,Lr,Af]
 |(a,b)::m=>by
  have ih:=AM3 k v m
  simp only[Ajr,C2,Af]
  by_cases h:a=k
  ·simp[h,Lr,ZO]
  ·simp only[h,Ajc]
   rw[← ih]
   have q:∀ {α:Type} (x y:α) (xs:List α) (i:Nat),Lr (x::xs) (i+1) y=x::Lr xs i y:=by
    intro α x y xs i
    simp only[Lr,AjR,Nat.add_lt_add_iff_right,List.set_cons_succ,Ajm]
    split<;>rfl
   rw[q,q,Alm]
def AFV(k:Int)(t:Tie):Bool := !t.2.2.2.1&&decide (t.2.2.1=k)
def DU(ts:List Tie)(k:Int):List Edge:=(ts.filter (AFV k)).map ed
def Ek(x:Int)(e:Edge):Bool:=decide (e.1=x∨e.2.1=x)
abbrev RM:=List (Int×List (Int×Int×Unit))
def E7(m:RM)(x:Int):List (Int×Int×Unit):=(AP m x).getD []
def AQa(m:RM)(x:Int)(e:Edge):RM:=Af m x (E7 m x++[e])
def AVe(m:RM)(e:Edge):RM:=AQa (AQa m e.1 e) e.2.1 e
theorem OI(m:RM)(x:Int)(e:Edge)(y:Int):E7 (AQa m x e) y=if y=x then E7 m x++[e]else E7 m y:=by
 unfold E7 AQa
 rw[Dv]
 by_cases h:y=x<;>simp[h,E7]
theorem AYU(m:RM)(e:Edge)(h:e.1≠e.2.1)(y:Int):E7 (AVe m e) y=E7 m y++if Ek y e=true then [e]else []:=by
 unfold AVe
 rw[OI,OI,OI]
 unfold Ek
 by_cases h1:y=e.1
 ·subst h1
  rw[AjQ h,AjP rfl,AjP (by simp)]
 ·by_cases h2:y=e.2.1
  ·subst h2
   rw[AjP rfl,AjQ h1,AjP (by simp)]
  ·rw[AjQ h2,AjQ h1,AjQ (by simp;omega),AkS]
theorem AAr(m:RM)(x:Int)(e:Edge)(n:Nat)(h:∀ y,(E7 m y).length≤n):∀ y,(E7 (AQa m x e) y).length≤n+1:=by
 intro y
 rw[OI]
 have:=h x
 have:=h y
 split<;>simp<;>omega
def AOa(k:Int)(m:RM)(t:Tie):RM:=if AFV k t=true then AVe m (ed t)else m
theorem AY7(k:Int)(y:Int):∀ (ts:List Tie) (m:RM),(∀ t∈ts,t.1<t.2.1)→E7 (ts.foldl (AOa k) m) y=E7 m y++(DU ts k).filter (Ek y):=by
 intro ts
 induction ts with
 |nil=>intro m _;simp[DU]
 |cons t ts ih=>
  intro m h
  rw[Ajt,ih _ fun t ht=>h t (Ajh _ ht)]
  unfold AOa DU
  rw[AkN]
  by_cases hb:AFV k t=true
  ·rw[AjP hb,AjP hb,AYU _ _ (by have:=h t List.mem_cons_self;show t.1≠t.2.1;omega),Ajr,AkN]
   by_cases hy:Ek y (ed t)=true
   ·rw[AjP hy,AjP hy];simp
   ·rw[AjQ hy,AjQ hy];simp
  ·rw[AjQ hb,AjQ hb]
theorem AcD(k n:Int)(tks:List Int)(ofm:List (Int×Int))(m:RM)(u v l:Int)(b:Bool)(ts:List Tie)(d i l' k':Int)(b':Bool)(c:Nat)(hc:∀ y,(E7 m y).length≤c)(hs:c<1073741824):
  AS GY many (k,n,tks,ofm,m,u,v,l,b,ts,d,i,l',k',b',([u,v]:List Int),(0:Int),())=some (.inl (k,n,tks,ofm,AVe m (u,(v,())),ts,d,i,l',k',b',())):=by
 obtain⟨q,hm⟩:∃ q,many=q+3:=⟨many-3,by simp only[many]⟩
 have i0:idx [u,v] (0:Int)=some u:=by rw[idx_eq];rfl
 have i1:idx [u,v] (1:Int)=some v:=by rw[idx_eq];rfl
 have w1:IntKind.wrap .i64 ((0:Int)+1)=1:=by rw[Ai (by omega)];rfl
 have w2:IntKind.wrap .i64 ((1:Int)+1)=2:=by rw[Ai (by omega)];rfl
 have c0:ilt (0:Int) 2=true:=by rw[Ag];rfl
 have c1:ilt (1:Int) 2=true:=by rw[Ag];rfl
 have c2:ilt (2:Int) 2=false:=by rw[Ag];rfl
 have d0:AY [u,v] 0 (0:Int)=u:=rfl
 have d1:AY [u,v] 1 (0:Int)=v:=rfl
 have fl:∀ (m:RM) (x:Int) (e:Edge),(E7 m x).length≤c+1→fits ((AG ((AP m x).getD []))+(AG ([e]:List Edge)))=true:=by
  intro m x e h
  apply BK
  simp only[AK,Aj8]
  simp only[E7]at h
  omega
 have q0:=AAr m u (u,(v,())) c hc
 have st:∀ (m:RM) (j x:Int),(E7 m x).length≤c+1→ilt j 2=true→idx [u,v] j=some x→GY (k,n,tks,ofm,m,u,v,l,b,ts,d,i,l',k',b',([u,v]:List Int),j,())=some (.inl (k,n,tks,ofm,AQa m x (u,(v,())),u,v,l,b,ts,d,i,l',k',b',([u,v]:List Int),IntKind.wrap .i64 (j+1),())):=by
  intro m j x h1 h2 h3
  simp only[GY,d0,d1,h2,h3,KM,AM3,Bd,AkP,DC,fl m x (u,(v,())) h1]
  rfl
 have en:GY (k,n,tks,ofm,AVe m (u,(v,())),u,v,l,b,ts,d,i,l',k',b',([u,v]:List Int),(2:Int),())=some (.inr (.inl (k,n,tks,ofm,AVe m (u,(v,())),ts,d,i,l',k',b',()))):=by
  simp only[GY,c2,ZO]
 rw[Au,hm,AX,st m 0 u (Nat.le_succ_of_le (hc u)) c0 i0,w1]
 show AX GY (q+2) _=_
 rw[AX,st _ 1 v (q0 v) c1 i1,w2]
 show AX GY (q+1) _=_
 rw[AX]
 have ea:AQa (AQa m u (u,(v,()))) v (u,(v,()))=AVe m (u,(v,())):=rfl
 rw[ea,en]
theorem AYG(k n:Int)(tks:List Int)(ofm:List (Int×Int))(ts:List Tie)(hs:ts.length≤400):
  AS Iz many (k,n,tks,ofm,([]:RM),ts,AG ts,(0:Int),())=some (.inl (n,tks,ofm,ts.foldl (AOa k) [],())):=by
 have e:=Bn (step:=Iz) (fun i (m:RM)=>(k,n,tks,ofm,m,ts,AG ts,(i:Int),())) ts (fun t m=>.inl (AOa k m t)) (fun m=>.inl (n,tks,ofm,m,())) (fun i m=>∀ y,(E7 m y).length≤2*i) (by omega)
  (fun i x m hi hx hm=>by
   refine⟨fun m' h' => ?_,fun r h'=>(by cases h')⟩
   cases h'
   constructor
   ·rw[Iz,AK,AL,AjG hi]
    simp only[Ae hx,AK,ZO]
    rw[AM (by omega)]
    unfold AOa AFV
    cases h4:x.2.2.2.1
    ·simp only[An]
     by_cases h5:x.2.2.1=k
     ·rw[AjG h5]
      simp only[AjT,Aj2,Ale,Ajw]
      rw[AcD k n tks ofm m x.1 x.2.1 x.2.2.1 false ts _ _ _ _ _ (2*i) hm (by omega)]
      simp only[ZO]
      rw[AM (by omega)]
      rfl
     ·rw[AjF h5]
      simp
    ·simp
   ·unfold AOa
    split
    ·intro y
     have:=AAr _ x.2.1 (ed x) (2*i+1) (AAr m x.1 (ed x) (2*i) hm) y
     exact this
    ·intro y
     have:=hm y
     omega)
  (fun m _=>by rw[Iz,AK,AL,AjF (by omega)];simp only[ZO]) [] (fun y=>by simp[E7,AP])
 have e':AS Iz many (k,n,tks,ofm,([]:RM),ts,AG ts,(0:Int),())=_:=e
 rw[e',A0 (fun(t:Tie) (m:RM)=>AOa k m t)]
def ofF(m:List (Int×Int))(x:Int):List (Int×Int):=Af m x 1
theorem AgQ(y:Int):∀ (xs:List Int) (m:List (Int×Int)),(AP (xs.foldl ofF m) y).getD 0=if y∈xs then 1 else(AP m y).getD 0:=by
 intro xs
 induction xs with
 |nil=>intro m;simp
 |cons x xs ih=>
  intro m
  rw[Ajt,ih]
  unfold ofF
  rw[Dv]
  by_cases h:y∈xs
  ·simp[h]
  ·by_cases h2:y=x<;>simp[h,h2]
theorem AYF(k n:Int)(ts:List Tie)(n':Int)(tks:List Int)(hs:tks.length≤1000):
  AS I0 many (k,n,ts,n',tks,([]:List (Int×Int)),([]:RM),tks,AG tks,(0:Int),())=some (.inl (k,n,ts,n',tks,tks.foldl ofF [],([]:RM),())):=by
 have e:=Bn (step:=I0) (fun i (m:List (Int×Int))=>(k,n,ts,n',tks,m,([]:RM),tks,AG tks,(i:Int),())) tks (fun x m=>.inl (ofF m x)) (fun m=>.inl (k,n,ts,n',tks,m,([]:RM),())) (fun _ _=>True) (by omega)
  (fun i x m hi hx hm=>by
   refine⟨fun m' h' => ?_,fun r h'=>(by cases h')⟩
   cases h'
   refine⟨?_,trivial⟩
   rw[I0,AK,AL,AjG hi]
   simp only[Ae hx,AK,AlA,List.zip_nil_left]
   rw[AM (by omega)]
   rfl)
  (fun m _=>by rw[I0,AK,AL,AjF (by omega)];rfl) [] trivial
 have e':AS I0 many (k,n,ts,n',tks,([]:List (Int×Int)),([]:RM),tks,AG tks,(0:Int),())=_:=e
 rw[e',A0 (fun(x:Int) (m:List (Int×Int))=>ofF m x)]
structure TR(N:Nat)(ts:List Tie)(v k:Int)(tks:List Int)(ofm:List (Int×Int))(outm:RM):Prop where
 rg:RG (N:Int) tks
 mem:v∈tks
 of:∀ x,(AP ofm x).getD 0=if x∈tks then 1 else 0
 row:∀ x,E7 outm x=(DU ts k).filter (Ek x)
 con:∀ u,In (N:Int) u→(u∈tks↔Con (trk ts k) v u)
theorem AcC{N:Nat}{ts:List Tie}(h:RG2 N ts)(v k:Int)(hv:0≤v∧v<(N:Int)):
  ∃ tks ofm outm,seen (((N:Int),(ts,())),v,k,())=some (.inr (.inl ((N:Int),tks,ofm,outm,0,())))∧ARD (((N:Int),(ts,())),v,k,())=some (tks,())∧TR N ts v k tks ofm outm:=by
 obtain⟨zs,e1,e2,hF⟩:=h.both k
 have iv:In (N:Int) v:=Adv h.h1 h.hN hv
 have hD:=hF.fr.dom
 have hRF:=(L5.2 hF.fr)
 obtain⟨i,A,hp,hi,hvA,hil⟩:=M8 (hF.fr.cov v iv)
 have hA:A∈zs:=AjW hi
 have hrg:=hF.fr.rg A hA
 have hlen:A.length≤1000:=hrg.1.1
 refine⟨A,A.foldl ofF [],ts.foldl (AOa k) [],?_,?_,hrg,hvA,?_,?_,?_⟩
 ·rw[Y4,Tc]
  simp only[e1,Bd,AjT]
  rw[Ag,AjF (show ¬ v<0 by omega),Ar,AjF (show ¬ (N:Int)≤v by omega)]
  simp only[AfT _ _ _ hD,AjP (show RF (N:Int) zs∧In (N:Int) v from⟨hRF,iv⟩),hp,Ae hi,List.zip_nil_left,AlA]
  rw[AYF k (N:Int) ts (N:Int) A hlen]
  simp only[AlA,List.zip_nil_left]
  rw[AYG k (N:Int) A _ ts h.ht]
  simp only[ZO]
 ·rw[AXs,Z3]
  simp only[e2,AZH _ _ _ hD,AjP (show RF (N:Int) zs∧In (N:Int) v from⟨hRF,iv⟩),hp,Ae hi]
  rw[Ag,AjF (by omega)]
 ·intro x
  rw[AgQ]
  rfl
 ·intro x
  rw[AY7 k x ts [] fun t ht=>(h.tie ht).2.2.1]
  simp[E7,AP]
 ·intro u iu
  rw[← hF.sam v u iv iu]
  constructor
  ·exact fun hu=>⟨A,hA,hvA,hu⟩
  ·rintro⟨B,hB,hvB,huB⟩
   obtain⟨j,hj⟩:=Al1 hB
   have:=hF.fr.uniq hi hj iv.2.2.2 hvA hvB
   subst this
   rw[hi]at hj
   cases hj
   exact huB
theorem AYI{N:Nat}{ts:List Tie}(h:RG2 N ts)(v k:Int)(hv:¬ (0≤v∧v<(N:Int))):
  seen (((N:Int),(ts,())),v,k,())=some (.inl (10,()))∧ZI (((N:Int),(ts,())),v,())=some (10,()):=by
 obtain⟨zs,e1,e2,hF⟩:=h.both k
 rw[Y4,Tc,AEK,On]
 simp only[e1,h.r21,Bd,AjT,Ag,Ar]
 by_cases h1:v<0
 ·rw[AjG h1]
  exact⟨rfl,rfl⟩
 ·rw[AjF h1,AjG (show(N:Int)≤v by omega)]
  exact⟨rfl,rfl⟩
theorem AcF{n:Int}{ts:List Tie}(v k:Int)(hr:HM ((n,(ts,())),())=some (false,()))(hl:LO ((n,(ts,())),())=some (false,())):
  seen ((n,(ts,())),v,k,())=some (.inl (1,()))∧ZI ((n,(ts,())),v,())=some (1,()):=by
 have h1:ieq (1:Int) 0=false:=by rw[An];rfl
 rw[Y4,Tc,AEK,On]
 simp only[AO1 _ _ k hl,hr,h1,Aj2]
 trivial
end Go.Pev.Pl
end
section
namespace Go.Pev.Pl.SE
open Go.Sort
theorem WQ{x y:Int×Int×Unit}(_:ok x)(_:ok y):∃ c,BQ (x,y,())=some (c,())∧ilt c (0:Int)=lt x y:=by
 rw[AMh,Y3]
 simp only[Xw,or_val,Ag,lt]
 refine⟨_,rfl,?_⟩
 apply AlN.2
 by_cases h1:x.1<y.1
 ·simp[h1]
 ·by_cases h2:y.1<x.1
  ·have h3:¬ x.1=y.1:=by omega
   simp[h1,h2,h3]
  ·have h3:x.1=y.1:=by omega
   by_cases h4:x.2.1<y.2.1
   ·simp[h3,h4]
   ·by_cases h5:y.2.1<x.2.1
    ·simp[h3,h4,h5]
    ·simp[h3,h4,h5]
noncomputable def S:SG.SP (Int×Int×Unit):=⟨((0:Int),((0:Int),())),BQ,ok,okz,UJ,lt,swo,fun h1 h2=>WQ h1 h2⟩
theorem KK(xs:List (Int×Int×Unit))(h:xs.length<4294967296):∃ ys,AGV (xs,())=some (ys,())∧ys.Perm xs∧ys.Pairwise fun x y=>lt y x=false:=SG.KK S xs h fun _ _=>trivial
theorem AX4{xs zs:List (Int×Int×Unit)}(h:xs.length<4294967296)(hp:xs.Perm zs)(hz:zs.Pairwise J7):AGV (xs,())=some (zs,()):=by
 obtain⟨ys,e,h1,h2⟩:=KK xs h
 have hzs:zs.Pairwise fun x y=>lt y x=false:=hz.imp fun {a b} q=>by
  unfold lt
  unfold J7 at q
  rw[AkA]
  omega
 have:=List.Perm.eq_of_pairwise (le:=fun x y=>lt y x=false) (fun a b _ _ q1 q2=>by
  unfold lt at q1 q2
  rw[AkA]at q1 q2
  obtain⟨a1,a2,⟨⟩⟩:=a
  obtain⟨b1,b2,⟨⟩⟩:=b
  simp only at q1 q2
  have e1:a1=b1:=by omega
  have e2:a2=b2:=by omega
  rw[e1,e2]) h2 hzs (h1.trans hp)
 rw[e,this]
end Go.Pev.Pl.SE
namespace Go.Pev.Pl
def IG(N:Nat)(L:List Edge)(x:Int):Bool:=decide (x<(N:Int))&&L.any (Ek x)
def atL(L:List Edge)(toks:List Int):List Edge:=L.filter fun e=>decide (e.1∈toks)||decide (e.2.1∈toks)
theorem AjB(x:Edge):(x.1,(x.2.1,()))=x:=rfl
theorem ADC{α:Type}(P:α→Bool):∀ L:List α,decide (0<(L.filter P).length)=L.any P
 |[]=>rfl
 |x::L=>by
  rw[AkN,List.any_cons,← ADC P L]
  by_cases h:P x=true<;>simp[h]
section
variable {N:Nat} {ts:List Tie} {v k:Int} {tks:List Int} {ofm:List (Int×Int)} {outm:RM}
theorem P6(h:TR N ts v k tks ofm outm)(x:Int):Hx ((N:Int),tks,ofm,outm,x,())=some ((N:Int),tks,ofm,outm,IG N (DU ts k) x,()):=by
 rw[XF,K4]
 have hr:=h.row x
 unfold E7 at hr
 simp only[hr,AK]
 unfold IG
 rw[Ag,Ag,← ADC]
 by_cases h1:x<(N:Int)<;>simp[h1]
theorem ARV(h:TR N ts v k tks ofm outm):Hw ((N:Int),tks,ofm,outm,())=some ((N:Int),tks,ofm,outm,tks.filter (IG N (DU ts k)),()):=by
 have hl:tks.length≤1000:=h.rg.1.1
 have hp:=AaX (find:=B1) (step:=Ct) (0:Int) (fun a (w j:Nat)=>(a,(N:Int),tks,ofm,outm,(w:Int),(j:Int),())) (fun a (w:Nat)=>.inl (a,(N:Int),tks,ofm,outm,(w:Int),())) (fun i=>(tks,(N:Int),tks,ofm,outm,(tks.length:Int),(i:Int),())) (fun i=>.inl (tks,(N:Int),tks,ofm,outm,(i:Int),())) (.inr (.inl (tks,(N:Int),tks,ofm,outm,()))) (IG N (DU ts k)) tks (by omega)
  (fun a w j ha hj hw hg=>by
   unfold Ct
   dsimp only
   simp (disch:=omega) only[AK,AL,ha,hj,AjV,Bs (0:Int),GG,Nj,hg,AM,P6 h]
   cases IG N (DU ts k) (tks.getD j 0)<;>rfl)
  (fun a w ha=>by unfold Ct;dsimp only;rw[AK,AL,AjF (by omega)])
  (fun i hi=>by
   unfold B1
   dsimp only
   simp (disch:=omega) only[AL,hi,AjV,Bs (0:Int),GG,AM,P6 h]
   cases IG N (DU ts k) (tks.getD i 0)<;>rfl)
  (by unfold B1;dsimp only;rw[AL,AjF (by omega)])
 rw[XE,K0]
 simp only[Lz (show tks.length≤4294967296 by omega)]
 rw[Nm,Gj,NU,Ge]
 generalize IG N (DU ts k)=keep at *
 rcases hp with⟨h0,e⟩|⟨i,a',hk,e,e2,hl,hle,e4⟩
 ·have e':AS B1 many (tks,(N:Int),tks,ofm,outm,AG tks,(0:Int),())=_:=e
  simp only[e',An]
  rw[h0]
  show some ((N:Int),tks,ofm,outm,Bp (AN (AG tks)) tks,())=_
  rw[Bp,AK,GF,Akv]
 ·have e':AS B1 many (tks,(N:Int),tks,ofm,outm,AG tks,(0:Int),())=_:=e
  obtain⟨c1,c2⟩:=AU7 (0:Int) (a:=a') (w:=(tks.filter keep).length) (by omega)
  have s0:Ce (Bm (tks.filter keep).length (a'.length-(tks.filter keep).length) (0:Int) a') (0:Int) (((tks.filter keep).length:Nat):Int)=some _:=Ky (by omega)
  have s1:Ce a' (((tks.filter keep).length:Nat):Int) (a'.length:Int)=some _:=Gq (by omega)
  simp only[e',An]
  rw[AjF (by omega),AM (by omega)]
  simp only[e2,s1,AK,Aj3,GF,s0]
  rw[Ajb,c2,AkT (by omega),Bp,c1.trans e4]
end
abbrev MS:=List (Edge×Int)×List Edge
def KT(m:List (Edge×Int))(x:Edge):Int:=(AP m x).getD 0
def O5(a:MS)(x:Edge):MS:=(Af a.1 x (KT a.1 x+1),if x∈a.2 then a.2 else a.2++[x])
structure MI2(s:Nat)(a:MS):Prop where
 len:a.2.length≤s
 bnd:∀ x,0≤KT a.1 x∧KT a.1 x≤(s:Int)
 zero:∀ x,KT a.1 x=0↔x∉a.2
 nd:a.2.Nodup
theorem MI2.step{s:Nat}{a:MS}(h:MI2 s a)(x:Edge):MI2 (s+1) (O5 a x):=by
 have hg:∀ y,KT (O5 a x).1 y=if y=x then KT a.1 x+1 else KT a.1 y:=by
  intro y
  unfold O5 KT
  simp only
  rw[ACR]
  split<;>rfl
 refine⟨?_,fun y => ?_,fun y => ?_,?_⟩
 ·have:=h.len
  unfold O5
  simp only
  split<;>simp<;>omega
 ·rw[hg]
  have:=h.bnd x
  have:=h.bnd y
  split<;>omega
 ·rw[hg]
  unfold O5
  simp only
  have b:=h.bnd x
  by_cases hy:y=x
  ·subst hy
   rw[AjP rfl]
   by_cases hm:y∈a.2
   ·rw[AjP hm]
    constructor
    ·intro q;omega
    ·intro q;exact absurd hm q
   ·rw[AjQ hm]
    constructor
    ·intro q;omega
    ·intro q;exact absurd (by simp) q
  ·rw[AjQ hy,h.zero]
   split
   ·exact Iff.rfl
   ·simp[hy]
 ·unfold O5
  simp only
  split
  ·exact h.nd
  ·rename_i hm
   rw[AlH]
   refine⟨h.nd,by simp,fun p hp q hq => ?_⟩
   rw[Ajk]at hq
   rintro rfl
   exact hm (hq▸hp)
theorem AdY(a:MS)(x y:Edge):y∈(O5 a x).2↔y=x∨y∈a.2:=by
 unfold O5
 simp only
 split
 ·rename_i h
  constructor
  ·exact .inr
  ·rintro (rfl|q)
   ·exact h
   ·exact q
 ·simp[or_comm]
theorem AeO:∀ (xs:List Edge) (a:MS) (y:Edge),y∈(xs.foldl O5 a).2↔y∈xs∨y∈a.2:=by
 intro xs
 induction xs with
 |nil=>intro a y;simp
 |cons x xs ih=>
  intro a y
  rw[Ajt,ih,AdY,AjN]
  constructor
  ·rintro (q|q|q)
   ·exact .inl (.inr q)
   ·exact .inl (.inl q)
   ·exact .inr q
  ·rintro ((q|q)|q)
   ·exact .inr (.inl q)
   ·exact .inl q
   ·exact .inr (.inr q)
theorem APd:∀ (xs:List Edge) (a:MS) (s:Nat),MI2 s a→MI2 (s+xs.length) (xs.foldl O5 a):=by
 intro xs
 induction xs with
 |nil=>intro a s h;exact h
 |cons x xs ih=>
  intro a s h
  have:=ih _ _ (h.step x)
  rw[Ajt,AjR,show s+(xs.length+1)=s+1+xs.length by omega]
  exact this
theorem AiY(n:Int)(tks:List Int)(ofm:List (Int×Int))(outm:RM)(toks:List Int)(d e:Int)(row:List Edge)(hr:row.length≤400)(a:MS)(s:Nat)(ha:MI2 s a)(hs:s≤1000000):
  AS Iy many (n,tks,ofm,outm,a.1,a.2,toks,d,e,row,AG row,(0:Int),())=some (.inl (n,tks,ofm,outm,(row.foldl O5 a).1,(row.foldl O5 a).2,toks,d,e,())):=by
 have q:=Bn (step:=Iy) (fun i (a:MS)=>(n,tks,ofm,outm,a.1,a.2,toks,d,e,row,AG row,(i:Int),())) row (fun x a=>.inl (O5 a x)) (fun a=>.inl (n,tks,ofm,outm,a.1,a.2,toks,d,e,())) (fun i a=>MI2 (s+i) a) (by omega)
  (fun i x a hi hx ha=>by
   refine⟨fun m' h' => ?_,fun r h'=>(by cases h')⟩
   cases h'
   refine⟨?_,ha.step x⟩
   have b:=ha.bnd x
   have bl:=ha.len
   have hz:=ha.zero x
   have hw:IntKind.wrap .i64 (KT a.1 x+1)=KT a.1 x+1:=Ai (by omega)
   obtain⟨m1,m2⟩:=ATb a.1 x (KT a.1 x) (KT a.1 x+1)
   have hl:AP (Af a.1 x (KT a.1 x+1)) x=some (KT a.1 x+1):=by rw[ACR,AjP rfl]
   rw[Iy,AK,AL,AjG hi]
   unfold KT at *
   simp only[Ae hx,AjB,m1,hw,m2,hl,Ajn,An]
   rw[AM (by omega)]
   unfold O5 KT
   by_cases hm:x∈a.2
   ·rw[AjF (by intro q;exact(hz.1 (by omega)) hm),AjP hm]
   ·rw[AjG (by have:=hz.2 hm;omega),AjQ hm,BK (by simp only[AK,Aj8];omega)]
    rfl)
  (fun a _=>by rw[Iy,AK,AL,AjF (by omega)]) a ha
 have q':AS Iy many (n,tks,ofm,outm,a.1,a.2,toks,d,e,row,AG row,(0:Int),())=_:=q
 rw[q',A0 (fun(x:Edge) (a:MS)=>O5 a x)]
def AML(outm:RM)(a:MS)(x:Int):MS:=(E7 outm x).foldl O5 a
theorem AfS(outm:RM):∀ (toks:List Int) (a:MS) (y:Edge),y∈(toks.foldl (AML outm) a).2↔(∃ x∈toks,y∈E7 outm x)∨y∈a.2:=by
 intro toks
 induction toks with
 |nil=>intro a y;simp
 |cons x xs ih=>
  intro a y
  rw[Ajt,ih,AML,AeO]
  simp only[AjN,exists_eq_or_imp,or_assoc]
  constructor
  ·rintro (q|q|q)
   ·exact .inr (.inl q)
   ·exact .inl q
   ·exact .inr (.inr q)
  ·rintro (q|q|q)
   ·exact .inr (.inl q)
   ·exact .inl q
   ·exact .inr (.inr q)
theorem Ahk(outm:RM):∀ (toks:List Int) (a:MS) (s:Nat),MI2 s a→(toks.foldl (AML outm) a).2.Nodup:=by
 intro toks
 induction toks with
 |nil=>intro a s h;exact h.nd
 |cons x xs ih=>intro a s h;rw[Ajt];exact ih _ _ (APd _ _ _ h)
theorem MI2.mono{s s':Nat}{a:MS}(h:MI2 s a)(hs:s≤s'):MI2 s' a:=⟨by have:=h.len;omega,fun x=>by have:=h.bnd x;omega,h.zero,h.nd⟩
theorem AG4{N:Nat}{ts:List Tie}(h:RG2 N ts)(k:Int):(DU ts k).Pairwise J7:=by
 unfold DU
 rw[Akq]
 have:=h.edP
 rw[Akq]at this
 exact this.filter _
theorem AB9{N:Nat}{ts:List Tie}(h:RG2 N ts)(k:Int):(DU ts k).length≤400:=by
 unfold DU
 rw[Aj6]
 have:=Akm (AFV k) ts
 have:=h.ht
 omega
theorem Aa4{L:List Edge}(h:L.Pairwise J7):L.Nodup:=h.imp fun {a b} q=>by
 rintro rfl
 unfold J7 at q
 omega
theorem AiX{N:Nat}{ts:List Tie}{v k:Int}{tks:List Int}{ofm:List (Int×Int)}{outm:RM}(hg:RG2 N ts)(h:TR N ts v k tks ofm outm)(toks:List Int)(hl:toks.length≤1000):
  ARq ((N:Int),tks,ofm,outm,toks,())=some ((N:Int),tks,ofm,outm,atL (DU ts k) toks,()):=by
 have hrow:∀ x,(E7 outm x).length≤400:=fun x=>by
  rw[h.row]
  have:=Akm (Ek x) (DU ts k)
  have:=AB9 hg k
  omega
 have q:=Bn (step:=K5) (fun i (a:MS)=>((N:Int),tks,ofm,outm,a.1,a.2,toks,AG toks,(i:Int),())) toks (fun x a=>.inl (AML outm a x)) (fun a=>.inl ((N:Int),tks,ofm,outm,a.2,())) (fun i a=>MI2 (400*i) a) (by omega)
  (fun i x a hi hx ha=>by
   refine⟨fun m' h' => ?_,fun r h'=>(by cases h')⟩
   cases h'
   constructor
   ·rw[K5,AK,AL,AjG hi]
    simp only[Ae hx]
    have:=AiY (N:Int) tks ofm outm toks (toks.length:Int) (i:Int) (E7 outm x) (hrow x) a (400*i) ha (by omega)
    unfold E7 at this
    simp only[this]
    rw[AM (by omega)]
    rfl
   ·exact(APd (E7 outm x) a _ ha).mono (by have:=hrow x;omega))
  (fun a _=>by rw[K5,AK,AL,AjF (by omega)]) ([],[]) ⟨by simp,fun x=>by simp[KT,AP],fun x=>by simp[KT,AP],by simp⟩
 have hp:((toks.foldl (AML outm) ([],[])).2).Perm (atL (DU ts k) toks):=by
  refine(List.perm_ext_iff_of_nodup (Ahk outm toks ([],[]) 0 ⟨by simp,fun x=>by simp[KT,AP],fun x=>by simp[KT,AP],by simp⟩) (Aa4 ((AG4 hg k).filter _))).2 fun y => ?_
  rw[AfS,AkE]
  simp only[h.row,AkE,Ek,Aku,AkW,AlC,Alo]
  constructor
  ·rintro⟨x,hx,q1,q2|q2⟩
   ·exact⟨q1,.inl (q2▸hx)⟩
   ·exact⟨q1,.inr (q2▸hx)⟩
  ·rintro⟨q1,q2|q2⟩
   ·exact⟨_,q2,q1,.inl rfl⟩
   ·exact⟨_,q2,q1,.inr rfl⟩
 rw[AWA,AI0]
 have q':AS K5 many ((N:Int),tks,ofm,outm,([]:List (Edge×Int)),([]:List Edge),toks,AG toks,(0:Int),())=_:=q
 simp only[q']
 rw[A0 (fun(x:Int) (a:MS)=>AML outm a x)]
 have hlen:=hp.length_eq
 have h2:=Akm (fun e:Edge=>decide (e.1∈toks)||decide (e.2.1∈toks)) (DU ts k)
 have h3:=AB9 hg k
 have:=SE.AX4 (xs:=(toks.foldl (fun a x=>AML outm a x) ([],[])).2) (by
  have:(toks.foldl (fun a x=>AML outm a x) ([],[])).2.length=(atL (DU ts k) toks).length:=hlen
  unfold atL at this
  omega) hp ((AG4 hg k).filter _)
 simp only[this]
end Go.Pev.Pl
end
section
namespace Go.Pev.Pl
theorem Aay(toks:List Int)(k:Int):∀ (ts:List Tie) (a:List Edge),ts.foldl (fun a t=>if AFV k t&&(decide (t.1∈toks)||decide (t.2.1∈toks))then a++[ed t]else a) a=a++atL (DU ts k) toks:=by
 intro ts
 induction ts with
 |nil=>intro a;simp[DU,atL]
 |cons t ts ih=>
  intro a
  rw[Ajt,ih]
  unfold DU
  rw[AkN]
  by_cases h:AFV k t=true
  ·rw[AjP h,Ajr]
   unfold atL
   rw[AkN,h]
   simp only[Ale]
   show _=a++if(decide (t.1∈toks)||decide (t.2.1∈toks))=true then _ else _
   by_cases h2:(decide (t.1∈toks)||decide (t.2.1∈toks))=true
   ·rw[AjP h2,AjP h2];simp
   ·rw[AjQ h2,AjQ h2]
  ·rw[AjQ h]
   simp[h]
end Go.Pev.Pl
end
section
namespace Go.Pev.Pl
section
variable {N:Nat} {ts:List Tie} {v k:Int} {tks:List Int} {ofm:List (Int×Int)} {outm:RM}
def stL(N:Nat)(ts:List Tie)(k:Int)(tks:List Int):List Int:=tks.filter (IG N (DU ts k))
theorem AfZ(h:TR N ts v k tks ofm outm):(stL N ts k tks).length≤1000:=by
 have h1:tks.length≤1000:=h.rg.1.1
 have:=Akm (IG N (DU ts k)) tks
 unfold stL
 omega
theorem AhH(hg:RG2 N ts)(toks:List Int):(atL (DU ts k) toks).length≤400:=by
 have:=AB9 hg k
 have:=Akm (fun e:Edge=>decide (e.1∈toks)||decide (e.2.1∈toks)) (DU ts k)
 unfold atL
 omega
theorem ARX(hg:RG2 N ts)(h:TR N ts v k tks ofm outm)(hs:seen (((N:Int),(ts,())),v,k,())=some (.inr (.inl ((N:Int),tks,ofm,outm,0,()))))(m:Int):
  TX (((N:Int),(ts,())),v,k,m,())=some (atL (DU ts k) ((stL N ts k tks).take m.toNat),0,()):=by
 have hl:=AfZ h
 rw[AGU,Q8]
 simp only[hs,Bd,AjT,ARV h]
 obtain⟨q,hq,hq2,hq3⟩:∃ q:Nat,imax (0:Int) (Ci m (AG (stL N ts k tks)))=(q:Int)∧q≤(stL N ts k tks).length∧(stL N ts k tks).take q=(stL N ts k tks).take m.toNat:=by
  refine⟨min m.toNat (stL N ts k tks).length,?_,Nat.min_le_right _ _,?_⟩
  ·unfold imax Ci
   rw[AK]
   split<;>split<;>omega
  ·rw[List.take_eq_take_min (i:=m.toNat)]
 unfold stL at hq hq2 hq3 hl
 rw[AK]at hq
 simp only[hq,Ky hq2,AK,GF,DK,AlD,Ajb,hq3]
 have ha:=AiX hg h ((stL N ts k tks).take m.toNat) (by rw[Ajb];unfold stL;omega)
 unfold stL at ha
 simp only[← List.take_eq_take_min,ha]
 rfl
end
end Go.Pev.Pl
end
section
namespace Go.Pev.Pl
theorem ALY:JS ()=some (true,()):=by
 rw[show JS () = @JS idI ()from Akf (fun i=>@JS i ()) ACS]
 kernel_rfl
theorem APV(n:Int)(ts:List Tie):OZ ((n,(ts,())),())=some (true,())∨(OZ ((n,(ts,())),())=some (false,())∧ts.length≤30∧n≤12):=by
 rw[ACw,OY]
 simp only[AK,Ag]
 by_cases h1:(30:Int)<ts.length
 ·rw[AjG h1];exact .inl rfl
 ·rw[AjF h1]
  by_cases h2:(12:Int)<n
  ·rw[AjG h2];exact .inl rfl
  ·rw[AjF h2];exact .inr ⟨rfl,by omega,by omega⟩
theorem Ab2(n:Int)(ts:List Tie)(hl:ts.length≤400)(v k:Int):
  (∃ e:Int,(e=1∨(e=10∧∃ N:Nat,n=(N:Int)∧RG2 N ts∧¬ (0≤v∧v<(N:Int))))∧seen ((n,(ts,())),v,k,())=some (.inl (e,()))∧ZI ((n,(ts,())),v,())=some (e,())) ∨
  ∃ (N:Nat) (tks:List Int) (ofm:List (Int×Int)) (outm:RM),n=(N:Int)∧RG2 N ts∧(0≤v∧v<(N:Int))∧seen ((n,(ts,())),v,k,())=some (.inr (.inl ((N:Int),tks,ofm,outm,0,())))∧ARD ((n,(ts,())),v,k,())=some (tks,())∧TR N ts v k tks ofm outm:=by
 rcases AYd n ts (by omega)with⟨r1,r⟩|⟨N,rfl,h⟩
 ·obtain⟨q1,q2⟩:=AcF v k r1 r
  exact .inl ⟨1,.inl rfl,q1,q2⟩
 ·by_cases hv:0≤v∧v<(N:Int)
  ·obtain⟨tks,ofm,outm,h1,h2,h3⟩:=AcC h v k hv
   exact .inr ⟨N,tks,ofm,outm,rfl,h,hv,h1,h2,h3⟩
  ·obtain⟨q1,q2⟩:=AYI h v k hv
   exact .inl ⟨10,.inr ⟨rfl,N,rfl,h,hv⟩,q1,q2⟩
theorem AeX{e:Int}(h:e=1∨e=10):ieq e 0=false:=by
 rw[An,AjF]
 omega
section
variable {n:Int} {ts:List Tie} {v k e:Int}
end
abbrev GT:=(Int×(List (Int×Int×Int×Bool×Unit))×Unit)
section
variable {N:Nat} {ts:List Tie} {v k:Int} {tks:List Int} {ofm:List (Int×Int)} {outm:RM}
end
end Go.Pev.Pl
end
section
namespace Go.Pev.Pl
theorem AWo:∀ x:Nat,0<x→∃ k m,x=2 ^ k*(2*m+1):=by
 intro x
 induction x using Nat.strongRecOn with
 |_ x ih=>
  intro hx
  by_cases h:x % 2=1
  ·exact⟨0,x/2,by rw[Nat.pow_zero];omega⟩
  ·obtain⟨k,m,e⟩:=ih (x/2) (by omega) (by omega)
   refine⟨k+1,m,?_⟩
   rw[Nat.pow_succ,Nat.mul_comm (2 ^ k) 2,Nat.mul_assoc,← e]
   omega
theorem Rm(k m j:Nat):(2 ^ k*(2*m+1)).testBit j=if j<k then false else if j=k then true else m.testBit (j-k-1):=by
 have:=Nat.testBit_two_pow_mul_add (2*m+1) (Nat.two_pow_pos k) j
 rw[Akc]at this
 rw[this]
 by_cases h1:j<k
 ·rw[AjP h1,AjP h1,Nat.zero_testBit]
 ·rw[AjQ h1,AjQ h1]
  by_cases h2:j=k
  ·subst h2
   rw[AjP rfl,Ak4,Nat.testBit_zero]
   simp
  ·rw[AjQ h2]
   obtain⟨d,hd⟩:∃ d,j-k=d+1:=⟨j-k-1,by omega⟩
   rw[hd,Nat.testBit_succ,show(2*m+1)/2=m by omega]
   rfl
theorem AZh(k m j:Nat):(2 ^ k*(2*m+1)-1).testBit j=if j<k then true else if j=k then false else m.testBit (j-k-1):=by
 have hp:=Nat.two_pow_pos k
 have e:2 ^ k*(2*m+1)-1=2 ^ k*(2*m)+(2 ^ k-1):=by rw[Nat.mul_add,AlY];omega
 rw[e,Nat.testBit_two_pow_mul_add (2*m) (by omega) j]
 by_cases h1:j<k
 ·rw[AjP h1,AjP h1,Nat.testBit_two_pow_sub_one]
  simpa using h1
 ·rw[AjQ h1,AjQ h1]
  by_cases h2:j=k
  ·subst h2
   rw[AjP rfl,Ak4,Nat.testBit_zero]
   simp
  ·rw[AjQ h2]
   obtain⟨d,hd⟩:∃ d,j-k=d+1:=⟨j-k-1,by omega⟩
   rw[hd,Nat.testBit_succ,show(2*m)/2=m by omega]
   rfl
theorem Agc{k m:Nat}(h:2 ^ k*(2*m+1)<2 ^ 32):2 ^ k*(2*m+1) &&& (2 ^ 32-2 ^ k*(2*m+1))=2 ^ k:=by
 have hp:=Nat.two_pow_pos k
 have hpos:0<2 ^ k*(2*m+1):=Nat.mul_pos hp (by omega)
 have hk:k<32:=by
  have:2 ^ k*1≤2 ^ k*(2*m+1):=Nat.mul_le_mul_left _ (by omega)
  exact(Nat.pow_lt_pow_iff_right (a:=2) (by omega)).1 (by omega)
 apply Nat.eq_of_testBit_eq
 intro j
 have e:2 ^ 32-2 ^ k*(2*m+1)=2 ^ 32-((2 ^ k*(2*m+1)-1)+1):=by omega
 rw[Nat.testBit_and,e,Nat.testBit_two_pow_sub_succ (by omega),Rm,AZh,Nat.testBit_two_pow]
 by_cases h1:j<k
 ·rw[AjP h1];simp;omega
 ·rw[AjQ h1,AjQ h1]
  by_cases h2:j=k
  ·subst h2
   simp[hk]
  ·rw[AjQ h2,AjQ h2]
   rw[AjF (show ¬ k=j by omega)]
   cases m.testBit (j-k-1)<;>simp
def hgt(x:Nat):Nat:=(((List.range 7).find? fun j=>x.testBit j).map (· + 1)).getD 8
theorem AW4(k m:Nat):hgt (2 ^ k*(2*m+1))=min (k+1) 8:=by
 unfold hgt
 by_cases h:k<7
 ·have:(List.range 7).find? (fun j=>(2 ^ k*(2*m+1)).testBit j)=some k:=by
   rw[AmH]
   refine⟨by rw[Rm,AjQ (by omega),AjP rfl],by rw[AkB];exact h,fun j hj => ?_⟩
   rw[Rm,AjP hj]
   rfl
  rw[this]
  simp only[Ak2,Ajn]
  omega
 ·have:(List.range 7).find? (fun j=>(2 ^ k*(2*m+1)).testBit j)=none:=by
   rw[List.find?_eq_none]
   intro j hj
   rw[AkB]at hj
   rw[Rm,AjP (by omega)]
   simp
  rw[this]
  simp only[Option.map_none,AmV]
  omega
theorem ACv:hgt 0=8:=by decide
theorem AW3(x:Nat):1≤hgt x∧hgt x≤8:=by
 rcases Akb x with rfl|h
 ·rw[ACv];omega
 ·obtain⟨k,m,rfl⟩:=AWo x h
  rw[AW4];omega
theorem Ahn:((List.range 32).all fun k=>decide (APZ[(2 ^ k*125613361) % 4294967296/134217728]? = some ((k:Nat):Int)∧(2 ^ k*125613361) % 4294967296/134217728<32))=true:=by decide +kernel
theorem Aa9(x:Nat)(hx:x<4294967296):AQq ((x:Int),())=some (if x=0 then 32 else((hgt x-1:Nat):Int),())∨∃ k:Nat,AQq ((x:Int),())=some ((k:Int),())∧k≤32∧min (k+1) 8=hgt x:=by
 right
 rw[AVu,AIC,An]
 by_cases h0:x=0
 ·subst h0
  rw[AjG (show((0:Nat):Int)=0 from rfl),ACv]
  exact⟨32,rfl,by omega,by omega⟩
 ·rw[AjF (by omega)]
  obtain⟨k,m,rfl⟩:=AWo x (by omega)
  have hp:=Nat.two_pow_pos k
  have hk:k<32:=by
   have:2 ^ k*1≤2 ^ k*(2*m+1):=Nat.mul_le_mul_left _ (by omega)
   exact(Nat.pow_lt_pow_iff_right (a:=2) (by omega)).1 (by omega)
  have ha:=Agc (k:=k) (m:=m) (by omega)
  rw[AW4]
  generalize 2 ^ k*(2*m+1)=x at *
  have e1:IntKind.wrap .u32 (0-(x:Int))=((4294967296-x:Nat):Int):=by
   rw[IntKind.wrap_u32];omega
  have e2:(BitVec.ofInt (IntKind.bits .u32) (x:Int) &&& BitVec.ofInt (IntKind.bits .u32) ((4294967296-x:Nat):Int)).toNat=2 ^ k:=by
   show(BitVec.ofInt 32 (x:Int) &&& BitVec.ofInt 32 ((4294967296-x:Nat):Int)).toNat=2 ^ k
   rw[BitVec.toNat_and,BitVec.toNat_ofInt,BitVec.toNat_ofInt]
   have q1:((x:Int) % ((2 ^ 32:Nat):Int)).toNat=x:=by omega
   have q2:(((4294967296-x:Nat):Int) % ((2 ^ 32:Nat):Int)).toNat=4294967296-x:=by omega
   rw[q1,q2]
   exact ha
  have hk32:2 ^ k≤2 ^ 31:=Nat.pow_le_pow_right (by omega) (by omega)
  rw[e1,e2,IntWalk.u32_in ((2 ^ k:Nat):Int) ⟨by omega,by omega⟩]
  have e3:IntKind.wrap .u32 (((2 ^ k:Nat):Int)*125613361)=((2 ^ k*125613361 % 4294967296:Nat):Int):=by
   rw[IntKind.wrap_u32];omega
  have e4:shr? .u32 ((2 ^ k*125613361 % 4294967296:Nat):Int) (27:Int)=some ((2 ^ k*125613361 % 4294967296/134217728:Nat):Int):=by
   rw[AJA,AAK,AjQ (by omega),show min (27:Int).toNat (IntKind.bits .u32)=27 from rfl,Int.fdiv_eq_ediv_of_nonneg _ (by decide)]
   rfl
  rw[e3]
  simp only[e4]
  have ht:=Ajd.1 Ahn k (by rw[AkB];exact hk)
  rw[Aku]at ht
  obtain⟨t1,t2⟩:=ht
  generalize 2 ^ k*125613361 % 4294967296/134217728=q at *
  simp only[Ar,Ag]
  have hl:AG APZ=32:=rfl
  rw[hl,AjG (show(0:Int)≤(q:Int) by omega),AjG (show(q:Int)<32 by omega)]
  simp only[AkP,Kg t1]
  rw[Ai (by omega)]
  exact⟨k,rfl,by omega,rfl⟩
theorem AQE(x:Nat)(hx:x<4294967296):SX ((x:Int),())=some ((hgt x:Int),()):=by
 rw[ADo,Oh]
 obtain⟨k,e,h1,h2⟩:∃ k:Nat,AQq ((x:Int),())=some ((k:Int),())∧k≤32∧min (k+1) 8=hgt x:=by
  rcases Aa9 x hx with e|h
  ·by_cases h0:x=0
   ·rw[AjP h0]at e
    subst h0
    exact⟨32,e,by omega,by rw[ACv];omega⟩
   ·rw[AjQ h0]at e
    have:=AW3 x
    exact⟨hgt x-1,e,by omega,by omega⟩
  ·exact h
 simp only[e]
 rw[AM (by omega),Agu,← h2]
 congr 2
 omega
end Go.Pev.Pl
end
section
namespace Go.Pev.Pl
theorem AE9{σ ρ:Type}{step:σ→Option (σ⊕ρ)}(st:Nat→σ)(N:Nat)(r:ρ)(hN:N<9223372036854775808)(h:∀ i,i<N→step (st i)=some (.inl (st (i+1))))(hr:step (st N)=some (.inr r)):AS step many (st 0)=some r:=by
 have key:∀ (m i n:Nat),i+m=N→m<n→AX step n (st i)=some r:=by
  intro m
  induction m with
  |zero=>
   intro i n hi hn
   obtain⟨n,rfl⟩:∃ k,n=k+1:=⟨n-1,by omega⟩
   have:i=N:=by omega
   subst this
   rw[AX,hr]
  |succ m ih=>
   intro i n hi hn
   obtain⟨n,rfl⟩:∃ k,n=k+1:=⟨n-1,by omega⟩
   rw[AX,h i (by omega)]
   exact ih (i+1) n (by omega) (by omega)
 rw[Au]
 exact key N 0 many (by omega) (by simp only[many];omega)
theorem foldI{α:Type}(f:Nat→α→α)(I:Nat→α→Prop):∀ (m:Nat) (a:α),(∀ k a,k<m→I k a→I (k+1) (f k a))→I 0 a→I m ((List.range m).foldl (fun a k=>f k a) a):=by
 intro m
 induction m with
 |zero=>intro a _ h;exact h
 |succ m ih=>
  intro a hs h0
  rw[Ake,List.foldl_append]
  exact hs m _ (by omega) (ih a (fun k a hk=>hs k a (by omega)) h0)
theorem H4{m i x:Nat}(h:(List.range m)[i]? = some x):x=i∧i<m:=by
 obtain⟨h1,h2⟩:=AkO.1 h
 rw[AjY]at h1
 rw[List.getElem_range]at h2
 exact⟨h2.symm,h1⟩
theorem AK2{α:Type}(n:Nat)(x:α):EA n x=List.replicate n x:=rfl
noncomputable def htF(script:List Int)(t:Int):Int:=if t<0 then 1 else match WN (script,t,())with
 |some (x,_)=>(hgt x.toNat:Int)
 |none=>1
def U32(l:List Int):Prop:=∀ x∈l,0≤x∧x≤4294967295
theorem AP5{s:List Int}(hs:U32 s){t:Int}(ht:0≤t):∃ x:Nat,WN (s,t,())=some ((x:Int),())∧x<4294967296:=by
 obtain⟨t,rfl⟩:=AjU ht
 rw[AHa,SW,Ag,AjF (by omega),AK,An]
 by_cases h0:s.length=0
 ·rw[AjG (by omega)]
  exact⟨0,rfl,by omega⟩
 ·rw[AjF (by omega)]
  simp only[EH (show 0<s.length by omega)]
  have hm:t % s.length<s.length:=Ak6 _ (by omega)
  have hx:s[t % s.length]? = some s[t % s.length]:=AjM hm
  have hb:=hs _ (AkY hm)
  simp only[Ae hx]
  generalize s[t % s.length]=x at *
  obtain⟨x,rfl⟩:=AjU hb.1
  exact⟨x,rfl,by omega⟩
theorem Agv{s:List Int}(hs:U32 s)(t:Int):1≤htF s t∧htF s t≤8:=by
 unfold htF
 by_cases h:t<0
 ·rw[AjP h];omega
 ·rw[AjQ h]
  obtain⟨x,e,_⟩:=AP5 hs (show 0≤t by omega)
  simp only[e]
  have:=AW3 (x:Int).toNat
  omega
theorem AdZ(f:Int→Int):∀ (xs a:List Int),xs.foldl (fun a x=>a++[f x]) a=a++xs.map f:=by
 intro xs
 induction xs with
 |nil=>intro a;simp
 |cons x xs ih=>intro a;rw[Ajt,ih];simp
theorem AEz{s:List Int}(hs:U32 s)(toks:List Int)(hl:toks.length≤1000):KE (toks,s,())=some (toks.map (htF s),()):=by
 have e:=Bn (step:=Cy) (fun i (a:List Int)=>(s,a,toks,AG toks,(i:Int),())) toks (fun x a=>.inl (a++[htF s x])) (fun a=>.inl (a,())) (fun i a=>a.length≤i) (by omega)
  (fun i x a hi hx ha=>by
   refine⟨fun m' h' => ?_,fun r h'=>(by cases h')⟩
   cases h'
   constructor
   ·rw[Cy,AK,AL,AjG hi]
    simp only[Ae hx,AK]
    rw[AM (by omega),Ag]
    unfold htF
    by_cases h:x<0
    ·rw[AjG h,AjP h]
     simp only
     rw[BK (by simp only[Aj8];omega)]
     rfl
    ·rw[AjF h,AjQ h]
     obtain⟨y,ey,hy⟩:=AP5 hs (show 0≤x by omega)
     simp only[ey,AQE y hy,AkG]
     rw[BK (by simp only[Aj8];omega)]
     rfl
   ·simp;omega)
  (fun a _=>by rw[Cy,AK,AL,AjF (by omega)]) [] (AjO _)
 rw[Q2,Iw]
 have e':AS Cy many (s,([]:List Int),toks,AG toks,(0:Int),())=_:=e
 simp only[e']
 rw[A0 (fun(x:Int) (a:List Int)=>a++[htF s x]),AdZ]
 rfl
structure HO(H:List Int)(n:Nat):Prop where
 len:H.length=n
 pos:0<n
 top:n≤1000
 rng:∀ h∈H,1≤h∧h≤8
theorem HO.at{H:List Int}{n:Nat}(h:HO H n){i:Nat}(hi:i<n):1≤H.getD i 0∧H.getD i 0≤8∧idx H (i:Int)=some (H.getD i 0):=by
 have hl:=h.len
 refine⟨?_,?_,Bs 0 (by omega)⟩ <;>
 ·have hm:H.getD i 0∈H:=by
   rw[AjI,AjM (by omega)]
   exact AkY _
  have:=h.rng _ hm
  omega
def kst(H:List Int)(n i h:Nat):Nat:=(((List.range n).find? fun k=>decide ((h:Int)<H.getD ((i+(k+1)) % n) 0)).map (· + 1)).getD 1
def nxL(H:List Int)(n i:Nat):List Int:=(List.range (H.getD i 0).toNat).map fun h=>(((i+kst H n i h) % n:Nat):Int)
def NX(H:List Int)(n:Nat):List (List Int):=(List.range n).map (nxL H n)
theorem NP{H:List Int}{n i h:Nat}(hn:0<n)(hi:i<n)(hh:(h:Int)<H.getD i 0):
  1≤kst H n i h∧kst H n i h≤n∧(h:Int)<H.getD ((i+kst H n i h) % n) 0∧∀ k,1≤k→k<kst H n i h→H.getD ((i+k) % n) 0≤(h:Int):=by
 unfold kst
 cases hf:(List.range n).find? (fun k=>decide ((h:Int)<H.getD ((i+(k+1)) % n) 0))with
 |none=>
  exfalso
  rw[List.find?_eq_none]at hf
  have:=hf (n-1) (by rw[AkB];omega)
  rw[show i+(n-1+1)=i+n by omega,Nat.add_mod_right,AkM hi]at this
  exact this (AjG hh)
 |some k=>
  rw[AmH]at hf
  obtain⟨h1,h2,h3⟩:=hf
  rw[AkB]at h2
  rw[Aku]at h1
  simp only[Ak2,Ajn]
  refine⟨by omega,by omega,h1,fun j j1 j2 => ?_⟩
  have:=h3 (j-1) (by omega)
  rw[show i+(j-1+1)=i+j by omega]at this
  simpa using this
theorem Aeu{H:List Int}{n:Nat}(ho:HO H n)(d2 d3:List Int)(d4:List (List Int))(d6:List Int){i h:Nat}(hi:i<n)(hh:(h:Int)<H.getD i 0):
  AS Ee many (H,(n:Int),d2,d3,d4,(i:Int),d6,(h:Int),(1:Int),())=some (.inl (H,(n:Int),d2,d3,d4,(i:Int),d6,(h:Int),(kst H n i h:Int),())):=by
 obtain⟨k1,k2,k3,k4⟩:=NP ho.pos hi hh
 have ht:=ho.top
 have hp:=ho.pos
 have:=AE9 (step:=Ee) (fun k=>(H,(n:Int),d2,d3,d4,(i:Int),d6,(h:Int),((k+1:Nat):Int),())) (kst H n i h-1) (.inl (H,(n:Int),d2,d3,d4,(i:Int),d6,(h:Int),(kst H n i h:Int),())) (by omega)
  (fun k hk=>by
   unfold Ee
   dsimp only
   rw[wrap_add (by omega),EH hp]
   simp only[(ho.at (Ak6 (i+(k+1)) hp)).2.2]
   rw[Ar,AjG (k4 (k+1) (by omega) (by omega)),AM (by omega)])
  (by
   rw[show kst H n i h-1+1=kst H n i h by omega]
   unfold Ee
   dsimp only
   rw[wrap_add (by omega),EH hp]
   simp only[(ho.at (Ak6 (i+kst H n i h) hp)).2.2]
   rw[Ar,AjF (by omega)])
 exact this
theorem Aev{H:List Int}{n:Nat}(ho:HO H n)(d2 d3:List Int)(d4:List (List Int)){i:Nat}(hi:i<n):
  AS Dj many (H,(n:Int),d2,d3,d4,(i:Int),([]:List Int),(0:Int),())=some (.inl (H,(n:Int),d2,d3,d4,(i:Int),nxL H n i,())):=by
 obtain⟨a1,a2,a3⟩:=ho.at hi
 have ht:=ho.top
 have hp:=ho.pos
 obtain⟨m,hm⟩:=AjU (show 0≤H.getD i 0 by omega)
 have e:=Bn (step:=Dj) (fun h (a:List Int)=>(H,(n:Int),d2,d3,d4,(i:Int),a,(h:Int),())) (List.range m) (fun h a=>.inl (a++[(((i+kst H n i h) % n:Nat):Int)])) (fun a=>.inl (H,(n:Int),d2,d3,d4,(i:Int),a,())) (fun j a=>a.length≤j) (by rw[AjY];omega)
  (fun j x a hj hx ha=>by
   refine⟨fun m' h' => ?_,fun r h'=>(by cases h')⟩
   cases h'
   obtain⟨rfl,hjm⟩:=H4 hx
   have hh:(x:Int)<H.getD i 0:=by omega
   obtain⟨k1,k2,_⟩:=NP hp hi hh
   constructor
   ·unfold Dj
    dsimp only
    simp only[a3]
    rw[Ag,AjG hh]
    simp only[Aeu ho d2 d3 d4 a hi hh]
    rw[wrap_add (by omega),EH hp]
    simp only
    rw[BK (by simp only[AK,Aj8];omega),AM (by omega)]
    rfl
   ·simp;omega)
  (fun a _=>by
   rw[AjY]
   unfold Dj
   dsimp only
   simp only[a3]
   rw[Ag,AjF (by omega)]) [] (AjO _)
 have e':AS Dj many (H,(n:Int),d2,d3,d4,(i:Int),([]:List Int),(0:Int),())=_:=e
 rw[e',A0 (fun(h:Nat) (a:List Int)=>a++[(((i+kst H n i h) % n:Nat):Int)])]
 have hf:∀ (xs:List Nat) (a:List Int),xs.foldl (fun a h=>a++[(((i+kst H n i h) % n:Nat):Int)]) a=a++xs.map fun h=>(((i+kst H n i h) % n:Nat):Int):=by
  intro xs
  induction xs with
  |nil=>intro a;simp
  |cons x xs ih=>intro a;rw[Ajt,ih];simp
 rw[hf]
 unfold nxL
 rw[hm]
 rfl
theorem AQK{toks H:List Int}{n:Nat}(hr:Rt toks)(hn:toks.length=n)(ho:HO H n):SZ (toks,H,())=some (toks,H,NX H n,0,()):=by
 have ht:=ho.top
 have hp:=ho.pos
 have hl:=ho.len
 have hd:HN (toks,())=some (true,()):=by rw[I3];simp[hr]
 rw[AD7,Ol,hd]
 simp only[AjT,AK,hn,hl,An]
 rw[AjF (by omega)]
 simp only[AjV,AjT]
 have e0:=AE9 (step:=Eg) (fun k=>(toks,H,(n:Int),(k:Int),())) n (.inr (.inl (toks,H,(n:Int),()))) (by omega)
  (fun k hk=>by
   obtain⟨a1,a2,a3⟩:=ho.at hk
   unfold Eg
   dsimp only
   rw[AL,AjG hk]
   simp only[a3,Ag]
   rw[AjF (by omega),AjF (by omega),AM (by omega)])
  (by unfold Eg;dsimp only;rw[AL,AjF (by omega)])
 have e0':AS Eg many (toks,H,(n:Int),(0:Int),())=_:=e0
 simp only[e0',Aji,hn,hl]
 rw[BK (by omega)]
 simp only[]
 have d1:A2 ([]:List Int) toks=toks:=by simp[A2]
 have d2:A2 ([]:List Int) H=H:=by simp[A2]
 simp only[d1,d2]
 have e:=Bn (step:=Ef) (fun i (a:List (List Int))=>(H,(n:Int),toks,H,a,(i:Int),())) (List.range n) (fun i a=>.inl (a++[nxL H n i])) (fun a=>.inl (toks,H,a,())) (fun j a=>a.length≤j) (by rw[AjY];omega)
  (fun j x a hj hx ha=>by
   refine⟨fun m' h' => ?_,fun r h'=>(by cases h')⟩
   cases h'
   obtain⟨rfl,hjm⟩:=H4 hx
   constructor
   ·unfold Ef
    dsimp only
    rw[AL,AjG hjm]
    simp only[Aev ho toks H a hjm]
    rw[BK (by simp only[AK,Aj8];omega),AM (by omega)]
    rfl
   ·simp;omega)
  (fun a _=>by
   rw[AjY]
   unfold Ef
   dsimp only
   rw[AL,AjF (by omega)]) [] (AjO _)
 have e':AS Ef many (H,(n:Int),toks,H,([]:List (List Int)),(0:Int),())=_:=e
 simp only[e']
 rw[A0 (fun(i:Nat) (a:List (List Int))=>a++[nxL H n i])]
 have hf:∀ (xs:List Nat) (a:List (List Int)),xs.foldl (fun a i=>a++[nxL H n i]) a=a++xs.map (nxL H n):=by
  intro xs
  induction xs with
  |nil=>intro a;simp
  |cons x xs ih=>intro a;rw[Ajt,ih];simp
 rw[hf]
 rfl
end Go.Pev.Pl
end
section
namespace Go.Pev.Pl
def psn(n k:Nat):Nat:=n-1-k % n
theorem ANH{n k j:Nat}(hn:0<n)(hj:j≤k)(hjn:j≤n):psn n (k-j)=(psn n k+j) % n:=by
 unfold psn
 have hm:k % n<n:=Ak6 _ hn
 obtain⟨q,hq⟩:∃ q,k=n*q+k % n:=⟨k/n,(Nat.div_add_mod k n).symm⟩
 generalize k % n=r at *
 by_cases h:j≤r
 ·have e:(k-j) % n=r-j:=by
   rw[hq,show n*q+r-j=r-j+n*q by omega,Nat.add_mul_mod_self_left,AkM (by omega)]
  rw[e,AkM (by omega)]
  omega
 ·have hq1:1≤q:=by
   apply AkK
   intro hh
   have:q=0:=by omega
   subst this
   rw[Nat.mul_zero]at hq
   omega
  obtain⟨p,rfl⟩:∃ p,q=p+1:=⟨q-1,by omega⟩
  have e:(k-j) % n=n+r-j:=by
   rw[hq,Nat.mul_add,AlY,show n*p+n+r-j=n+r-j+n*p by omega,Nat.add_mul_mod_self_left]
   by_cases h2:n+r-j=n
   ·omega
   ·exact AkM (by omega)
  rw[e]
  by_cases h3:j=n
  ·subst h3
   rw[Nat.add_mod_right,AkM (by omega)]
   omega
  ·rw[show n-1-r+j=n+(j-r-1) by omega,Nat.add_mod_left,AkM (by omega)]
   omega
theorem Ace{n k:Nat}(hn:0<n):psn n k<n:=by unfold psn;omega
def AYE(B:List Int)(i:Nat)(m:Nat):List Int:=(List.range m).foldl (fun B h=>B.set h (i:Int)) B
theorem AGZ(B:List Int)(i m:Nat)(hm:m≤B.length):(AYE B i m).length=B.length∧∀ h,(AYE B i m).getD h 0=if h<m then(i:Int)else B.getD h 0:=by
 have:=foldI (fun h (B:List Int)=>B.set h (i:Int)) (fun k C=>C.length=B.length∧∀ h,C.getD h 0=if h<k then(i:Int)else B.getD h 0) m B (fun k C hk hC=>by
  obtain⟨c1,c2⟩:=hC
  refine⟨by rw[AkL];exact c1,fun h => ?_⟩
  rw[AjI,Ak0]
  by_cases e:k=h
  ·subst e
   rw[AjP rfl,AjP (by omega),AjP (by omega)]
   rfl
  ·rw[AjQ e,← AjI,c2]
   by_cases h2:h<k
   ·rw[AjP h2,AjP (by omega)]
   ·rw[AjQ h2,AjQ (by omega)]) ⟨rfl,fun h=>by simp⟩
 exact this
theorem AhS(H:List Int)(n:Int)(T T2:List Int)(M:List (List Int))(B:List Int)(hB:B.length=8)(i:Nat)(d7 d8:Int)(m:Nat)(hm:m≤8):
  AS Cz many (H,n,T,T2,M,B,(i:Int),d7,d8,(m:Int),(0:Int),())=some (.inl (H,n,T,T2,M,AYE B i m,d7,d8,())):=by
 have e:=Bn (step:=Cz) (fun h (B:List Int)=>(H,n,T,T2,M,B,(i:Int),d7,d8,(m:Int),(h:Int),())) (List.range m) (fun h B=>.inl (B.set h (i:Int))) (fun B=>.inl (H,n,T,T2,M,B,d7,d8,())) (fun j B=>B.length=8) (by rw[AjY];omega)
  (fun j x B hj hx hB=>by
   refine⟨fun m' h' => ?_,fun r h'=>(by cases h')⟩
   cases h'
   obtain⟨rfl,hjm⟩:=H4 hx
   constructor
   ·unfold Cz
    dsimp only
    rw[AL,AjG hjm,Ar,AjG (by omega),Ag,AjG (by omega),AK,hB,Ag,AjG (by omega),Nj,AM (by omega)]
    rfl
   ·rw[AkL];exact hB)
  (fun B _=>by
   rw[AjY]
   unfold Cz
   dsimp only
   rw[AL,AjF (by omega)]) B hB
 have e':AS Cz many (H,n,T,T2,M,B,(i:Int),d7,d8,(m:Int),(0:Int),())=_:=e
 rw[e',A0 (fun(h:Nat) (B:List Int)=>B.set h (i:Int))]
 rfl
abbrev TS:=List (List Int)×List Int
def hAt(H:List Int)(i:Nat):Nat:=(H.getD i 0).toNat
def twF(H:List Int)(n k:Nat)(a:TS):TS:=(if n≤k then a.1.set (psn n k) (a.2.take (hAt H (psn n k)))else a.1,AYE a.2 (psn n k) (hAt H (psn n k)))
structure TI2(H:List Int)(n k:Nat)(a:TS):Prop where
 lenM:a.1.length=n
 lenB:a.2.length=8
 near:∀ h j,1≤j→j≤k→h<hAt H (psn n (k-j))→(∀ j',1≤j'→j'<j→hAt H (psn n (k-j'))≤h)→a.2.getD h 0=((psn n (k-j):Nat):Int)
 rows:∀ k',n≤k'→k'<k→a.1.getD (psn n k') []=nxL H n (psn n k')
theorem HO.hAt{H:List Int}{n:Nat}(ho:HO H n){i:Nat}(hi:i<n):1≤hAt H i∧hAt H i≤8∧H.getD i 0=(hAt H i:Int):=by
 obtain⟨a1,a2,_⟩:=ho.at hi
 unfold Go.Pev.Pl.hAt
 omega
theorem TI2.step{H:List Int}{n k:Nat}(ho:HO H n)(hk:k<2*n){a:TS}(h:TI2 H n k a):TI2 H n (k+1) (twF H n k a):=by
 have hp:=ho.pos
 have hi:=Ace (k:=k) hp
 obtain⟨q1,q2,q3⟩:=ho.hAt hi
 have hlB:=h.lenB
 obtain⟨s1,s2⟩:=AGZ a.2 (psn n k) (hAt H (psn n k)) (by omega)
 refine⟨?_,?_,?_,?_⟩
 ·unfold twF
  simp only
  split
  ·rw[AkL];exact h.lenM
  ·exact h.lenM
 ·show(AYE a.2 _ _).length=8
  rw[s1];exact h.lenB
 ·intro x j j1 j2 hx hall
  show(AYE a.2 (psn n k) (hAt H (psn n k))).getD x 0=_
  rw[s2]
  by_cases hj:j=1
  ·subst hj
   rw[AmF]at hx ⊢
   rw[AjP hx]
  ·have h1:=hall 1 (by omega) (by omega)
   rw[AmF]at h1
   rw[AjQ (by omega)]
   have e:∀ z,1≤z→k+1-z=k-(z-1):=fun z hz=>by omega
   rw[e j j1]at hx ⊢
   refine h.near x (j-1) (by omega) (by omega) hx fun j' p1 p2 => ?_
   have:=hall (j'+1) (by omega) (by omega)
   rw[e (j'+1) (by omega),AmF]at this
   exact this
 ·intro k' h1 h2
  by_cases e:k'=k
  ·subst e
   unfold twF
   simp only
   rw[AjP h1,AjI,Ak0,AjP rfl,AjP (by rw[h.lenM];exact hi)]
   simp only[Ajn]
   apply Ak5
   intro x
   unfold nxL
   rw[Aj7,Ajq]
   by_cases hx:x<hAt H (psn n k')
   ·rw[AjP hx]
    have hxl:(List.range (H.getD (psn n k') 0).toNat)[x]? = some x:=by
     rw[Akl]
     exact hx
    rw[hxl]
    have hxB:a.2[x]? = some (a.2.getD x 0):=by
     rw[AjI,AjM (by omega)]
     rfl
    rw[hxB]
    obtain⟨k1,k2,k3,k4⟩:=NP (H:=H) (h:=x) hp hi (by omega)
    simp only[Ak2]
    generalize kst H n (psn n k') x=d at *
    have hb:=ANH (k:=k') (j:=d) hp (by omega) k2
    have:=h.near x d k1 (by omega) (by
     rw[hb]
     have:=(ho.hAt (Ak6 (psn n k'+d) hp)).2.2
     omega) fun j' p1 p2=>by
     rw[ANH (k:=k') (j:=j') hp (by omega) (by omega)]
     have:=k4 j' p1 p2
     have:=(ho.hAt (Ak6 (psn n k'+j') hp)).2.2
     omega
    rw[this,hb]
   ·rw[AjQ hx]
    have hxl:(List.range (H.getD (psn n k') 0).toNat)[x]? = none:=by
     rw[Ajo]
     rw[AjY]
     unfold Go.Pev.Pl.hAt at hx
     omega
    rw[hxl]
    rfl
  ·have hne:psn n k≠psn n k':=by
    unfold psn
    have e1:k % n=k-n:=by rw[AmE (by omega),AkM (by omega)]
    have e2:k' % n=k'-n:=by rw[AmE (by omega),AkM (by omega)]
    omega
   unfold twF
   simp only
   rw[AjP (by omega),AjI,Ajx hne,← AjI]
   exact h.rows k' h1 (by omega)
theorem AfJ{H:List Int}{n:Nat}(ho:HO H n):((List.range (2*n)).foldl (fun a k=>twF H n k a) (List.replicate n [],List.replicate 8 0)).1=NX H n:=by
 have hp:=ho.pos
 have hT:=foldI (twF H n) (TI2 H n) (2*n) (List.replicate n [],List.replicate 8 0) (fun k a hk h=>h.step ho hk) ⟨by simp,by simp,fun h j j1 j2=>by omega,fun k' h1 h2=>by omega⟩
 generalize (List.range (2*n)).foldl (fun a k=>twF H n k a) (List.replicate n [],List.replicate 8 0)=a at *
 have hlen:=hT.lenM
 refine Bv ([]:List Int) ?_ fun i hi => ?_
 ·unfold NX
  rw[Aj6,AjY]
  exact hlen
 ·have hi':i<n:=by omega
  have:=hT.rows (2*n-1-i) (by omega) (by omega)
  have e:psn n (2*n-1-i)=i:=by
   unfold psn
   rw[AmE (by omega),AkM (by omega)]
   omega
  rw[e]at this
  rw[this]
  unfold NX
  rw[AjI,Ajq,Akl hi']
  rfl
theorem Ad3(x:Int):Zb (x,())=some (decide (1≤x∧x≤8),()):=by
 rw[AGC,Qz,Ar,Ar]
 by_cases h1:1≤x
 ·by_cases h2:x≤8<;>simp[h1,h2]
 ·simp[h1]
theorem Yk{H:List Int}{n:Nat}(ho:HO H n):FT (H,())=some (false,()):=by
 have hl:=ho.len
 have ht:=ho.top
 have e:=AE9 (step:=CO) (fun k=>(H,(n:Int),(k:Int),())) n (.inr (.inl ())) (by omega)
  (fun k hk=>by
   obtain⟨a1,a2,a3⟩:=ho.at hk
   unfold CO
   dsimp only
   rw[AL,AjG hk]
   simp only[a3,Ad3]
   rw[AjG (show 1≤H.getD k 0∧H.getD k 0≤8 from⟨a1,a2⟩),AM (by omega)]
   rfl)
  (by unfold CO;dsimp only;rw[AL,AjF (by omega)])
 rw[MV,FQ,NZ,Gf,AK,hl]
 have e':AS CO many (H,(n:Int),(0:Int),())=_:=e
 simp only[e',Ar]
 rfl
theorem W8{toks H:List Int}{n:Nat}(hr:Rt toks)(hn:toks.length=n)(ho:HO H n):OE (toks,H,())=some (toks,H,NX H n,0,()):=by
 have ht:=ho.top
 have hp:=ho.pos
 have hl:=ho.len
 have hd:K8 (toks,())=some (true,()):=by rw[K7];simp[hr]
 rw[Zh,OC]
 simp only[AK,hn,hl,An]
 rw[AjF (by omega)]
 simp only[AjV,AjT,hd,Yk ho,Lz (show toks.length≤4294967296 by omega),Lz (show H.length≤4294967296 by omega)]
 have hfi:D6 (n:Int)=true:=(E1 _).2 (by omega)
 rw[hfi,DA,AjG (AjO n),GF,AK2,AK2,AF9 (by omega)]
 simp only[AkP]
 have e:=Bn (step:=EM) (fun k (a:TS)=>(H,(n:Int),toks,H,a.1,a.2,((2*n:Nat):Int),(k:Int),())) (List.range (2*n)) (fun k a=>.inl (twF H n k a)) (fun a=>.inl (toks,H,a.1,())) (fun k a=>a.1.length=n∧a.2.length=8) (by rw[AjY];omega)
  (fun k x a hk hx ha=>by
   refine⟨fun m' h' => ?_,fun r h'=>(by cases h')⟩
   cases h'
   obtain⟨rfl,hkm⟩:=H4 hx
   obtain⟨la,lb⟩:=ha
   have hi:=Ace (k:=x) hp
   obtain⟨q1,q2,q3⟩:=ho.hAt hi
   have hi3:=(ho.at hi).2.2
   constructor
   ·unfold EM
    dsimp only
    rw[AL,AjG hkm,EH hp]
    have hm:x % n<n:=Ak6 _ hp
    have hw:IntKind.wrap .i64 ((IntKind.wrap .i64 ((n:Int)-(1:Int)))-((x % n:Nat):Int))=((psn n x:Nat):Int):=by
     rw[BG (by omega),DV (by omega)]
     rfl
    simp only[hw,hi3,q3]
    rw[DA]
    by_cases hnk:n≤x
    ·rw[AjG hnk]
     have hsub:=Ky (xs:=a.2) (h:=hAt H (psn n x)) (by omega)
     have hlen2:(a.2.take (hAt H (psn n x))).length=hAt H (psn n x):=by rw[Ajb];omega
     have hix:∃ z,idx a.1 ((psn n x:Nat):Int)=some z:=Ad2 (by omega)
     obtain⟨z,hz⟩:=hix
     simp only[hsub,AK,hlen2,GF,DK,AlD,Lz (show(a.2.take (hAt H (psn n x))).length≤4294967296 by omega),hz,Nj]
     rw[AhS H (n:Int) toks H _ a.2 lb (psn n x) _ _ _ q2]
     simp only
     rw[AM (by omega)]
     unfold twF
     rw[AjP hnk]
     rfl
    ·rw[AjF hnk]
     simp only
     rw[AhS H (n:Int) toks H _ a.2 lb (psn n x) _ _ _ q2]
     simp only
     rw[AM (by omega)]
     unfold twF
     rw[AjQ hnk]
   ·obtain⟨s1,_⟩:=AGZ a.2 (psn n x) (hAt H (psn n x)) (by omega)
    refine⟨?_,s1.trans lb⟩
    unfold twF
    simp only
    split
    ·rw[AkL];exact la
    ·exact la)
  (fun a _=>by
   rw[AjY]
   unfold EM
   dsimp only
   rw[AL,AjF (by omega)]) (List.replicate n [],List.replicate 8 0) ⟨by simp,by simp⟩
 have e':AS EM many (H,(n:Int),toks,H,List.replicate n ([]:List Int),List.replicate 8 (0:Int),((2*n:Nat):Int),(0:Int),())=_:=e
 simp only[e']
 rw[A0 (fun(k:Nat) (a:TS)=>twF H n k a),AfJ ho]
end Go.Pev.Pl
end
