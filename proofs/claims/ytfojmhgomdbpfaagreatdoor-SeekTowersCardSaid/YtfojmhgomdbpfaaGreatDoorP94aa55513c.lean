/- A part of the proofs of this seat: DKC T19a DKD T22a T21a T23a T23b T24a PlnC DKE DKF DKG DKH DU24a DU24b DU24c DU24d DU23a DU23b DU23c DU23d DU23e T24b DU24f DU24g DU24h DU24i DU24j DU24k DU24l DU24m DU24n PlnD DU21a DU21b DU23f DU23g PlnE DU23h DU23i DU21c DU21d DU21e DU23j DU23k DU24e DU21f DU23l U29a U29b U29c U29d U29e U29g U29h U29i U29j. -/
import Derived.Test.YtfojmhgomdbpfaaGreatDoorP419543d738
import Derived.KernelRfl
import Derived.IntWalk
set_option linter.unusedVariables false
set_option linter.unusedSimpArgs false
set_option linter.unusedSectionVars false
set_option maxRecDepth 100000
section
section
namespace Go.Pev.Pl.SG
open Go.Sort
variable {α:Type} {S:SP α}
theorem AWA(hi first:Nat):∀ (k root:Nat) (d:Array (EL S)) (n:Nat),hi-root=k→root≤hi→first+hi≤d.size→d.size<4294967296→(hi=0∨root<hi)→k<n →
  Ab (KU S.z S.c) n ((rep d),(hi:Int),(first:Int),(root:Int),())=some (.inl ((rep (siftDown ltX hi first root d)),())) ∨
  Ab (KU S.z S.c) n ((rep d),(hi:Int),(first:Int),(root:Int),())=some (.inr (.inl ((rep (siftDown ltX hi first root d)),()))):=by
 intro k
 induction k using Nat.strongRecOn with
 |_ k ih=>
 intro root d n hk hr hf hs hz hn
 obtain⟨n,rfl⟩:∃ k,n=k+1:=⟨n-1,by omega⟩
 rw[siftDown]
 simp (disch:=omega) only[Ab,KU,AI5,AQ,wrap_add,Cg,AP]
 by_cases h1:hi≤2*root+1
 ·simp only[h1,Aow,ge_iff_le,dite_true,true_or]
 ·have i0:first+root<d.size:=by omega
  have i1:first+(2*root+1)<d.size:=by omega
  simp only[h1,Ao9,ge_iff_le,Ao3,dite_false]
  simp (disch:=omega) only[A7,Ba,CW,DT]
  by_cases h2:2*root+1+1<hi
  ·have i2:first+(2*root+2)<d.size:=by omega
   have i3:2*root+1+1=2*root+2:=by omega
   have i4:first+(2*root+1)+1=first+(2*root+2):=by omega
   have h3:2*root+2<hi:=by omega
   simp only[i3,i4,h3,Aow]
   simp (disch:=omega) only[A7,Ba,CW,DT,JV]
   cases h4:ltX d[first+(2*root+1)]! d[first+(2*root+2)]!
   ·simp only[Bool.and_false,Ao5,Ao3]
    cases h5:ltX d[first+root]! d[first+(2*root+1)]!
    ·simp
    ·simp only[Aov,Ao5,Ao3]
     rw[A7 (by simpa using i1)]
     simp only[KS]
     exact ih (hi-(2*root+1)) (by omega) (2*root+1) _ n rfl (by omega) (by rw[size_swp];omega) (by rw[size_swp];omega) (by omega) (by omega)
   ·simp only[Bool.and_true,ApL]
    cases h5:ltX d[first+root]! d[first+(2*root+2)]!
    ·simp
    ·simp only[Aov,Ao5,Ao3,dite_true]
     rw[A7 (by simpa using i2)]
     simp only[KS]
     exact ih (hi-(2*root+2)) (by omega) (2*root+2) _ n rfl (by omega) (by rw[size_swp];omega) (by rw[size_swp];omega) (by omega) (by omega)
  ·simp only[h2,Ao9,Aqt,Ao5,Ao3,JV]
   cases h5:ltX d[first+root]! d[first+(2*root+1)]!
   ·simp
   ·simp only[Aov,Ao5,Ao3]
    rw[A7 (by simpa using i1)]
    simp only[KS]
    exact ih (hi-(2*root+1)) (by omega) (2*root+1) _ n rfl (by omega) (by rw[size_swp];omega) (by rw[size_swp];omega) (by omega) (by omega)
theorem AJa(d:Array (EL S))(root hi first:Nat)(hf:first+hi≤d.size)(hs:d.size<4294967296)(hz:hi=0∧root=0∨root<hi):(AJb S.z S.c) ((rep d),(root:Int),(hi:Int),(first:Int),())=some ((rep (siftDown ltX hi first root d)),()):=by
 have hm:d.size<many:=by simp only[many];omega
 rw[AhS,SB]
 simp only[Av]
 rcases AWA hi first (hi-root) root d many rfl (by omega) hf hs (by omega) (by omega)with h|h<;>rw[h]
theorem EG(lt:(EL S)→(EL S)→Bool)(hi first:Nat):∀ (k root:Nat) (d:Array (EL S)),hi-root=k→(siftDown lt hi first root d).size=d.size:=by
 intro k
 induction k using Nat.strongRecOn with
 |_ k ih=>
 intro root d hk
 rw[siftDown]
 split
 ·rfl
 ·split
  ·split
   ·rfl
   ·split
    ·rw[ih (hi-(2*root+2)) (by omega) _ _ rfl,size_swp]
    ·rfl
  ·split
   ·rfl
   ·rw[ih (hi-(2*root+1)) (by omega) _ _ rfl,size_swp]
theorem ATX(hi first:Nat):∀ (k:Nat) (d:Array (EL S)) (n:Nat),(hi=0∧k≤1∨k≤hi)→first+hi≤d.size→d.size<4294967296→k<n →
  Ab (Ko S.z S.c) n ((rep d),(first:Int),(0:Int),(hi:Int),(k:Int)-1,())=some (.inl ((rep (heapBuild ltX hi first k d)),(first:Int),(0:Int),(hi:Int),())):=by
 intro k
 induction k with
 |zero=>
  intro d n hk hf hs hn
  obtain⟨n,rfl⟩:∃ k,n=k+1:=⟨n-1,by omega⟩
  rw[Ab,Ko,Ar,Aog (by omega)]
  rfl
 |succ k ih=>
  intro d n hk hf hs hn
  obtain⟨n,rfl⟩:∃ k,n=k+1:=⟨n-1,by omega⟩
  have e0:((k+1:Nat):Int)-1=(k:Int):=by omega
  rw[Ab,Ko,e0,Ar,Aoi (by omega)]
  simp only[AJa d k hi first hf hs (by omega)]
  rw[Ai (by omega)]
  exact ih _ n (by omega) (by rw[EG _ _ _ _ _ _ rfl];omega) (by rw[EG _ _ _ _ _ _ rfl];omega) (by omega)
theorem NF(lt:(EL S)→(EL S)→Bool)(hi first:Nat):∀ (k:Nat) (d:Array (EL S)),(heapBuild lt hi first k d).size=d.size:=by
 intro k
 induction k with
 |zero=>intro d;rfl
 |succ k ih=>intro d;rw[heapBuild,ih,EG _ _ _ _ _ _ rfl]
theorem AfL(first:Nat):∀ (k:Nat) (d:Array (EL S)) (n:Nat),first+k≤d.size→d.size<4294967296→k<n →
  Ab (Km S.z S.c) n ((rep d),(first:Int),(0:Int),(k:Int)-1,())=some (.inl ((rep (heapPop ltX first k d)),())):=by
 intro k
 induction k with
 |zero=>
  intro d n hf hs hn
  obtain⟨n,rfl⟩:∃ k,n=k+1:=⟨n-1,by omega⟩
  rw[Ab,Km,Ar,Aog (by omega)]
  rfl
 |succ k ih=>
  intro d n hf hs hn
  obtain⟨n,rfl⟩:∃ k,n=k+1:=⟨n-1,by omega⟩
  have e0:((k+1:Nat):Int)-1=(k:Int):=by omega
  have i0:first<d.size:=by omega
  have i1:first+k<d.size:=by omega
  rw[Ab,Km,e0,Ar,Aoi (by omega)]
  simp (disch:=omega) only[wrap_add,A7,Ba,JV]
  rw[A7 (by simpa using i1)]
  simp only[KS]
  have:=AJa (swp d first (first+k)) 0 k first (by rw[size_swp];omega) (by rw[size_swp];omega) (by omega)
  simp only[Int.natCast_zero]at this
  simp only[this]
  rw[Ai (by omega)]
  exact ih _ n (by rw[EG _ _ _ _ _ _ rfl,size_swp];omega) (by rw[EG _ _ _ _ _ _ rfl,size_swp];omega) (by omega)
theorem AfK(d:Array (EL S))(a b:Nat)(hab:a<b)(hb:b≤d.size)(hs:d.size<4294967296):(ATY S.z S.c) ((rep d),(a:Int),(b:Int),())=some ((rep (heapSort ltX d a b)),()):=by
 have hm:4294967296<many:=by simp only[many];omega
 rw[AjY,S9]
 simp (disch:=omega) only[DX,BC,AoI,Av]
 have e:(((b-a-1)/2:Nat):Int)=(((b-a-1)/2+1:Nat):Int)-1:=by omega
 rw[e,ATX (b-a) a _ d many (by omega) (by omega) hs (by omega)]
 have e2:(((b-a-1:Nat)):Int)=((b-a:Nat):Int)-1:=by omega
 simp (disch:=omega) only[BC,e2]
 rw[AfL a (b-a) _ many (by rw[NF];omega) (by rw[NF];omega) (by omega)]
 rfl
end Go.Pev.Pl.SG
end
section
namespace Go.Pev.Pl.SG
open Go.Sort
variable {α:Type} {S:SP α}
theorem Adk:∀ (k i j:Nat) (d:Array (EL S)) (n:Nat),j-i=k→(j<d.size)→d.size<4294967296→k<n →
  Ab (SQ S.z S.c) n ((rep d),(i:Int),(j:Int),())=some (.inl ((rep (reverseLoop i j d)),())):=by
 intro k
 induction k using Nat.strongRecOn with
 |_ k ih=>
 intro i j d n hk hj hs hn
 obtain⟨n,rfl⟩:∃ k,n=k+1:=⟨n-1,by omega⟩
 rw[reverseLoop,Ab,SQ]
 simp only[AP]
 by_cases h:i<j
 ·have hi:i<d.size:=by omega
  simp only[h,Aow,ApL,A7 hj,A7 hi,Ba hi,Ba hj,JV]
  rw[A7 (by simpa using hj)]
  simp (disch:=omega) only[KS,AQ,BC]
  exact ih (j-1-(i+1)) (by omega) (i+1) (j-1) _ n rfl (by rw[size_swp];omega) (by rw[size_swp];omega) (by omega)
 ·simp only[h,Ao9,Ao3]
theorem Aho(d:Array (EL S))(a b:Nat)(hab:a<b)(hb:b≤d.size)(hs:d.size<4294967296):(Ahp S.z S.c) ((rep d),(a:Int),(b:Int),())=some ((rep (reverseRange d a b)),()):=by
 have hm:4294967296<many:=by simp only[many];omega
 rw[AlU,ADE]
 simp (disch:=omega) only[BC,Av]
 rw[Adk (b-1-a) a (b-1) d many rfl (by omega) hs (by omega)]
 rfl
theorem EC{d:Array (EL S)}{i j:Nat}(hi:i<d.size)(hj:j<d.size):idx (BB (rep d) (AO (i:Int)) (Ac (rep d) (AO (j:Int)) S.z)) (j:Int)=some ((d.setIfInBounds i d[j]!)[j]!).val ∧
  BB (BB (rep d) (AO (i:Int)) (Ac (rep d) (AO (j:Int)) S.z)) (AO (j:Int)) (Ac (rep d) (AO (i:Int)) S.z)=(rep (swp d i j)):=by
 rw[Ba hi,Ba hj,JV,JV]
 exact⟨A7 (by simpa using hj),rfl⟩
theorem AMW(step:List α×Int×Int×Int×Unit→Option ((List α×Int×Int×Int×Unit)⊕(List α×Int×Int×Int×Unit)⊕Unit))(p:(EL S)→Bool)(d:Array (EL S))(a j:Nat)(hs:d.size<4294967296)(hj:j<d.size)
  (h:∀ i:Nat,i≤d.size→step ((rep d),(a:Int),(i:Int),(j:Int),())=if i≤j∧p d[i]! then some (.inl ((rep d),(a:Int),((i+1:Nat):Int),(j:Int),()))else some (.inr (.inl ((rep d),(a:Int),(i:Int),(j:Int),())))) :
  ∀ (k i n:Nat),j+1-i=k→i≤d.size→k<n→Ab step n ((rep d),(a:Int),(i:Int),(j:Int),())=some (.inl ((rep d),(a:Int),((scanUp p d j i:Nat):Int),(j:Int),())):=by
 intro k
 induction k using Nat.strongRecOn with
 |_ k ih=>
 intro i n hk hi hn
 obtain⟨n,rfl⟩:∃ k,n=k+1:=⟨n-1,by omega⟩
 rw[scanUp,Ab,h i hi]
 by_cases h1:i≤j∧p d[i]! = true
 ·rw[Aoq h1,Aoq (by simpa using h1)]
  exact ih (j+1-(i+1)) (by omega) (i+1) n rfl (by omega) (by omega)
 ·rw[Aor h1,Aor (by simpa using h1)]
theorem Vt(step:List α×Int×Int×Int×Unit→Option ((List α×Int×Int×Int×Unit)⊕(List α×Int×Int×Int×Unit)⊕Unit))(p:(EL S)→Bool)(d:Array (EL S))(a i:Nat)(hi:1≤i)
  (h:∀ j:Nat,j<d.size→step ((rep d),(a:Int),(i:Int),(j:Int),())=if i≤j∧p d[j]! then some (.inl ((rep d),(a:Int),(i:Int),((j-1:Nat):Int),()))else some (.inr (.inl ((rep d),(a:Int),(i:Int),(j:Int),())))) :
  ∀ (j n:Nat),j<d.size→j<n→Ab step n ((rep d),(a:Int),(i:Int),(j:Int),())=some (.inl ((rep d),(a:Int),(i:Int),((scanDown p d i j:Nat):Int),())):=by
 intro j
 induction j with
 |zero=>
  intro n hj hn
  obtain⟨n,rfl⟩:∃ k,n=k+1:=⟨n-1,by omega⟩
  rw[Ab,h 0 hj,Aor (by omega)]
  rfl
 |succ j ih=>
  intro n hj hn
  obtain⟨n,rfl⟩:∃ k,n=k+1:=⟨n-1,by omega⟩
  rw[scanDown,Ab,h (j+1) hj]
  by_cases h1:i≤j+1∧p d[j+1]! = true
  ·rw[Aoq h1,Aoq (by simpa using h1)]
   exact ih n (by omega) (by omega)
  ·rw[Aor h1,Aor (by simpa using h1)]
section
variable (d:Array (EL S)) (a i j:Nat) (hs:d.size<4294967296) (ha:a<d.size) (hj:j<d.size)
include hs ha hj
theorem ASF(hi:i≤d.size):(NV S.z S.c) ((rep d),(a:Int),(i:Int),(j:Int),())=if i≤j∧(fun x=>ltX x d[a]!) d[i]! = true then some (.inl ((rep d),(a:Int),((i+1:Nat):Int),(j:Int),()))else some (.inr (.inl ((rep d),(a:Int),(i:Int),(j:Int),()))):=by
 rw[NV]
 simp only[Cg]
 by_cases h:i≤j
 ·have hi':i<d.size:=by omega
  simp (disch:=omega) only[h,Aow,A7,Ba,CW,DT,AQ,Aq2]
  cases ltX d[i]! d[a]!<;>simp
 ·simp only[h,Ao9,Aqq,Ao3]
theorem ASD(hi:i≤d.size):(NS S.z S.c) ((rep d),(a:Int),(i:Int),(j:Int),())=if i≤j∧(fun x=>ltX x d[a]!) d[i]! = true then some (.inl ((rep d),(a:Int),((i+1:Nat):Int),(j:Int),()))else some (.inr (.inl ((rep d),(a:Int),(i:Int),(j:Int),()))):=by
 rw[NS]
 simp only[Cg]
 by_cases h:i≤j
 ·have hi':i<d.size:=by omega
  simp (disch:=omega) only[h,Aow,A7,Ba,CW,DT,AQ,Aq2]
  cases ltX d[i]! d[a]!<;>simp
 ·simp only[h,Ao9,Aqq,Ao3]
theorem ASE(hi:1≤i):(NU S.z S.c) ((rep d),(a:Int),(i:Int),(j:Int),())=if i≤j∧(fun x => !ltX x d[a]!) d[j]! = true then some (.inl ((rep d),(a:Int),(i:Int),((j-1:Nat):Int),()))else some (.inr (.inl ((rep d),(a:Int),(i:Int),(j:Int),()))):=by
 rw[NU]
 simp only[Cg]
 by_cases h:i≤j
 ·simp (disch:=omega) only[h,Aow,A7,Ba,CW,DT,BC,Aq2]
  cases ltX d[j]! d[a]!<;>simp
 ·simp only[h,Ao9,Aqq,Ao3]
theorem ASC(hi:1≤i):(NR S.z S.c) ((rep d),(a:Int),(i:Int),(j:Int),())=if i≤j∧(fun x => !ltX x d[a]!) d[j]! = true then some (.inl ((rep d),(a:Int),(i:Int),((j-1:Nat):Int),()))else some (.inr (.inl ((rep d),(a:Int),(i:Int),(j:Int),()))):=by
 rw[NR]
 simp only[Cg]
 by_cases h:i≤j
 ·simp (disch:=omega) only[h,Aow,A7,Ba,CW,DT,BC,Aq2]
  cases ltX d[j]! d[a]!<;>simp
 ·simp only[h,Ao9,Aqq,Ao3]
theorem AIE(hi:i≤d.size):(IF S.z S.c) ((rep d),(a:Int),(i:Int),(j:Int),())=if i≤j∧(fun x => !ltX d[a]! x) d[i]! = true then some (.inl ((rep d),(a:Int),((i+1:Nat):Int),(j:Int),()))else some (.inr (.inl ((rep d),(a:Int),(i:Int),(j:Int),()))):=by
 rw[IF]
 simp only[Cg]
 by_cases h:i≤j
 ·have hi':i<d.size:=by omega
  simp (disch:=omega) only[h,Aow,A7,Ba,CW,DT,AQ,Aq2]
  cases ltX d[a]! d[i]!<;>simp
 ·simp only[h,Ao9,Aqq,Ao3]
theorem AID(hi:1≤i):(IE S.z S.c) ((rep d),(a:Int),(i:Int),(j:Int),())=if i≤j∧(fun x=>ltX d[a]! x) d[j]! = true then some (.inl ((rep d),(a:Int),(i:Int),((j-1:Nat):Int),()))else some (.inr (.inl ((rep d),(a:Int),(i:Int),(j:Int),()))):=by
 rw[IE]
 simp only[Cg]
 by_cases h:i≤j
 ·simp (disch:=omega) only[h,Aow,A7,Ba,CW,DT,BC,Aq2]
  cases ltX d[a]! d[j]!<;>simp
 ·simp only[h,Ao9,Aqq,Ao3]
end
theorem NG(p:(EL S)→Bool)(d:Array (EL S))(j i:Nat)(hj:j<d.size)(hi:i≤d.size):scanUp p d j i≤d.size:=by
 suffices h:∀ (k i:Nat),j+1-i=k→i≤d.size→scanUp p d j i≤d.size from h _ i rfl hi
 intro k
 induction k using Nat.strongRecOn with
 |_ k ih=>
 intro i hk hi
 rw[scanUp]
 split
 ·rename_i h
  have:i≤j:=by simp at h;exact h.1
  exact ih (j+1-(i+1)) (by omega) (i+1) rfl (by omega)
 ·exact hi
theorem AXT(a:Nat):∀ (k i j:Nat) (d:Array (EL S)) (n:Nat),j+1-i=k→a<d.size→1≤i→i≤d.size→j<d.size→d.size<4294967296→k<n →
  Ab (NT S.z S.c) n ((rep d),(a:Int),(i:Int),(j:Int),())=some (.inl ((rep (partLoop ltX a i j d).2),(a:Int),(((partLoop ltX a i j d).1:Nat):Int),()))∧(partLoop ltX a i j d).1≤j∧(partLoop ltX a i j d).2.size=d.size:=by
 intro k
 induction k using Nat.strongRecOn with
 |_ k ih=>
 intro i j d n hk ha hi hi' hj hs hn
 have hm:4294967296<many:=by simp only[many];omega
 obtain⟨n,rfl⟩:∃ k,n=k+1:=⟨n-1,by omega⟩
 rw[partLoop_eq,Ab,NT]
 have u1:=scanUp_ge (fun x=>ltX x d[a]!) d j i
 have u2:=NG (fun x=>ltX x d[a]!) d j i hj hi'
 rw[Av,AMW _ (fun x=>ltX x d[a]!) d a j hs hj (fun i h=>ASD d a i j hs ha hj h) _ i many rfl hi' (by omega)]
 generalize scanUp (fun x=>ltX x d[a]!) d j i=i2 at *
 have v1:=scanDown_le (fun x => !ltX x d[a]!) d i2 j
 simp only[Av]
 rw[Vt _ (fun x => !ltX x d[a]!) d a i2 (by omega) (fun j h=>ASC d a i2 j hs ha h (by omega)) j many hj (by omega)]
 generalize scanDown (fun x => !ltX x d[a]!) d i2 j=j2 at *
 simp only[AP]
 by_cases h:j2<i2
 ·simp only[h,Aow,gt_iff_lt,ApL]
  exact⟨trivial,v1,trivial⟩
 ·have hi2:i2<d.size:=by omega
  have hj2:j2<d.size:=by omega
  simp only[h,Ao9,gt_iff_lt,Ao3,A7 hi2,A7 hj2,(EC hi2 hj2).1,(EC hi2 hj2).2]
  simp (disch:=omega) only[AQ,BC]
  obtain⟨q1,q2,q3⟩:=ih (j2-1+1-(i2+1)) (by omega) (i2+1) (j2-1) (swp d i2 j2) n rfl (by rw[size_swp];omega) (by omega) (by rw[size_swp];omega) (by rw[size_swp];omega) (by rw[size_swp];omega) (by omega)
  exact⟨q1,by omega,by rw[q3,size_swp]⟩
theorem Ad9(d:Array (EL S))(a b p:Nat)(ha:a≤p)(hp:p<b)(hb:b≤d.size)(hs:d.size<4294967296):
  (AD8 S.z S.c) ((rep d),(a:Int),(b:Int),(p:Int),())=some ((rep (partition ltX d a b p).2.2),(((partition ltX d a b p).1:Nat):Int),(partition ltX d a b p).2.1,()):=by
 have hm:4294967296<many:=by simp only[many];omega
 have ha':a<d.size:=by omega
 have hp':p<d.size:=by omega
 rw[AiN,Sa,partition]
 simp only[A7 ha',A7 hp',(EC ha' hp').1,(EC ha' hp').2]
 have hs':=hs
 rw[← size_swp d a p]at ha' hs' hb
 generalize swp d a p=d at *
 simp (disch:=omega) only[AQ,BC,Av]
 have u1:=scanUp_ge (fun x=>ltX x d[a]!) d (b-1) (a+1)
 have u2:=NG (fun x=>ltX x d[a]!) d (b-1) (a+1) (by omega) (by omega)
 rw[AMW _ (fun x=>ltX x d[a]!) d a (b-1) hs' (by omega) (fun i h=>ASF d a i (b-1) hs' ha' (by omega) h) _ (a+1) many rfl (by omega) (by omega)]
 generalize scanUp (fun x=>ltX x d[a]!) d (b-1) (a+1)=i2 at *
 have v1:=scanDown_le (fun x => !ltX x d[a]!) d i2 (b-1)
 simp only[]
 rw[Vt _ (fun x => !ltX x d[a]!) d a i2 (by omega) (fun j h=>ASE d a i2 j hs' ha' h (by omega)) (b-1) many (by omega) (by omega)]
 generalize scanDown (fun x => !ltX x d[a]!) d i2 (b-1)=j2 at *
 simp only[AP]
 have hj2:j2<d.size:=by omega
 by_cases h:j2<i2
 ·simp only[h,Aow,gt_iff_lt,ApL,A7 ha',A7 hj2,(EC hj2 ha').1,(EC hj2 ha').2]
 ·have hi2:i2<d.size:=by omega
  simp only[h,Ao9,gt_iff_lt,Ao3,A7 hi2,A7 hj2,(EC hi2 hj2).1,(EC hi2 hj2).2]
  simp (disch:=omega) only[AQ,BC]
  obtain⟨q1,q2,q3⟩:=AXT a (j2-1+1-(i2+1)) (i2+1) (j2-1) (swp d i2 j2) many rfl (by rw[size_swp];omega) (by omega) (by rw[size_swp];omega) (by rw[size_swp];omega) (by rw[size_swp];omega) (by omega)
  simp only[q1]
  rw[size_swp]at q3
  generalize partLoop ltX a (i2+1) (j2-1) (swp d i2 j2)=r at *
  have h1:r.1<r.2.size:=by omega
  have h2:a<r.2.size:=by omega
  simp only[A7 h1,A7 h2,(EC h1 h2).1,(EC h1 h2).2]
theorem ANC(a:Nat):∀ (k i j:Nat) (d:Array (EL S)) (n:Nat),j+1-i=k→a<d.size→1≤i→i≤d.size→j<d.size→d.size<4294967296→k<n →
  Ab (IG S.z S.c) n ((rep d),(a:Int),(i:Int),(j:Int),())=some (.inl ((rep (partEqLoop ltX a i j d).2),(((partEqLoop ltX a i j d).1:Nat):Int),())):=by
 intro k
 induction k using Nat.strongRecOn with
 |_ k ih=>
 intro i j d n hk ha hi hi' hj hs hn
 have hm:4294967296<many:=by simp only[many];omega
 obtain⟨n,rfl⟩:∃ k,n=k+1:=⟨n-1,by omega⟩
 rw[partEqLoop_eq,Ab,IG]
 have u1:=scanUp_ge (fun x => !ltX d[a]! x) d j i
 have u2:=NG (fun x => !ltX d[a]! x) d j i hj hi'
 rw[Av,AMW _ (fun x => !ltX d[a]! x) d a j hs hj (fun i h=>AIE d a i j hs ha hj h) _ i many rfl hi' (by omega)]
 generalize scanUp (fun x => !ltX d[a]! x) d j i=i2 at *
 have v1:=scanDown_le (fun x=>ltX d[a]! x) d i2 j
 simp only[Av]
 rw[Vt _ (fun x=>ltX d[a]! x) d a i2 (by omega) (fun j h=>AID d a i2 j hs ha h (by omega)) j many hj (by omega)]
 generalize scanDown (fun x=>ltX d[a]! x) d i2 j=j2 at *
 simp only[AP]
 by_cases h:j2<i2
 ·simp only[h,Aow,gt_iff_lt,ApL]
 ·have hi2:i2<d.size:=by omega
  have hj2:j2<d.size:=by omega
  simp only[h,Ao9,gt_iff_lt,Ao3,A7 hi2,A7 hj2,(EC hi2 hj2).1,(EC hi2 hj2).2]
  simp (disch:=omega) only[AQ,BC]
  exact ih (j2-1+1-(i2+1)) (by omega) (i2+1) (j2-1) (swp d i2 j2) n rfl (by rw[size_swp];omega) (by omega) (by rw[size_swp];omega) (by rw[size_swp];omega) (by rw[size_swp];omega) (by omega)
theorem ASH(d:Array (EL S))(a b p:Nat)(ha:a≤p)(hp:p<b)(hb:b≤d.size)(hs:d.size<4294967296):
  (Sb S.z S.c) ((rep d),(a:Int),(b:Int),(p:Int),())=some ((rep (partitionEqual ltX d a b p).2),(((partitionEqual ltX d a b p).1:Nat):Int),()):=by
 have hm:4294967296<many:=by simp only[many];omega
 have ha':a<d.size:=by omega
 have hp':p<d.size:=by omega
 rw[AXb,Ka,partitionEqual]
 simp only[A7 ha',A7 hp',(EC ha' hp').1,(EC ha' hp').2]
 have hs':=hs
 rw[← size_swp d a p]at ha' hs' hb
 generalize swp d a p=d at *
 simp (disch:=omega) only[AQ,BC,Av]
 rw[ANC a _ (a+1) (b-1) d many rfl ha' (by omega) (by omega) (by omega) hs' (by omega)]
end Go.Pev.Pl.SG
end
section
namespace Go.Pev.Pl.SG
open Go.Sort
variable {α:Type} {S:SP α}
theorem SD(d:Array (EL S))(b:Nat):∀ (k i:Nat),b-i=k→i≤b→i≤scanSorted ltX d b i∧scanSorted ltX d b i≤b:=by
 intro k
 induction k using Nat.strongRecOn with
 |_ k ih=>
 intro i hk hi
 rw[scanSorted]
 split
 ·rename_i h
  have:i<b:=by simp at h;exact h.1
  have:=ih (b-(i+1)) (by omega) (i+1) rfl (by omega)
  omega
 ·omega
theorem AH6(d:Array (EL S))(a b s:Nat)(hb:b≤d.size)(hs:d.size<4294967296):∀ (k i n:Nat),b-i=k→1≤i→i≤b→k<n →
  Ab (Gu S.z S.c) n ((rep d),(a:Int),(b:Int),(i:Int),(s:Int),())=some (.inl ((rep d),(a:Int),(b:Int),((scanSorted ltX d b i:Nat):Int),(s:Int),())):=by
 intro k
 induction k using Nat.strongRecOn with
 |_ k ih=>
 intro i n hk h1 hi hn
 obtain⟨n,rfl⟩:∃ k,n=k+1:=⟨n-1,by omega⟩
 rw[scanSorted,Ab,Gu]
 simp only[AP]
 by_cases h:i<b
 ·have i0:i<d.size:=by omega
  have i1:i-1<d.size:=by omega
  simp (disch:=omega) only[h,Aow,BC,AQ,A7,Ba,CW,DT,Aq1]
  cases h2:ltX d[i]! d[i-1]!
  ·simp only[ApR,ApL]
   exact ih (b-(i+1)) (by omega) (i+1) n rfl (by omega) (by omega) (by omega)
  ·simp only[Aov,Ao5,Ao3]
 ·simp only[h,Ao9,Aqt,Ao5,Ao3]
theorem AH8(a b i s:Nat):∀ (j:Nat) (d:Array (EL S)) (n:Nat),j<d.size→d.size<4294967296→j<n →
  Ab (E1 S.z S.c) n ((rep d),(a:Int),(b:Int),(i:Int),(s:Int),(j:Int),())=some (.inl ((rep (shiftDown ltX j d)),(a:Int),(b:Int),(i:Int),(s:Int),())):=by
 intro j
 induction j with
 |zero=>
  intro d n hj hs hn
  obtain⟨n,rfl⟩:∃ k,n=k+1:=⟨n-1,by omega⟩
  rw[Ab,E1,Ar,Aog (by omega)]
  rfl
 |succ j ih=>
  intro d n hj hs hn
  obtain⟨n,rfl⟩:∃ k,n=k+1:=⟨n-1,by omega⟩
  have hj':j<d.size:=by omega
  rw[shiftDown,Ab,E1,Ar,Aoi (by omega)]
  simp (disch:=omega) only[BC,ArE,A7,Ba,CW,DT]
  cases h2:ltX d[j+1]! d[j]!
  ·simp only[ApR,ApL]
  ·have e1:=EC hj hj'
   simp only[Ba hj,Ba hj']at e1
   simp only[Aov,Ao5,Ao3,e1]
   exact ih _ n (by rw[size_swp];omega) (by rw[size_swp];omega) (by omega)
theorem ZA(a b i s:Nat):∀ (k j:Nat) (d:Array (EL S)) (n:Nat),b-j=k→1≤j→b≤d.size→d.size<4294967296→k<n →
  Ab (E0 S.z S.c) n ((rep d),(a:Int),(b:Int),(i:Int),(s:Int),(j:Int),())=some (.inl ((rep (shiftUp ltX b j d)),(a:Int),(b:Int),(i:Int),(s:Int),())):=by
 intro k
 induction k using Nat.strongRecOn with
 |_ k ih=>
 intro j d n hk h1 hb hs hn
 obtain⟨n,rfl⟩:∃ k,n=k+1:=⟨n-1,by omega⟩
 rw[shiftUp,Ab,E0]
 simp only[AP]
 by_cases h:j<b
 ·have i0:j<d.size:=by omega
  have i1:j-1<d.size:=by omega
  simp (disch:=omega) only[h,Aow,ApL,BC,AQ,A7,Ba,CW,DT]
  cases h2:ltX d[j]! d[j-1]!
  ·simp only[ApR,ApL]
  ·have e1:=EC i0 i1
   simp only[Ba i0,Ba i1]at e1
   simp only[Aov,Ao5,Ao3,e1]
   exact ih (b-(j+1)) (by omega) (j+1) _ n rfl (by omega) (by rw[size_swp];omega) (by rw[size_swp];omega) (by omega)
 ·simp only[h,Ao9,Ao3]
theorem ACP:∀ (j:Nat) (d:Array (EL S)),(shiftDown ltX j d).size=d.size:=by
 intro j
 induction j with
 |zero=>intro d;rfl
 |succ j ih=>
  intro d
  rw[shiftDown]
  split
  ·rfl
  ·rw[ih,size_swp]
theorem HP(b:Nat):∀ (k j:Nat) (d:Array (EL S)),b-j=k→(shiftUp ltX b j d).size=d.size:=by
 intro k
 induction k using Nat.strongRecOn with
 |_ k ih=>
 intro j d hk
 rw[shiftUp]
 split
 ·split
  ·rfl
  ·rw[ih (b-(j+1)) (by omega) (j+1) _ rfl,size_swp]
 ·rfl
theorem AH7(a b:Nat)(hab:a<b):∀ (k i s:Nat) (d:Array (EL S)) (n:Nat),s+k=5→a+1≤i→i≤b→b≤d.size→d.size<4294967296→k<n →
  Ab (CU S.z S.c) n ((rep d),(a:Int),(b:Int),(i:Int),(s:Int),())=some (.inl ((rep (partialIns ltX a b k i d).1),(partialIns ltX a b k i d).2,())) ∨
  ((partialIns ltX a b k i d).2=false∧Ab (CU S.z S.c) n ((rep d),(a:Int),(b:Int),(i:Int),(s:Int),())=some (.inr (.inl ((rep (partialIns ltX a b k i d).1),())))):=by
 intro k
 induction k with
 |zero=>
  intro i s d n hk h1 hi hb hs hn
  obtain⟨n,rfl⟩:∃ k,n=k+1:=⟨n-1,by omega⟩
  rw[Ab,CU,Af,Aog (by omega)]
  exact .inr ⟨rfl,rfl⟩
 |succ k ih=>
  intro i s d n hk h1 hi hb hs hn
  have hm:4294967296<many:=by simp only[many];omega
  have es:IntKind.wrap .i64 ((s:Int)+1)=((s+1:Nat):Int):=AQ (by omega)
  obtain⟨n,rfl⟩:∃ k,n=k+1:=⟨n-1,by omega⟩
  rw[Ab,CU,Af,Aoi (by omega),partialIns]
  simp only[Av,AH6 d a b s hb hs (b-i) i many rfl (by omega) hi (by omega)]
  have hsc:=SD d b _ i rfl hi
  generalize scanSorted ltX d b i=i2 at *
  simp only[AN4]
  by_cases h2:i2=b
  ·simp only[h2,Aow,ApL,true_or]
  ·simp (disch:=omega) only[h2,Ao9,Ao3,DX,Af,Ar]
   by_cases h3:b-a<50
   ·rw[Aoq h3,Aoi (by omega)]
    exact .inl rfl
   ·have i0:i2<d.size:=by omega
    have i1:i2-1<d.size:=by omega
    rw[Aor h3,Aog (by omega)]
    simp (disch:=omega) only[BC,AQ,A7 i0,A7 i1,(EC i0 i1).1,(EC i0 i1).2]
    have hsz:=size_swp d i2 (i2-1)
    generalize swp d i2 (i2-1)=d2 at *
    by_cases h4:i2-a≥2
    ·rw[Aoq h4,Aoi (show(2:Int)≤((i2-a:Nat):Int) by omega)]
     simp only[AH8 a b i2 s (i2-1) d2 many (by omega) (by omega) (by omega)]
     have hsz2:=ACP (i2-1) d2
     generalize shiftDown ltX (i2-1) d2=d3 at *
     simp (disch:=omega) only[DX,AQ]
     by_cases h5:b-i2≥2
     ·rw[Aoq h5,Aoi (show(2:Int)≤((b-i2:Nat):Int) by omega)]
      simp only[ZA a b i2 s _ (i2+1) d3 many rfl (by omega) (by omega) (by omega) (by omega)]
      simp only[es]
      exact ih i2 (s+1) (shiftUp ltX b (i2+1) d3) n (by omega) (by omega) (by omega) (by rw[HP b (b-(i2+1)) (i2+1) _ rfl];omega) (by rw[HP b (b-(i2+1)) (i2+1) _ rfl];omega) (by omega)
     ·rw[Aor h5,Aog (show ¬ (2:Int)≤((b-i2:Nat):Int) by omega)]
      simp only[es]
      exact ih i2 (s+1) d3 n (by omega) (by omega) (by omega) (by omega) (by omega) (by omega)
    ·rw[Aor h4,Aog (show ¬ (2:Int)≤((i2-a:Nat):Int) by omega)]
     by_cases h5:b-i2≥2
     ·rw[Aoq h5,Aoi (show(2:Int)≤((b-i2:Nat):Int) by omega)]
      simp only[ZA a b i2 s _ (i2+1) d2 many rfl (by omega) (by omega) (by omega) (by omega)]
      simp only[es]
      exact ih i2 (s+1) (shiftUp ltX b (i2+1) d2) n (by omega) (by omega) (by omega) (by rw[HP b (b-(i2+1)) (i2+1) _ rfl];omega) (by rw[HP b (b-(i2+1)) (i2+1) _ rfl];omega) (by omega)
     ·rw[Aor h5,Aog (show ¬ (2:Int)≤((b-i2:Nat):Int) by omega)]
      simp only[es]
      exact ih i2 (s+1) d2 n (by omega) (by omega) (by omega) (by omega) (by omega) (by omega)
theorem AM8(d:Array (EL S))(a b:Nat)(hab:a<b)(hb:b≤d.size)(hs:d.size<4294967296):
  (NQ S.z S.c) ((rep d),(a:Int),(b:Int),())=some ((rep (partialInsertionSort ltX d a b).1),(partialInsertionSort ltX d a b).2,()):=by
 have hm:4294967296<many:=by simp only[many];omega
 rw[AR2,ID,partialInsertionSort]
 simp (disch:=omega) only[AQ,Av]
 have h:=AH7 a b hab 5 (a+1) 0 d many rfl (Aop _) (by omega) hb hs (by omega)
 rcases h with h|⟨h0,h⟩
 ·have h':Ab (CU S.z S.c) many ((rep d),(a:Int),(b:Int),((a+1:Nat):Int),(0:Int),())=_:=h
  rw[h']
 ·have h':Ab (CU S.z S.c) many ((rep d),(a:Int),(b:Int),((a+1:Nat):Int),(0:Int),())=_:=h
  rw[h',h0]
theorem Na(d:Array (EL S))(a b:Nat)(s:Int)(ha:a<d.size)(hb:b<d.size):
  ∃ s' p q,(LS S.z S.c) ((rep d),(a:Int),(b:Int),s,())=some ((rep d),s',((p:Nat):Int),((q:Nat):Int),())∧(p=a∧q=b∨p=b∧q=a):=by
 rw[AXl,Kd]
 simp only[A7 ha,A7 hb,Ba ha,Ba hb,CW,DT]
 cases ltX d[b]! d[a]!
 ·exact⟨_,a,b,rfl,.inl ⟨rfl,rfl⟩⟩
 ·exact⟨_,b,a,rfl,.inr ⟨rfl,rfl⟩⟩
theorem Nb(d:Array (EL S))(a b c:Nat)(s:Int)(ha:a<d.size)(hb:b<d.size)(hc:c<d.size):
  ∃ s' p,(La S.z S.c) ((rep d),(a:Int),(b:Int),(c:Int),s,())=some ((rep d),s',((p:Nat):Int),())∧(p=a∨p=b∨p=c):=by
 rw[AYC,Kf]
 obtain⟨s1,p1,q1,e1,h1⟩:=Na d a b s ha hb
 simp only[e1]
 obtain⟨s2,p2,q2,e2,h2⟩:=Na d q1 c s1 (by omega) hc
 simp only[e2]
 obtain⟨s3,p3,q3,e3,h3⟩:=Na d p1 p2 s2 (by omega) (by omega)
 simp only[e3]
 exact⟨_,q3,rfl,by omega⟩
theorem Nc(d:Array (EL S))(a:Nat)(s:Int)(h1:1≤a)(ha:a+1<d.size)(hs:d.size<4294967296):
  ∃ s' p,(Lb S.z S.c) ((rep d),(a:Int),s,())=some ((rep d),s',((p:Nat):Int),())∧a≤p+1∧p≤a+1:=by
 rw[AYF,Kg]
 simp (disch:=omega) only[BC,AQ]
 obtain⟨s1,p1,e1,h1⟩:=Nb d (a-1) a (a+1) s (by omega) (by omega) ha
 simp only[e1]
 exact⟨_,p1,rfl,by omega⟩
theorem AXD(d:Array (EL S))(a b:Nat)(hab:a+8≤b)(hb:b≤d.size)(hs:d.size<4294967296):
  ∃ p h,(ADe S.z S.c) ((rep d),(a:Int),(b:Int),())=some ((rep d),((p:Nat):Int),h,())∧a≤p∧p<b:=by
 rw[Ady,NP]
 simp (disch:=omega) only[DX,Aa9,AcN,Od,AcM,wrap_add,Ar]
 rw[Aoi (show(8:Int)≤((b-a:Nat):Int) by omega)]
 simp only[]
 by_cases h:50≤b-a
 ·rw[Aoi (show(50:Int)≤((b-a:Nat):Int) by omega)]
  simp only[]
  obtain⟨s1,p1,e1,h1⟩:=Nc d (a+(b-a)/4*1) 0 (by omega) (by omega) hs
  simp only[e1]
  obtain⟨s2,p2,e2,h2⟩:=Nc d (a+(b-a)/4*2) s1 (by omega) (by omega) hs
  simp only[e2]
  obtain⟨s3,p3,e3,h3⟩:=Nc d (a+(b-a)/4*3) s2 (by omega) (by omega) hs
  simp only[e3]
  obtain⟨s4,p4,e4,h4⟩:=Nb d p1 p2 p3 s3 (by omega) (by omega) (by omega)
  simp only[e4]
  cases ieq s4 0
  ·cases ieq s4 12
   ·exact⟨p4,_,rfl,by omega,by omega⟩
   ·exact⟨p4,_,rfl,by omega,by omega⟩
  ·exact⟨p4,_,rfl,by omega,by omega⟩
 ·rw[Aog (show ¬ (50:Int)≤((b-a:Nat):Int) by omega)]
  simp only[]
  obtain⟨s4,p4,e4,h4⟩:=Nb d (a+(b-a)/4*1) (a+(b-a)/4*2) (a+(b-a)/4*3) 0 (by omega) (by omega) (by omega)
  simp only[e4]
  cases ieq s4 0
  ·cases ieq s4 12
   ·exact⟨p4,_,rfl,by omega,by omega⟩
   ·exact⟨p4,_,rfl,by omega,by omega⟩
  ·exact⟨p4,_,rfl,by omega,by omega⟩
end Go.Pev.Pl.SG
end
section
namespace Go.Pev.Pl
open Go.Sort
theorem Ae2:(List.range 256).all (fun k=>match HA[k]? with
  |some v=>decide (0≤v)&&(decide (v≤8)&&decide (2 ^ v.toNat≤max 1 (2*k)))
  |none=>false)=true:=by decide +kernel
theorem Ae3{k:Nat}(h:k<256):∃ v:Nat,idx HA (k:Int)=some (v:Int)∧v≤8∧2 ^ v≤max 1 (2*k):=by
 have:=Ao2.1 Ae2 k (Apa.2 h)
 rw[idx_eq,Pe,Aor (by omega),Apb]
 cases e:HA[k]? with
 |none=>rw[e]at this;cases this
 |some v=>
  rw[e]at this
  simp only[Aol,Aok]at this
  exact⟨v.toNat,by rw[Int.toNat_of_nonneg this.1],by omega,this.2.2⟩
theorem AMQ(n s:Nat)(h:s≤64):shr? .u64 (n:Int) (s:Int)=some ((n/2 ^ s:Nat):Int):=by
 rw[ACQ,AAG,Aor (by omega),Apb,show min s (IntKind.bits .u64)=s from Aps h,ArV _ (Int.pow_nonneg (by omega))]
 rfl
theorem u8_in{n:Int}(h:0≤n∧n≤255):IntKind.wrap .u8 n=n:=IntWalk.u8_in n h
theorem u64_in{n:Int}(h:0≤n∧n≤18446744073709551615):IntKind.wrap .u64 n=n:=IntWalk.u64_in n h
theorem Ae4(n:Nat)(hn:n<4294967296):∃ v:Nat,ATG ((n:Int),())=some ((v:Int),())∧v≤32∧2 ^ v≤max 1 (2*n):=by
 rw[ATF,AAz,Ar,Aog (by omega)]
 simp only[Ar]
 have key:∀ (s m:Nat),s≤24→m<256→m*2 ^ s≤n→(s=0∨1≤m)→∃ v:Nat,idx HA (m:Int)=some (v:Int)∧v≤8∧2 ^ (s+v)≤max 1 (2*n):=by
  intro s m hs hm hle h1
  obtain⟨v,e,h8,hp⟩:=Ae3 hm
  refine⟨v,e,h8,?_⟩
  rcases h1 with rfl|h1
  ·rw[Aph];simp at hle;omega
  ·have h2:2 ^ v≤2*m:=by omega
   have h3:2 ^ (s+v)≤2*(m*2 ^ s):=by
    rw[Nat.pow_add,Nat.mul_comm (2 ^ s),← Nat.mul_assoc]
    exact Apd _ h2
   omega
 by_cases h1:65536≤n
 ·rw[Aoi (show(65536:Int)≤(n:Int) by omega)]
  have e16:shr? .u64 (n:Int) 16=some ((n/65536:Nat):Int):=AMQ n 16 (by omega)
  simp only[e16]
  by_cases h2:256≤n/65536
  ·rw[Aoi (show(256:Int)≤((n/65536:Nat):Int) by omega)]
   have e8:shr? .u64 ((n/65536:Nat):Int) 8=some ((n/65536/256:Nat):Int):=AMQ _ 8 (by omega)
   obtain⟨v,e,h8,hp⟩:=key 24 (n/65536/256) (by omega) (by omega) (by omega) (by omega)
   simp only[e8]
   rw[u8_in (by omega)]
   simp only[e]
   refine⟨24+v,?_,by omega,hp⟩
   rw[Ai (n:=0+16) (by omega),Ai (n:=(0:Int)+16+8) (by omega),Ai (n:=(v:Int)) (by omega),Ai (by omega)]
   congr 2
  ·rw[Aog (show ¬ (256:Int)≤((n/65536:Nat):Int) by omega)]
   obtain⟨v,e,h8,hp⟩:=key 16 (n/65536) (by omega) (by omega) (by omega) (by omega)
   simp only[]
   rw[u8_in (by omega)]
   simp only[e]
   refine⟨16+v,?_,by omega,hp⟩
   rw[Ai (n:=0+16) (by omega),Ai (n:=(v:Int)) (by omega),Ai (by omega)]
   congr 2
 ·rw[Aog (show ¬ (65536:Int)≤(n:Int) by omega)]
  by_cases h2:256≤n
  ·have e8:shr? .u64 (n:Int) 8=some ((n/256:Nat):Int):=AMQ n 8 (by omega)
   obtain⟨v,e,h8,hp⟩:=key 8 (n/256) (by omega) (by omega) (by omega) (by omega)
   simp only[]
   rw[Aoi (show(256:Int)≤(n:Int) by omega)]
   simp only[e8]
   rw[u8_in (by omega)]
   simp only[e]
   refine⟨8+v,?_,by omega,hp⟩
   rw[Ai (n:=0+8) (by omega),Ai (n:=(v:Int)) (by omega),Ai (by omega)]
   congr 2
  ·obtain⟨v,e,h8,hp⟩:=key 0 n (by omega) (by omega) (by omega) (by omega)
   simp only[]
   rw[Aog (show ¬ (256:Int)≤(n:Int) by omega)]
   simp only[]
   rw[u8_in (by omega)]
   simp only[e]
   refine⟨0+v,?_,by omega,hp⟩
   rw[Ai (n:=(v:Int)) (by omega),Ai (by omega)]
   congr 2
theorem Zk(n:Nat)(hn:n<4294967296):∃ v:Nat,bitsLen ((n:Int),())=some ((v:Int),())∧v≤32∧2 ^ v≤max 1 (2*n):=by
 rw[AGu,PN]
 obtain⟨v,e,h⟩:=Ae4 n hn
 simp only[e]
 exact⟨v,rfl,h⟩
theorem ASk(n:Nat)(h1:1≤n)(hn:n<4294967296):∃ m:Nat,Sh ((n:Int),())=some ((m:Int),())∧1≤m∧m≤2*n:=by
 rw[AEX,O5,u64_in (by omega)]
 obtain⟨v,e,h32,hp⟩:=Zk n hn
 simp only[e]
 have e2:shl? .u64 (1:Int) (v:Int)=some ((2 ^ v:Nat):Int):=by
  rw[AMR,ACR,Aor (by omega),Apb,show min v (IntKind.bits .u64)=v from Aps (by show v≤64;omega),Int.one_mul]
  have:2 ^ v≤2 ^ 32:=Nat.pow_le_pow_right (by omega) h32
  have h1:1≤2 ^ v:=Nat.one_le_two_pow
  have e:((2:Int) ^ v)=((2 ^ v:Nat):Int):=by simp
  rw[e,u64_in (by constructor<;>omega)]
 simp only[e2]
 exact⟨2 ^ v,rfl,Nat.one_le_two_pow,by omega⟩
theorem APd(r:Int):∃ r' y,xorNext (r,())=some (r',y,()):=by
 rw[ABG,Oc,AMR,ACR,Aor (by omega)]
 simp only[]
 rw[ACQ,AAG,Aor (by omega)]
 simp only[]
 rw[AMR,ACR,Aor (by omega)]
 exact⟨_,_,rfl⟩
theorem Aic(y:Int)(m:Nat)(h1:1≤m)(hm:m<18446744073709551616):∃ o:Nat,IntKind.wrap .u64 ((BitVec.ofInt (IntKind.bits .u64) y &&& BitVec.ofInt (IntKind.bits .u64) (IntKind.wrap .u64 ((m:Int)-1))).toNat)=(o:Int)∧o<m:=by
 rw[u64_in (n:=(m:Int)-1) (by omega),show(m:Int)-1=((m-1:Nat):Int) by omega,BitVec.toNat_and]
 have h2:(BitVec.ofInt (IntKind.bits .u64) ((m-1:Nat):Int)).toNat=m-1:=by
  rw[BitVec.ofInt_natCast,BitVec.toNat_ofNat]
  exact Apt (by show m-1<18446744073709551616;omega)
 rw[h2]
 have h3:(BitVec.ofInt (IntKind.bits .u64) y).toNat &&& (m-1)≤m-1:=Nat.and_le_right
 exact⟨_,u64_in (by omega),by omega⟩
end Go.Pev.Pl
end
section
namespace Go.Pev.Pl.SG
open Go.Sort
variable {α:Type} {S:SP α}
theorem AUa(a b:Nat)(m:Nat)(h8:a+8≤b)(hm1:1≤m)(hm:m≤2*(b-a)):∀ (k t:Nat) (d:Array (EL S)) (r:Int) (n:Nat),t+k=3→b≤d.size→d.size<4294967296→k<n →
  ∃ d':Array (EL S),Ab (GO S.z S.c) n ((rep d),(a:Int),((b-a:Nat):Int),r,(m:Int),((a+(b-a)/4*2-1+t:Nat):Int),())=some (.inl ((rep d'),()))∧PermIn a b d d':=by
 intro k
 induction k with
 |zero=>
  intro t d r n hk hb hs hn
  obtain⟨n,rfl⟩:∃ k,n=k+1:=⟨n-1,by omega⟩
  rw[Ab,GO]
  simp (disch:=omega) only[Aa9,Od,wrap_add,AQ,Cg]
  rw[Aog (by omega)]
  exact⟨d,rfl,permIn_refl d a b⟩
 |succ k ih=>
  intro t d r n hk hb hs hn
  obtain⟨n,rfl⟩:∃ k,n=k+1:=⟨n-1,by omega⟩
  rw[Ab,GO]
  simp (disch:=omega) only[Aa9,Od,wrap_add,AQ,Cg]
  rw[Aoi (show a+(b-a)/4*2-1+t≤a+(b-a)/4*2+1 by omega)]
  obtain⟨r',y,e⟩:=APd r
  obtain⟨o,e2,ho⟩:=Aic y m hm1 (by omega)
  simp only[e,e2]
  rw[Ai (n:=(o:Int)) (by omega)]
  simp only[Cg]
  have i0:a+(b-a)/4*2-1+t<d.size:=by omega
  have fin:∀ q:Nat,a≤q→q<b→∃ d':Array (EL S),Ab (GO S.z S.c) n ((rep (swp d (a+(b-a)/4*2-1+t) q)),(a:Int),((b-a:Nat):Int),r',(m:Int),((a+(b-a)/4*2-1+t+1:Nat):Int),())=some (.inl ((rep d'),()))∧PermIn a b d d':=by
   intro q hq1 hq2
   obtain⟨d',e',hp⟩:=ih (t+1) (swp d (a+(b-a)/4*2-1+t) q) r' n (by omega) (by rw[size_swp];omega) (by rw[size_swp];omega) (by omega)
   exact⟨d',e',permIn_trans _ _ _ a b (swp_permIn d a b _ q (by omega) (by omega) hq1 hq2 hb) hp⟩
  by_cases h:b-a≤o
  ·have i1:a+(o-(b-a))<d.size:=by omega
   simp (disch:=omega) only[h,Aow,DX,wrap_add,AQ,A7 i0,A7 i1,(EC i0 i1).1,(EC i0 i1).2]
   exact fin _ (by omega) (by omega)
  ·have i1:a+o<d.size:=by omega
   simp (disch:=omega) only[h,Ao9,DX,wrap_add,AQ,A7 i0,A7 i1,(EC i0 i1).1,(EC i0 i1).2]
   exact fin _ (by omega) (by omega)
theorem AaA(d:Array (EL S))(a b:Nat)(hab:a≤b)(hb:b≤d.size)(hs:d.size<4294967296):
  ∃ d':Array (EL S),(AGo S.z S.c) ((rep d),(a:Int),(b:Int),())=some ((rep d'),())∧PermIn a b d d':=by
 have hm:4294967296<many:=by simp only[many];omega
 rw[Af3,OI]
 simp (disch:=omega) only[DX,Ar]
 by_cases h:8≤b-a
 ·rw[Aoi (show(8:Int)≤((b-a:Nat):Int) by omega)]
  obtain⟨m,e,h1,h2⟩:=ASk (b-a) (by omega) (by omega)
  simp only[e]
  rw[u64_in (n:=((b-a:Nat):Int)) (by omega)]
  simp (disch:=omega) only[Aa9,Od,wrap_add,BC,Av]
  obtain⟨d',e2,hp⟩:=AUa a b m (by omega) h1 h2 3 0 d ((b-a:Nat):Int) many rfl hb hs (by omega)
  rw[Ap5]at e2
  simp only[e2]
  exact⟨d',rfl,hp⟩
 ·rw[Aog (show ¬ (8:Int)≤((b-a:Nat):Int) by omega)]
  exact⟨d,rfl,permIn_refl d a b⟩
end Go.Pev.Pl.SG
end
section
namespace Go.Pev.Pl.SG
open Go.Sort
variable {α:Type} {S:SP α}
abbrev AoR(α:Type):=List α×Int×Int×Int×Bool×Bool×Unit
abbrev AcC(α:Type):=AoR α⊕(List α×Unit)⊕Unit
def AG0(d:Array (EL S))(a b:Nat):AcC α→Prop
 |.inl (xs,x,y,l,_,_,_)=>∃ (e:Array (EL S)) (i j:Nat),xs=(rep e)∧x=(i:Int)∧y=(j:Int)∧0≤l∧l≤100∧i≤j∧j≤e.size∧e.size=d.size∧j-i<b-a∧Below ltX i j e ∧
   ∀ R,PermIn i j e R→SortedIn ltX i j R→PermIn a b d R∧SortedIn ltX a b R
 |.inr (.inl (xs,_))=>∃ R:Array (EL S),xs=(rep R)∧PermIn a b d R∧SortedIn ltX a b R
 |.inr (.inr _)=>False
def Fh(self:(List α×Int×Int×Int×Unit)→Option ((List α×Unit)))(m:Nat):Prop:=
 ∀ (d:Array (EL S)) (a b:Nat) (l:Int),a≤b→b≤d.size→d.size<4294967296→0≤l→l≤100→Below ltX a b d→2*(b-a)<m →
  ∃ R:Array (EL S),self ((rep d),(a:Int),(b:Int),l,())=some ((rep R),())∧PermIn a b d R∧SortedIn ltX a b R
section
variable {self:(List α×Int×Int×Int×Unit)→Option ((List α×Unit))} {d:Array (EL S)} {a b:Nat} {l:Int}
theorem ARX(hself:Fh (S:=S) self (b-a))(hb:b≤d.size)(hs:d.size<4294967296)(hl:0≤l∧l≤100)
  {d3:Array (EL S)} {p:Nat} (P3:PermIn a b d d3) (B3:Below ltX a b d3) (hp1:a≤p) (hp2:p<b) :
  ∃ o,(match(AD8 S.z S.c) ((rep d3),(a:Int),(b:Int),(p:Int),())with
  |none=>none
  |some (y20,y21,y22,_)=>match quo? .i64 (IntKind.wrap .i64 ((b:Int)-(a:Int))) (8:Int)with
   |none=>none
   |some x23=>match(ilt (IntKind.wrap .i64 (y21-(a:Int))) (IntKind.wrap .i64 ((b:Int)-y21)))with
    |true=>match self (y20,(a:Int),y21,l,())with
     |none=>none
     |some (y24,_)=>some ((.inl (y24,(IntKind.wrap .i64 (y21+(1:Int))),(b:Int),l,(ile x23 (IntKind.wrap .i64 (y21-(a:Int)))),y22,())):AcC α)
    |false=>match self (y20,(IntKind.wrap .i64 (y21+(1:Int))),(b:Int),l,())with
     |none=>none
     |some (y25,_)=>some (.inl (y25,(a:Int),y21,l,(ile x23 (IntKind.wrap .i64 ((b:Int)-y21))),y22,())))=some o∧AG0 d a b o:=by
 have b3:b≤d3.size:=by rw[P3.1];exact hb
 have s3:d3.size<4294967296:=by rw[P3.1];exact hs
 rw[Ad9 d3 a b p hp1 hp2 b3 s3]
 rcases hx:partition ltX d3 a b p with⟨mid,ap,d4⟩
 obtain⟨g1,g2,hs4,hBa,hBr,hleft,hright⟩:=round_part Ag9 (partition_holds _) hp1 hp2 b3 B3 hx
 simp (disch:=omega) only[DX,AQ,AoH,AP]
 have b4:b≤d4.size:=by omega
 by_cases h:mid-a<b-mid
 ·obtain⟨L,e,l1,l2⟩:=hself d4 a mid l g1 (by omega) (by omega) hl.1 hl.2 hBa (by omega)
  simp only[h,Aow,e]
  obtain⟨hBL,hfin⟩:=hleft _ l1 l2
  refine⟨_,rfl,L,mid+1,b,rfl,rfl,rfl,hl.1,hl.2,by omega,by rw[l1.1];exact b4,by rw[l1.1,hs4,P3.1],by omega,hBL,fun R r1 r2 => ?_⟩
  obtain⟨q1,q2⟩:=hfin R r1 r2
  exact⟨permIn_trans _ _ _ a b P3 q1,q2⟩
 ·obtain⟨L,e,l1,l2⟩:=hself d4 (mid+1) b l (by omega) (by omega) (by omega) hl.1 hl.2 hBr (by omega)
  simp only[h,Ao9,e]
  obtain⟨hBL,hfin⟩:=hright _ l1 l2
  refine⟨_,rfl,L,a,mid,rfl,rfl,rfl,hl.1,hl.2,by omega,by rw[l1.1];omega,by rw[l1.1,hs4,P3.1],by omega,hBL,fun R r1 r2 => ?_⟩
  obtain⟨q1,q2⟩:=hfin R r1 r2
  exact⟨permIn_trans _ _ _ a b P3 q1,q2⟩
theorem SZ(hself:Fh (S:=S) self (b-a))(hb:b≤d.size)(hs:d.size<4294967296)(hl:0≤l∧l≤100)
  {d3:Array (EL S)} {p:Nat} (wb wp:Bool) (P3:PermIn a b d d3) (B3:Below ltX a b d3) (hp1:a≤p) (hp2:p<b) :
  ∃ o,(Wa S.z S.c) self (rep d3) (a:Int) (b:Int) (p:Int) l wb wp=some o∧AG0 d a b o:=by
 have b3:b≤d3.size:=by rw[P3.1];exact hb
 have s3:d3.size<4294967296:=by rw[P3.1];exact hs
 rw[Wa,Af]
 by_cases h0:0<a
 ·rw[Aoi (by omega)]
  have i0:a-1<d3.size:=by omega
  have i1:p<d3.size:=by omega
  simp (disch:=omega) only[BC,A7,Ba,CW,DT]
  cases hc:ltX d3[a-1]! d3[p]!
  ·simp only[ApR]
   rw[ASH d3 a b p hp1 hp2 b3 s3]
   rcases hx:partitionEqual ltX d3 a b p with⟨mid,d4⟩
   obtain⟨hm1,hm2,hs4,hB4,hfin⟩:=round_eq Ag9 (partitionEqual_holds _) h0 hp1 hp2 b3 B3 hc hx
   refine⟨_,rfl,d4,mid,b,rfl,rfl,rfl,hl.1,hl.2,by omega,by omega,by rw[hs4,P3.1],by omega,hB4,fun R r1 r2 => ?_⟩
   obtain⟨q1,q2⟩:=hfin R r1 r2
   exact⟨permIn_trans _ _ _ a b P3 q1,q2⟩
  ·simp only[Aov]
   exact ARX hself hb hs hl P3 B3 hp1 hp2
 ·rw[Aog (by omega)]
  exact ARX hself hb hs hl P3 B3 hp1 hp2
theorem AbC(hself:Fh (S:=S) self (b-a))(hab:a<b)(hb:b≤d.size)(hs:d.size<4294967296)(hl:0≤l∧l≤100)
  {d3:Array (EL S)} {p:Nat} (h:Int) (wb wp:Bool) (P3:PermIn a b d d3) (B3:Below ltX a b d3) (hp1:a≤p) (hp2:p<b) :
  ∃ o,(AM2 S.z S.c) self (rep d3) (a:Int) (b:Int) (p:Int) h l wb wp=some o∧AG0 d a b o:=by
 have b3:b≤d3.size:=by rw[P3.1];exact hb
 have s3:d3.size<4294967296:=by rw[P3.1];exact hs
 unfold AM2
 cases wb
 ·exact SZ hself hb hs hl _ _ P3 B3 hp1 hp2
 ·cases wp
  ·exact SZ hself hb hs hl _ _ P3 B3 hp1 hp2
  ·simp only[]
   cases ieq h 1
   ·exact SZ hself hb hs hl _ _ P3 B3 hp1 hp2
   ·simp only[]
    rw[AM8 d3 a b hab b3 s3]
    obtain⟨q1,q2⟩:=partialInsertionSort_holds (lt:=ltX) Ag9 d3 a b hab b3 B3
    rcases hx:partialInsertionSort ltX d3 a b with⟨d4,fin⟩
    rw[hx]at q1 q2
    have P4:PermIn a b d d4:=permIn_trans _ _ _ a b P3 q1
    cases fin
    ·exact SZ hself hb hs hl _ _ P4 (B3.perm b3 q1) hp1 hp2
    ·exact⟨_,rfl,d4,rfl,P4,q2 rfl⟩
theorem AbB(hself:Fh (S:=S) self (b-a))(hab:a+8≤b)(hb:b≤d.size)(hs:d.size<4294967296)(hl:0≤l∧l≤100)
  {d3:Array (EL S)} (wb wp:Bool) (P3:PermIn a b d d3) (B3:Below ltX a b d3) :
  ∃ o,(AM1 S.z S.c) self (rep d3) (a:Int) (b:Int) l wb wp=some o∧AG0 d a b o:=by
 have b3:b≤d3.size:=by rw[P3.1];exact hb
 have s3:d3.size<4294967296:=by rw[P3.1];exact hs
 rw[AM1]
 obtain⟨p,h,e,hp1,hp2⟩:=AXD d3 a b hab b3 s3
 simp only[e]
 cases ieq h 2
 ·exact AbC hself (by omega) hb hs hl h _ _ P3 B3 hp1 hp2
 ·simp only[Aho d3 a b (by omega) b3 s3]
  have q1:=reverseRange_holds (α:=(EL S)) d3 a b (by omega) b3
  simp (disch:=omega) only[BC,DX]
  exact AbC hself (by omega) hb hs hl 1 _ _ (permIn_trans _ _ _ a b P3 q1) (B3.perm b3 q1) (by omega) (by omega)
theorem Ad4(hself:Fh (S:=S) self (b-a))(hab:a≤b)(hb:b≤d.size)(hs:d.size<4294967296)(hl:0≤l∧l≤100)(wb wp:Bool)(B:Below ltX a b d):
  ∃ o,(O4 S.z S.c) self ((rep d),(a:Int),(b:Int),l,wb,wp,())=some o∧AG0 d a b o:=by
 rw[O4]
 simp (disch:=omega) only[DX,Ar,B4]
 by_cases h12:b-a≤12
 ·rw[Aoi (show((b-a:Nat):Int)≤12 by omega)]
  simp only[AjC d a b hab hb hs]
  obtain⟨q1,q2⟩:=insertionSort_holds (lt:=ltX) Ag9 d a b hab hb
  exact⟨_,rfl,_,rfl,q1,q2⟩
 ·rw[Aog (show ¬ ((b-a:Nat):Int)≤12 by omega)]
  simp only[]
  by_cases h0:l=0
  ·subst h0
   simp only[BEq.rfl,AfK d a b (by omega) hb hs]
   obtain⟨q1,q2⟩:=heapSort_holds (lt:=ltX) Ag9 d a b hab hb
   exact⟨_,rfl,_,rfl,q1,q2⟩
  ·rw[show(l==0)=false by simpa using h0]
   simp only[]
   cases wb
   ·obtain⟨d',e,q1⟩:=AaA d a b hab hb hs
    simp only[ApR,e]
    rw[Ai (by omega)]
    exact AbB hself (by omega) hb hs (by omega) _ _ q1 (B.perm hb q1)
   ·simp only[Aov]
    exact AbB hself (by omega) hb hs hl _ _ (permIn_refl d a b) B
end
theorem ARY{self:(List α×Int×Int×Int×Unit)→Option ((List α×Unit))}{m:Nat}(hself:Fh (S:=S) self m):∀ (k:Nat) (d:Array (EL S)) (a b:Nat) (l:Int) (wb wp:Bool) (n:Nat),b-a=k→k≤m→a≤b→b≤d.size→d.size<4294967296→0≤l→l≤100→Below ltX a b d→k<n →
  ∃ R:Array (EL S),Ab ((O4 S.z S.c) self) n ((rep d),(a:Int),(b:Int),l,wb,wp,())=some (.inl ((rep R),()))∧PermIn a b d R∧SortedIn ltX a b R:=by
 intro k
 induction k using Nat.strongRecOn with
 |_ k ih=>
 intro d a b l wb wp n hk hm hab hb hs hl1 hl2 B hn
 obtain⟨n,rfl⟩:∃ k,n=k+1:=⟨n-1,by omega⟩
 have hself':Fh (S:=S) self (b-a):=fun d a' b' l h1 h2 h3 h4 h5 h6 h7=>hself d a' b' l h1 h2 h3 h4 h5 h6 (by omega)
 obtain⟨o,e,ho⟩:=Ad4 hself' hab hb hs ⟨hl1,hl2⟩ wb wp B
 rw[Ab,e]
 match o,ho with
 |.inl (xs,x,y,l',wb',wp',_),ho=>
  obtain⟨e',i,j,rfl,rfl,rfl,g1,g2,g3,g4,g5,g6,g7,hfin⟩:=ho
  obtain⟨R,e2,r1,r2⟩:=ih (j-i) (by omega) e' i j l' wb' wp' n rfl (by omega) g3 g4 (by omega) g1 g2 g7 (by omega)
  exact⟨R,e2,hfin R r1 r2⟩
 |.inr (.inl (xs,_)),ho=>
  obtain⟨R,rfl,r1,r2⟩:=ho
  exact⟨R,rfl,r1,r2⟩
theorem Ad5:∀ k:Nat,Fh (S:=S) ((LR S.z S.c) (k+1)) (2 ^ k):=by
 intro k
 have hmany:4294967296<many:=by simp only[many];omega
 induction k with
 |zero=>
  intro d a b l h1 h2 h3 h4 h5 h6 h7
  have:Fh (S:=S) ((LR S.z S.c) 0) 0:=fun _ _ _ _ _ _ _ _ _ _ h=>by omega
  obtain⟨R,e,r1,r2⟩:=ARY this (b-a) d a b l true true many rfl (by omega) h1 h2 h3 h4 h5 h6 (by omega)
  refine⟨R,?_,r1,r2⟩
  rw[LR,ADr]
  simp only[Av,e]
 |succ k ih=>
  intro d a b l h1 h2 h3 h4 h5 h6 h7
  have hp:2 ^ (k+1)=2*2 ^ k:=by rw[Nat.pow_succ];omega
  obtain⟨R,e,r1,r2⟩:=ARY ih (b-a) d a b l true true many rfl (by omega) h1 h2 h3 h4 h5 h6 (by omega)
  refine⟨R,?_,r1,r2⟩
  rw[LR,ADr]
  simp only[Av,e]
theorem ND{α:Type}(S:SP α)(xs:List α)(h:xs.length<4294967296)(hok:∀ x∈xs,S.ok x):∃ ys,(Aao S.z S.c) (xs,())=some (ys,())∧ys.Perm xs∧ys.Pairwise fun x y=>S.lt y x=false:=by
 obtain⟨d,rfl⟩:∃ d:Array (EL S),xs=rep d:=by
  refine⟨(xs.attach.map fun x=>⟨x.val,hok x.val x.property⟩).toArray,?_⟩
  simp only[rep,List.map_map]
  exact(List.attach_map_subtype_val xs).symm
 have hl:(rep d).length=d.size:=by simp[rep]
 rw[hl]at h
 rw[AhK,R9]
 rw[Ab5,u64_in (by omega)]
 obtain⟨v,e,hv,_⟩:=Zk d.size h
 simp only[e]
 obtain⟨R,e2,r1,r2⟩:=Ad5 99 d 0 d.size (v:Int) (by omega) (by omega) h (by omega) (by omega) (.inl rfl) (by
  have:2 ^ 99=633825300114114700748351602688:=by decide
  omega)
 have e3:(Ah9 S.z S.c) (rep d,(0:Int),(d.size:Int),(v:Int),())=some (rep R,()):=by rw[Ale];exact e2
 refine⟨rep R,by simp only[e3],?_,?_⟩
 ·obtain⟨hsz,_,hp⟩:=r1
  have e1:R.extract 0 d.size=R:=by rw[← hsz];exact Array.extract_size
  rw[e1,Array.extract_size]at hp
  exact hp.map _
 ·rw[rep,Aqa,AqI]
  intro i j hi hj hij
  have hi':i<R.size:=by simpa using hi
  have hj':j<R.size:=by simpa using hj
  have:=r2 i j (Arm _) hij (by rw[← r1.1];omega)
  rw[getElem!_pos R j hj',getElem!_pos R i hi']at this
  simpa [ltX]using this
end Go.Pev.Pl.SG
end
section
namespace Go.Pev.Pl.SL
open Go.Sort
def ok(l:List Int):Prop:=l≠[]
def okz:List Int:=[0]
theorem Wn:ok okz:=by simp[ok,okz]
def lt(x y:List Int):Bool:=ltInt (x.headD 0) (y.headD 0)
theorem swo:SWO lt:=⟨fun x=>swo_ltInt.irrefl _,fun x y z=>swo_ltInt.trans _ _ _,fun x y z=>swo_ltInt.ntrans _ _ _⟩
theorem Xr{x y:List Int}(hx:ok x)(hy:ok y):∃ c,BP (x,y,())=some (c,())∧ilt c (0:Int)=lt x y:=by
 cases x with
 |nil=>exact absurd rfl hx
 |cons a x=>
  cases y with
  |nil=>exact absurd rfl hy
  |cons b y=>
   rw[APi,AAl]
   have i1:idx (a::x) (0:Int)=some a:=by rw[idx_eq];rfl
   have i2:idx (b::y) (0:Int)=some b:=by rw[idx_eq];rfl
   simp only[i1,i2,G2,Eg,LX,LY]
   simp only[B4,Af,lt,Arb,ltInt]
   by_cases h:a<b
   ·simp[h]
   ·by_cases h2:b<a
    ·simp[h,h2]
    ·simp[h,h2]
noncomputable def S:SG.SP (List Int):=⟨([]:List (Int)),BP,ok,okz,Wn,lt,swo,fun h1 h2=>Xr h1 h2⟩
theorem ND(xs:List (List Int))(h:xs.length<4294967296)(hok:∀ x∈xs,ok x):∃ ys,AQX (xs,())=some (ys,())∧ys.Perm xs∧ys.Pairwise fun x y=>lt y x=false:=SG.ND S xs h hok
end Go.Pev.Pl.SL
end
end
section
namespace Go.Pev.Pl
abbrev Edge:=Int×Int×Unit
inductive Con(l:List Edge):Int→Int→Prop
 |refl (a:Int):Con l a a
 |edge (e:Edge):e∈l→Con l e.1 e.2.1
 |symm {a b:Int}:Con l a b→Con l b a
 |trans {a b c:Int}:Con l a b→Con l b c→Con l a c
theorem Con.mono{l l':List Edge}(h:∀ e∈l,∃ e'∈l',(e'.1=e.1∧e'.2.1=e.2.1)∨(e'.1=e.2.1∧e'.2.1=e.1)){a b:Int}(c:Con l a b):Con l' a b:=by
 induction c with
 |refl a=>exact .refl a
 |edge e he=>
  obtain⟨e',h1,h2|h2⟩:=h e he
  ·have:=Con.edge e' h1
   rw[h2.1,h2.2]at this
   exact this
  ·have:=Con.edge e' h1
   rw[h2.1,h2.2]at this
   exact this.symm
 |symm _ ih=>exact ih.symm
 |trans _ _ ih1 ih2=>exact ih1.trans ih2
theorem Con.snoc{l:List Edge}{e:Edge}{a b:Int}:Con (l++[e]) a b↔Con l a b∨(Con l a e.1∧Con l e.2.1 b)∨(Con l a e.2.1∧Con l e.1 b):=by
 constructor
 ·intro h
  induction h with
  |refl a=>exact .inl (.refl a)
  |edge e' he=>
   rcases Aom.1 he with h|h
   ·exact .inl (.edge e' h)
   ·simp only[ApB]at h
    subst h
    exact .inr (.inl ⟨.refl _,.refl _⟩)
  |symm _ ih=>
   rcases ih with h|⟨h1,h2⟩|⟨h1,h2⟩
   ·exact .inl h.symm
   ·exact .inr (.inr ⟨h2.symm,h1.symm⟩)
   ·exact .inr (.inl ⟨h2.symm,h1.symm⟩)
  |trans _ _ ih1 ih2=>
   rcases ih1 with h|⟨h1,h2⟩|⟨h1,h2⟩
   ·rcases ih2 with g|⟨g1,g2⟩|⟨g1,g2⟩
    ·exact .inl (h.trans g)
    ·exact .inr (.inl ⟨h.trans g1,g2⟩)
    ·exact .inr (.inr ⟨h.trans g1,g2⟩)
   ·rcases ih2 with g|⟨g1,g2⟩|⟨g1,g2⟩
    ·exact .inr (.inl ⟨h1,h2.trans g⟩)
    ·exact .inr (.inl ⟨h1,g2⟩)
    ·exact .inl (h1.trans g2)
   ·rcases ih2 with g|⟨g1,g2⟩|⟨g1,g2⟩
    ·exact .inr (.inr ⟨h1,h2.trans g⟩)
    ·exact .inl (h1.trans g2)
    ·exact .inr (.inr ⟨h1,g2⟩)
 ·have up:∀ {x y},Con l x y→Con (l++[e]) x y:=fun h=>h.mono fun e' he=>⟨e',by simp[he],.inl ⟨rfl,rfl⟩⟩
  have he:Con (l++[e]) e.1 e.2.1:=.edge e (by simp)
  rintro (h|⟨h1,h2⟩|⟨h1,h2⟩)
  ·exact up h
  ·exact(up h1).trans (he.trans (up h2))
  ·exact(up h1).trans (he.symm.trans (up h2))
theorem Con.nil{a b:Int}(h:Con [] a b):a=b:=by
 induction h with
 |refl a=>rfl
 |edge e he=>cases he
 |symm _ ih=>exact ih.symm
 |trans _ _ ih1 ih2=>exact ih1.trans ih2
theorem Con.within{l:List Edge}{I:Int→Prop}(h:∀ e∈l,I e.1∧I e.2.1){a b:Int}(c:Con l a b):a=b∨(I a∧I b):=by
 induction c with
 |refl a=>exact .inl rfl
 |edge e he=>exact .inr (h e he)
 |symm _ ih=>
  rcases ih with h|h
  ·exact .inl h.symm
  ·exact .inr ⟨h.2,h.1⟩
 |trans _ _ ih1 ih2=>
  rcases ih1 with rfl|h1
  ·exact ih2
  ·rcases ih2 with rfl|h2
   ·exact .inr h1
   ·exact .inr ⟨h1.1,h2.2⟩
theorem Con.const{l:List Edge}{f:Int→Int}(h:∀ e∈l,f e.1=f e.2.1){a b:Int}(c:Con l a b):f a=f b:=by
 induction c with
 |refl a=>rfl
 |edge e he=>exact h e he
 |symm _ ih=>exact ih.symm
 |trans _ _ ih1 ih2=>exact ih1.trans ih2
end Go.Pev.Pl
end
section
section
namespace Go.Pev.Pl
open Tok
def Cq{α:Type}(P:Nat→Bool):Nat→List α→List α
 |_,[]=>[]
 |i,x::xs=>if P i then Cq P (i+1) xs else x::Cq P (i+1) xs
theorem AT7{α:Type}(P:Nat→Bool):∀ (xs:List α) (s:Nat),(∀ k,s≤k→P k=false)→Cq P s xs=xs:=by
 intro xs
 induction xs with
 |nil=>intro s _;rfl
 |cons x xs ih=>
  intro s h
  rw[Cq,h s (Aop _),ih (s+1) fun k hk=>h k (by omega)]
  rfl
theorem AZW{α:Type}(P:Nat→Bool)(i:Nat):∀ (xs:List α) (s:Nat),s≤i→(∀ k,s≤k→P k=decide (k=i))→Cq P s xs=xs.eraseIdx (i-s):=by
 intro xs
 induction xs with
 |nil=>intro s _ _;rfl
 |cons x xs ih=>
  intro s hs h
  rw[Cq,h s (Aop _)]
  by_cases e:s=i
  ·subst e
   rw[AT7 P xs (s+1) fun k hk=>by rw[h k (by omega)];simp;omega]
   simp
  ·rw[ih (s+1) (by omega) fun k hk=>h k (by omega)]
   rw[Aog e,Aor (by simp),show i-s=(i-(s+1))+1 by omega,ArB]
theorem L9{α:Type}(P:Nat→Bool)(i j:Nat)(hij:i<j):∀ (xs:List α) (s:Nat),s≤i→(∀ k,s≤k→P k=decide (k=i∨k=j))→Cq P s xs=(xs.eraseIdx (j-s)).eraseIdx (i-s):=by
 intro xs
 induction xs with
 |nil=>intro s _ _;rfl
 |cons x xs ih=>
  intro s hs h
  rw[Cq,h s (Aop _)]
  by_cases e:s=i
  ·subst e
   rw[AZW P j xs (s+1) (by omega) fun k hk=>by rw[h k (by omega)];exact Aqj.2 ⟨fun q=>by omega,fun q=>.inr q⟩]
   rw[Aoi (.inl rfl),Aoq rfl,show j-s=(j-(s+1))+1 by omega,ArB,AqP,List.eraseIdx_zero]
   rfl
  ·rw[ih (s+1) (by omega) fun k hk=>h k (by omega)]
   rw[Aog (by omega),Aor (by simp),show j-s=(j-(s+1))+1 by omega,ArB,show i-s=(i-(s+1))+1 by omega,ArB]
theorem AT8{α:Type}(P:Nat→Bool):∀ (xs:List α) (acc:List α) (k:Nat),(xs.foldl (fun(a:List α×Nat) x=>(if P a.2 then a.1 else a.1++[x],a.2+1)) (acc,k)).1=acc++Cq P k xs:=by
 intro xs
 induction xs with
 |nil=>intro acc k;simp[Cq]
 |cons x xs ih=>
  intro acc k
  rw[ApY,ih,Cq]
  cases P k<;>simp
theorem AZX{α:Type}(P:Nat→Bool):∀ (xs:List α) (k:Nat),(Cq P k xs).length≤xs.length∧∀ x∈Cq P k xs,x∈xs:=by
 intro xs
 induction xs with
 |nil=>intro k;simp[Cq]
 |cons x xs ih=>
  intro k
  obtain⟨h1,h2⟩:=ih (k+1)
  rw[Cq]
  split
  ·exact⟨by simp only[Aot];omega,fun y hy=>Ao7 _ (h2 y hy)⟩
  ·refine⟨by simp only[Aot];omega,fun y hy => ?_⟩
   rcases Aoo.1 hy with rfl|hy
   ·simp
   ·exact Ao7 _ (h2 y hy)
theorem AI7(n:Int)(rings:List (List Int))(away:List Int)(come:List (List Int))(hlen:rings.length<1073741824)(ha:away.length<1073741824)(hc:come.length<1073741824)
  (hne:∀ l∈rings,l≠[]) (hce:∀ r∈come,plain r≠[]) :
  ∃ ys,APv ((n,(rings,())),away,come,())=some (n,ys,())∧ys.Perm (Cq (fun k=>decide ((k:Int)∈away)) 0 rings++come.map plain)∧ys.Pairwise (fun a b=>¬ hd b<hd a):=by
 rw[APu,AAm]
 have e:=Bx (step:=Hu) (fun i (a:List (List Int)×Nat)=>(away,come,n,rings,(0:Int),a.1,rings,AK rings,(i:Int),())) rings
  (fun x a=>.inl (if decide ((a.2:Int)∈away)then a.1 else a.1++[x],a.2+1)) (fun a=>.inl (come,n,rings,(0:Int),a.1,())) (fun i a=>a.2=i∧a.1.length≤i) (by omega)
  (fun i x a hi hx ⟨h1,h2⟩=>by
   refine⟨fun m' h' => ?_,fun r h'=>by cases h'⟩
   cases h'
   subst h1
   rw[Hu,AM,AP,Aoi hi]
   simp only[Ag hx,KF away _ (show away.length<9223372036854775808 by omega)]
   rw[AQ (by omega),BK (by simp only[AM,Aot,ApA];omega)]
   by_cases h:(a.2:Int)∈away
   ·simp only[h,Aow,Aov,ApL]
    exact⟨by trivial,by trivial,by omega⟩
   ·simp only[h,Ao9,ApR]
    exact⟨by trivial,by trivial,by simp;omega⟩)
  (fun a _=>by rw[Hu,AM,AP,Aog (by omega)]) ([],0) ⟨rfl,by simp⟩
 have e':AU Hu many (away,come,n,rings,(0:Int),[],rings,AK rings,(0:Int),())=_:=e
 rw[e',A2]
 have hdf:(rings.foldl (fun(a:List (List Int)×Nat) x=>(if decide ((a.2:Int)∈away)then a.1 else a.1++[x],a.2+1)) ([],0)).1=Cq (fun k=>decide ((k:Int)∈away)) 0 rings:=by
  have:=AT8 (fun k=>decide ((k:Int)∈away)) rings [] 0
  rw[ApI]at this
  exact this
 simp only[hdf]
 obtain⟨g1,g2⟩:=AZX (fun k=>decide ((k:Int)∈away)) rings 0
 generalize Cq (fun k=>decide ((k:Int)∈away)) 0 rings=rest at *
 have f:=Bx (step:=Ht) (fun i (a:List (List Int))=>(n,rings,(0:Int),a,come,AK come,(i:Int),())) come
  (fun x a=>.inl (a++[plain x])) (fun a=>.inl (n,rings,(0:Int),a,())) (fun i a=>a.length=rest.length+i) (by omega)
  (fun i x a hi hx h1=>by
   refine⟨fun m' h' => ?_,fun r h'=>by cases h'⟩
   cases h'
   rw[Ht,AM,AP,Aoi hi]
   simp only[Ag hx,AWQ]
   rw[AQ (by omega),BK (by simp only[AM,Aot,ApA];omega)]
   exact⟨rfl,by simp;omega⟩)
  (fun a _=>by rw[Ht,AM,AP,Aog (by omega)]) rest rfl
 have f':AU Ht many (n,rings,(0:Int),rest,come,AK come,(0:Int),())=_:=f
 rw[f',A2]
 have hfold:∀ (l acc:List (List Int)),l.foldl (fun a x=>a++[plain x]) acc=acc++l.map plain:=by
  intro l
  induction l with
  |nil=>intro acc;simp
  |cons x l ih=>intro acc;rw[ApY,ih];simp
 simp only[hfold]
 obtain⟨ys,y1,y2,y3⟩:=SL.ND (rest++come.map plain) (by simp;omega) (fun x hx=>by
  rcases Aom.1 hx with h|h
  ·exact hne x (g2 x h)
  ·obtain⟨r,hr,rfl⟩:=Ao1.1 h
   exact hce r hr)
 refine⟨ys,by simp only[y1],y2,y3.imp fun {a b} h => ?_⟩
 simp only[SL.lt,Go.Sort.ltInt,Apg]at h
 exact h
def ADK(rest:List (List Int))(p:List Int):List (List Int):=rest.take (rest.findIdx fun x => !decide (hd x<hd p))++p::rest.drop (rest.findIdx fun x => !decide (hd x<hd p))
theorem AJt(rest:List (List Int))(p:List Int):(ADK rest p).Perm (p::rest):=by
 rw[ADK]
 refine List.perm_middle.trans ?_
 rw[Ape]
theorem AbA{rest:List (List Int)}{p:List Int}(h:rest.Pairwise (fun a b=>hd a<hd b))(hne:∀ x∈rest,hd x≠hd p):(ADK rest p).Pairwise (fun a b=>hd a<hd b):=by
 rw[ADK]
 have hlt:∀ x∈rest.take (rest.findIdx fun x => !decide (hd x<hd p)),hd x<hd p:=by
  intro x hx
  obtain⟨j,hj,e⟩:=Aq6.1 hx
  have:=List.not_of_lt_findIdx (p:=fun x => !decide (hd x<hd p)) (xs:=rest) (i:=j) (by omega)
  rw[e]at this
  simpa using this
 have hgt:∀ x∈rest.drop (rest.findIdx fun x => !decide (hd x<hd p)),hd p<hd x:=by
  intro x hx
  by_cases hk:(rest.findIdx fun x => !decide (hd x<hd p))<rest.length
  ·have h0:=List.findIdx_getElem (p:=fun x => !decide (hd x<hd p)) (xs:=rest) (w:=hk)
   rw[Apc hk]at hx
   have h1:¬ hd rest[rest.findIdx fun x => !decide (hd x<hd p)]<hd p:=by simpa using h0
   have h2:=hne _ (Apy hk)
   rcases Aoo.1 hx with rfl|hx
   ·omega
   ·have hpw:(rest.drop (rest.findIdx fun x => !decide (hd x<hd p))).Pairwise (fun a b=>hd a<hd b):=h.sublist (List.drop_sublist _ _)
    rw[Apc hk,ApZ]at hpw
    have:=hpw.1 x hx
    omega
  ·rw[Apz (by omega)]at hx
   cases hx
 rw[ArP,ApZ]
 refine⟨h.sublist (List.take_sublist _ _),⟨hgt,h.sublist (List.drop_sublist _ _)⟩,fun a ha b hb => ?_⟩
 rcases Aoo.1 hb with rfl|hb
 ·exact hlt a ha
 ·have:=hlt a ha
  have:=hgt b hb
  omega
theorem Abo{l:List Int}(h:l≠[]):idx l (0:Int)=some (hd l):=by
 cases l with
 |nil=>exact absurd rfl h
 |cons x l=>rw[Gz];rfl
theorem Aj5(l:List Int):Ac l 0 (0:Int)=hd l:=by cases l<;>rfl
end Go.Pev.Pl
end
section
namespace Go.Pev.Pl
open Tok
theorem APD{n u v:Int}(h:okT n (.arc u v)):n≤EF n u v:=by rw[Fe h];exact(AA3 h.1 h.2.1).1
def BG(n:Int)(A B:List Int)(u v:Int):List Int:=u::EF n u v::(A6 B v++EF n v u::(A6 A u).tail)
theorem O8{n u v:Int}{A B:List Int}(hA:TI n A)(hB:TI n B)(hu:u∈A)(hv:v∈B)(iu:In n u)(iv:In n v)(hd:Dis n A B):
  TI n (BG n A B u v)∧A6 A u=u::(A6 A u).tail∧(∀ t,t<n→(t∈BG n A B u v↔t∈A∨t∈B))∧u≠v∧okT n (.arc u v):=by
 obtain⟨a,a1,a2,a3⟩:=AUq hA (t:=.ver u) iu hu
 obtain⟨b,b1,b2,b3⟩:=AUq hB (t:=.ver v) iv hv
 have a1':A6 A u=(Tok.ver u::a).map (Dj n):=a1
 have b1':A6 B v=(Tok.ver v::b).map (Dj n):=b1
 have huv:u≠v:=by rintro rfl;exact hd u hu iu.2.2.2 hv
 have ho:okT n (.arc u v):=⟨iu,iv,huv⟩
 have pA:=(Cb hu).perm
 have pB:=(Cb hv).perm
 have ht:A6 A u=u::(A6 A u).tail:=by rw[a1'];rfl
 have hall:BG n A B u v=(Tok.ver u :: .arc u v::(.ver v::b ++ .arc v u::a)).map (Dj n):=by
  rw[BG,a1',b1',Fe ho,Fe (FJ ho)]
  simp[Dj]
 refine⟨⟨_,hall,fun t ht => ?_,T.join a2 b2 fun x hx hx2 => ?_⟩,ht,fun t ht2 => ?_,huv,ho⟩
 ·rcases Aoo.1 ht with rfl|ht
  ·exact iu
  ·rcases Aoo.1 ht with rfl|ht
   ·exact ho
   ·rcases Aom.1 ht with ht|ht
    ·exact b3 t ht
    ·rcases Aoo.1 ht with rfl|ht
     ·exact FJ ho
     ·exact a3 t (Ao7 _ ht)
 ·have ix:=a3 _ hx
  have x1:x∈A:=pA.mem_iff.2 (by rw[a1'];exact Ao1.2 ⟨_,hx,rfl⟩)
  have x2:x∈B:=pB.mem_iff.2 (by rw[b1'];exact Ao1.2 ⟨_,hx2,rfl⟩)
  exact hd x x1 ix.2.2.2 x2
 ·have g1:=APD ho
  have g2:=APD (FJ ho)
  have e1:t∈A↔t=u∨t∈(A6 A u).tail:=by rw[pA.mem_iff,ht,Aoo,Aqm]
  rw[BG,Aoo,Aoo,Aom,Aoo,e1,← pB.mem_iff]
  constructor
  ·rintro (h|h|h|h|h)
   ·exact .inl (.inl h)
   ·omega
   ·exact .inr h
   ·omega
   ·exact .inl (.inr h)
  ·rintro ((h|h)|h)
   ·exact .inl h
   ·exact .inr (.inr (.inr (.inr h)))
   ·exact .inr (.inr (.inl h))
theorem Kr{n:Int}{a b:List (List Int)}(h:a.Perm b)(ha:a.Pairwise (Dis n)):b.Pairwise (Dis n):=(h.pairwise_iff fun {_ _} hh=>hh.symm).1 ha
theorem AcG{n:Int}{rings rest zs:List (List Int)}{A B p:List Int}(h:FR n rings)(hp:rings.Perm (A::B::rest))(hg:RG n p)(hm:∀ t,t<n→(t∈p↔t∈A∨t∈B))(hz:zs.Perm (p::rest))(hu:zs.Pairwise (fun a b=>hd a<hd b)):FR n zs:=by
 have hd0:=Kr hp h.dis
 rw[ApZ,ApZ]at hd0
 obtain⟨h1,h2,h3⟩:=hd0
 refine⟨h.sz,fun l hl => ?_,hu,Kr hz.symm ?_,fun v hv => ?_⟩
 ·rcases Aoo.1 (hz.mem_iff.1 hl)with rfl|hl
  ·exact hg
  ·exact h.rg l (hp.mem_iff.2 (by simp[hl]))
 ·rw[ApZ]
  refine⟨fun r hr t ht htn => ?_,h3⟩
  rcases(hm t htn).1 ht with g|g
  ·exact h1 r (by simp[hr]) t g htn
  ·exact h2 r hr t g htn
 ·obtain⟨l,hl,hvl⟩:=h.cov v hv
  have:=hp.mem_iff.1 hl
  simp only[Aoo]at this
  rcases this with rfl|rfl|g
  ·exact⟨p,hz.mem_iff.2 (by simp),(hm v hv.2.2.2).2 (.inl hvl)⟩
  ·exact⟨p,hz.mem_iff.2 (by simp),(hm v hv.2.2.2).2 (.inr hvl)⟩
  ·exact⟨l,hz.mem_iff.2 (by simp[g]),hvl⟩
theorem Hn(n:Int)(rings:List (List Int))(u v:Int)(hD:Dom rings):asked ((n,(rings,())),u,v,())=some (if RF n rings then if In n u∧In n v then 0 else 10 else 1,()):=by
 rw[AUg,AA6]
 simp only[QF n rings hD.1 hD.2,AAp]
 by_cases h:RF n rings
 ·by_cases h1:In n u
  ·by_cases h2:In n v<;>simp[h,h1,h2]
  ·simp[h,h1]
 ·simp[h]
theorem AjM(a b:Nat):imax (a:Int) (b:Int)=((max a b:Nat):Int):=by rw[imax];split<;>omega
theorem AjL(a b:Nat):Cp (a:Int) (b:Int)=((min a b:Nat):Int):=by rw[Cp];split<;>omega
theorem Al0{n:Int}{rings:List (List Int)}{u v:Int}{i j:Nat}{A B:List Int}(h:FR n rings)(iu:In n u)(iv:In n v)(hi:rings[i]? = some A)(hj:rings[j]? = some B)(hu:u∈A)(hv:v∈B)(hij:i≠j):
  ∃ zs rest,NA ((n,(rings,())),u,v,())=some (n,zs,0,())∧FR n zs∧rings.Perm (A::B::rest)∧zs.Perm (plain (BG n A B u v)::rest)∧Dis n A B:=by
 have hD:=h.dom
 have hRF:=MO.2 h
 have rA:=h.rg A (Aox hi)
 have rB:=h.rg B (Aox hj)
 have hil:=(Apn.1 hi).1
 have hjl:=(Apn.1 hj).1
 have pu:plc rings u=(i:Int):=h.AMt hi iu.2.2.2 hu
 have pv:plc rings v=(j:Int):=h.AMt hj iv.2.2.2 hv
 have hperm:rings.Perm (A::B::(rings.eraseIdx (max i j)).eraseIdx (min i j)):=by
  rcases Are hij with g|g
  ·rw[ArA (by omega),Aps (by omega)]
   exact JU g hi hj
  ·rw[ArF (by omega),ArS (by omega)]
   exact(JU g hj hi).trans (List.Perm.swap _ _ _)
 have hdis:Dis n A B:=by
  have:=Kr hperm h.dis
  rw[ApZ]at this
  exact this.1 B (by simp)
 obtain⟨l1,l2,l3,huv,ho⟩:=O8 rA.2.2.2 rB.2.2.2 hu hv iu iv hdis
 obtain⟨hRG,hrot⟩:=AGz l1
 have hall:BG n A B u v=u::EF n u v::(A6 B v++EF n v u::(A6 A u).tail):=rfl
 have lA:(A6 A u).length≤1000:=by rw[← (Cb hu).perm.length_eq];exact rA.1.1
 have lB:(A6 B v).length≤1000:=by rw[← (Cb hv).perm.length_eq];exact rB.1.1
 have hsub:((rings.eraseIdx (max i j)).eraseIdx (min i j)).Sublist rings:=(ArM _ _).trans (ArM _ _)
 have hdrop:Cq (fun k=>decide ((k:Int)∈[(i:Int),(j:Int)])) 0 rings=(rings.eraseIdx (max i j)).eraseIdx (min i j):=by
  rcases Are hij with g|g
  ·rw[ArA (by omega),Aps (by omega)]
   exact L9 _ i j g rings 0 (by omega) fun k _=>Aqj.2 (by simp only[Aoo,Aqi,ArR];omega)
  ·rw[ArF (by omega),ArS (by omega)]
   exact L9 _ j i g rings 0 (by omega) fun k _=>Aqj.2 (by simp only[Aoo,Aqi,ArR];omega)
 have hrl:((rings.eraseIdx (max i j)).eraseIdx (min i j)).length≤rings.length:=hsub.length_le
 generalize (rings.eraseIdx (max i j)).eraseIdx (min i j)=rest at *
 have hupr:rest.Pairwise (fun a b=>hd a<hd b):=h.up.sublist hsub
 have hner:∀ l∈rest,l≠[]:=fun l hl=>(h.rg l (hsub.subset hl)).2.1
 have hdd:=Kr hperm h.dis
 rw[ApZ,ApZ]at hdd
 have hheads:∀ x∈rest,hd x≠hd (plain (BG n A B u v)):=by
  intro x hx e
  have g1:=PQ hRG
  have g2:=(l3 _ g1.2.2.2).1 (hrot.perm.mem_iff.2 (XU hRG.2.1))
  have g3:hd (plain (BG n A B u v))∈x:=e▸XU (hner x hx)
  rcases g2 with g|g
  ·exact hdd.1 x (by simp[hx]) _ g g1.2.2.2 g3
  ·exact hdd.2.1 x hx _ g g1.2.2.2 g3
 have hup:=AbA hupr hheads
 have hpz:=AJt rest (plain (BG n A B u v))
 refine⟨ADK rest (plain (BG n A B u v)),rest,?_,AcG h hperm hRG (fun t ht=>by rw[← hrot.perm.mem_iff];exact l3 t ht) hpz hup,hperm,hpz,hdis⟩
 ·obtain⟨ys,y1,y2,y3⟩:=AI7 n rings [(i:Int),(j:Int)] [BG n A B u v] hD.1 (by simp) (by simp) (fun l hl=>(h.rg l hl).2.1) (by simp;exact hRG.2.1)
  have hys:ys=ADK rest (plain (BG n A B u v)):=by
   refine Yq hup (y2.trans ?_) y3
   rw[hdrop]
   exact(AqR (l₁:=rest) (l₂:=[plain (BG n A B u v)])).trans hpz.symm
  rw[hys]at y1
  rw[H3,HN]
  have s1:Cj (A6 A u) (0:Int) (1:Int)=some [u]:=by
   have:=ALu (xs:=A6 A u) (l:=0) (h:=1) (by omega) (by rw[l2];simp)
   rw[l2]at this ⊢
   exact this
  have s2:Cj (A6 A u) (1:Int) (AK (A6 A u))=some (A6 A u).tail:=by
   have:=H4 (xs:=A6 A u) (l:=1) (by rw[l2];simp)
   rw[Aqd]at this
   exact this
  have d1:DS 0 (AO (AK [u])) (A6 A u)=[u]:=by rw[l2];rfl
  have d2:DS 1 (AO (AK (A6 A u).tail)) (A6 A u)=(A6 A u).tail:=by
   rw[DS,AM,Ia,Aqd,Aqg]
  have hcat:JY ([[u],[EF n u v],A6 B v,[EF n v u],(A6 A u).tail],())=some (BG n A B u v,()):=by
   rw[OC _ (by simp) (by simp;omega)]
   simp[BG]
  have ne:((i:Int))≠(j:Int):=by omega
  simp only[Hn n rings u v hD,hRF,iu,iv,and_self,ApL,Au,Hy n rings _ hD.1 (fun l hl=>(hD.2 l hl).1),pu,pv,ne,Aow,Ao9,Aov,Ag hi,Ag hj,AJo,JQ,rA.1,rB.1,hu,hv,s1,s2,AQQ,d1,d2,hcat,y1]
theorem AYd{n:Int}{rings:List (List Int)}{u v:Int}(h:FR n rings)(iu:In n u)(iv:In n v)(hp:plc rings u=plc rings v):
  NA ((n,(rings,())),u,v,())=some (n,rings,5,()):=by
 have hD:=h.dom
 have hRF:=MO.2 h
 rw[H3,HN]
 simp only[Hn n rings u v hD,hRF,iu,iv,and_self,ApL,Au,Hy n rings _ hD.1 (fun l hl=>(hD.2 l hl).1),hp,Aow,Aov]
end Go.Pev.Pl
end
section
namespace Go.Pev.Pl
open Tok
def RZ(rings:List (List Int))(a b:Int):Prop:=∃ A∈rings,a∈A∧b∈A
structure FC(n:Int)(rings:List (List Int))(l:List Edge):Prop where
 fr:FR n rings
 sam:∀ a b,In n a→In n b→(RZ rings a b↔Con l a b)
 arcs:∀ A∈rings,∀ u v,okT n (.arc u v)→EF n u v∈A→∃ e∈l,(e.1=u∧e.2.1=v)∨(e.1=v∧e.2.1=u)
theorem FR.Ahc{n:Int}{rings:List (List Int)}(h:FR n rings){a b:Int}(ia:In n a)(ib:In n b):plc rings a=plc rings b↔RZ rings a b:=by
 obtain⟨i,A,pa,hi,ha,_⟩:=NM (h.cov a ia)
 obtain⟨j,B,pb,hj,hb,_⟩:=NM (h.cov b ib)
 rw[pa,pb]
 constructor
 ·intro e
  have:i=j:=by omega
  subst this
  rw[hi]at hj
  cases hj
  exact⟨A,Aox hi,ha,hb⟩
 ·rintro⟨K,hK,h1,h2⟩
  obtain⟨k,hk⟩:∃ k:Nat,rings[k]? = some K:=by
   obtain⟨k,hk,rfl⟩:=AqJ hK
   exact⟨k,Aon hk⟩
  rw[h.uniq hi hk ia.2.2.2 ha h1,h.uniq hj hk ib.2.2.2 hb h2]
theorem FR.one{n:Int}{rings:List (List Int)}(h:FR n rings){A B:List Int}(hA:A∈rings)(hB:B∈rings){v:Int}(iv:v<n)(h1:v∈A)(h2:v∈B):A=B:=by
 obtain⟨i,hi,rfl⟩:=AqJ hA
 obtain⟨j,hj,rfl⟩:=AqJ hB
 have:=h.uniq (Aon hi) (Aon hj) iv h1 h2
 subst this
 rfl
theorem RZ.perm{a b:List (List Int)}(h:a.Perm b)(x y:Int):RZ a x y↔RZ b x y:=by
 constructor
 ·rintro⟨A,hA,h1⟩;exact⟨A,h.mem_iff.1 hA,h1⟩
 ·rintro⟨A,hA,h1⟩;exact⟨A,h.mem_iff.2 hA,h1⟩
theorem Aez{n u v x y:Int}{A B:List Int}(hA:TI n A)(hB:TI n B)(hu:u∈A)(hv:v∈B)(iu:In n u)(iv:In n v)(hd:Dis n A B)(ho:okT n (.arc x y))(h:EF n x y∈BG n A B u v):EF n x y∈A∨EF n x y∈B∨(x=u∧y=v)∨(x=v∧y=u):=by
 obtain⟨_,l2,_,huv,ho2⟩:=O8 hA hB hu hv iu iv hd
 have pA:=(Cb hu).perm
 have pB:=(Cb hv).perm
 have g:=APD ho
 rw[BG,Aoo,Aoo,Aom,Aoo]at h
 rcases h with h|h|h|h|h
 ·have:=iu.2.2.2;omega
 ·rw[Fe ho,Fe ho2]at h
  have:=Gl ho ho2 h
  cases this
  exact .inr (.inr (.inl ⟨rfl,rfl⟩))
 ·exact .inr (.inl (pB.mem_iff.2 h))
 ·rw[Fe ho,Fe (FJ ho2)]at h
  have:=Gl ho (FJ ho2) h
  cases this
  exact .inr (.inr (.inr ⟨rfl,rfl⟩))
 ·refine .inl (pA.mem_iff.2 ?_)
  rw[l2]
  exact Ao7 _ h
theorem AcH{n:Int}{rings:List (List Int)}{l:List Edge}{e:Edge}(h:FC n rings l)(iu:In n e.1)(iv:In n e.2.1):
  ∃ zs q,NA ((n,(rings,())),e.1,e.2.1,())=some (n,zs,q,())∧FC n zs (l++[e])∧(q=0∧zs.length+1=rings.length∨q=5∧zs=rings):=by
 have hF:=h.fr
 obtain⟨i,A,pu,hi,hu,_⟩:=NM (hF.cov _ iu)
 obtain⟨j,B,pv,hj,hv,_⟩:=NM (hF.cov _ iv)
 have mA:=Aox hi
 have mB:=Aox hj
 by_cases hij:i=j
 ·have hpe:plc rings e.1=plc rings e.2.1:=by rw[pu,pv,hij]
  refine⟨rings,5,AYd hF iu iv hpe,⟨hF,fun a b ia ib => ?_,fun A hA u v ho hm => ?_⟩,.inr ⟨rfl,rfl⟩⟩
  ·rw[h.sam a b ia ib,Con.snoc]
   have hc:Con l e.1 e.2.1:=(h.sam _ _ iu iv).1 ((hF.Ahc iu iv).1 hpe)
   constructor
   ·exact .inl
   ·rintro (g|⟨g1,g2⟩|⟨g1,g2⟩)
    ·exact g
    ·exact g1.trans (hc.trans g2)
    ·exact g1.trans (hc.symm.trans g2)
  ·obtain⟨e',h1,h2⟩:=h.arcs A hA u v ho hm
   exact⟨e',by simp[h1],h2⟩
 ·obtain⟨zs,rest,q1,q3,q4,q5,q6⟩:=Al0 hF iu iv hi hj hu hv hij
  have gA:=hF.rg A mA
  have gB:=hF.rg B mB
  obtain⟨l1,l2,l3,huv,ho⟩:=O8 gA.2.2.2 gB.2.2.2 hu hv iu iv q6
  obtain⟨hRG,hrot⟩:=AGz l1
  have len1:=q4.length_eq
  have len2:=q5.length_eq
  simp only[Aot]at len1 len2
  refine⟨zs,0,q1,⟨q3,fun a b ia ib => ?_,fun K hK x y hxy hm => ?_⟩,.inl ⟨rfl,by omega⟩⟩
  ·rw[RZ.perm q5,Con.snoc,← h.sam a b ia ib,← h.sam a _ ia iu,← h.sam _ b iv ib,← h.sam a _ ia iv,← h.sam _ b iu ib]
   have pmem:∀ x,In n x→(x∈plain (BG n A B e.1 e.2.1)↔x∈A∨x∈B):=fun x ix=>by rw[← hrot.perm.mem_iff];exact l3 x ix.2.2.2
   have sA:∀ x,In n x→(RZ rings x e.1↔x∈A):=fun x ix=>by
    constructor
    ·rintro⟨K,hK,h1,h2⟩
     rw[hF.one mA hK iu.2.2.2 hu h2];exact h1
    ·intro hx;exact⟨A,mA,hx,hu⟩
   have sB:∀ x,In n x→(RZ rings x e.2.1↔x∈B):=fun x ix=>by
    constructor
    ·rintro⟨K,hK,h1,h2⟩
     rw[hF.one mB hK iv.2.2.2 hv h2];exact h1
    ·intro hx;exact⟨B,mB,hx,hv⟩
   have sy:∀ x y,RZ rings x y↔RZ rings y x:=fun x y=>⟨fun ⟨K,a,b,c⟩=>⟨K,a,c,b⟩,fun ⟨K,a,b,c⟩=>⟨K,a,c,b⟩⟩
   rw[sA a ia,sB a ia,sy e.2.1 b,sB b ib,sy e.1 b,sA b ib]
   have hs:RZ rings a b↔(a∈A∧b∈A)∨(a∈B∧b∈B)∨∃ K∈rest,a∈K∧b∈K:=by
    rw[RZ.perm q4]
    simp only[RZ,Aoo,exists_eq_or_imp]
   have hz:RZ (plain (BG n A B e.1 e.2.1)::rest) a b↔((a∈A∨a∈B)∧(b∈A∨b∈B))∨∃ K∈rest,a∈K∧b∈K:=by
    simp only[RZ,Aoo,exists_eq_or_imp,pmem a ia,pmem b ib]
   rw[hs,hz]
   constructor
   ·rintro (⟨h1|h1,h2|h2⟩|h)
    ·exact .inl (.inl ⟨h1,h2⟩)
    ·exact .inr (.inl ⟨h1,h2⟩)
    ·exact .inr (.inr ⟨h1,h2⟩)
    ·exact .inl (.inr (.inl ⟨h1,h2⟩))
    ·exact .inl (.inr (.inr h))
   ·rintro ((⟨h1,h2⟩|⟨h1,h2⟩|h)|⟨h1,h2⟩|⟨h1,h2⟩)
    ·exact .inl ⟨.inl h1,.inl h2⟩
    ·exact .inl ⟨.inr h1,.inr h2⟩
    ·exact .inr h
    ·exact .inl ⟨.inl h1,.inr h2⟩
    ·exact .inl ⟨.inr h1,.inl h2⟩
  ·have old:∀ K∈rings,EF n x y∈K→∃ e'∈l++[e],(e'.1=x∧e'.2.1=y)∨(e'.1=y∧e'.2.1=x):=fun K hK hm=>by
    obtain⟨e',h1,h2⟩:=h.arcs K hK x y hxy hm
    exact⟨e',by simp[h1],h2⟩
   rcases Aoo.1 (q5.mem_iff.1 hK)with rfl|hK
   ·rcases Aez gA.2.2.2 gB.2.2.2 hu hv iu iv q6 hxy (hrot.perm.mem_iff.2 hm)with g|g|⟨g1,g2⟩|⟨g1,g2⟩
    ·exact old A mA g
    ·exact old B mB g
    ·exact⟨e,by simp,.inl ⟨g1.symm,g2.symm⟩⟩
    ·exact⟨e,by simp,.inr ⟨g2.symm,g1.symm⟩⟩
   ·exact old K (q4.mem_iff.2 (by simp[hK])) hm
theorem AG3{N:Nat}(h1:1≤N)(h2:N≤64):FC (N:Int) (BT N) []:=by
 have hS:∀ A∈BT N,∃ k:Nat,k<N∧A=[(k:Int)]:=fun A hA=>by
  simp only[BT,Ao1,Apa]at hA
  obtain⟨k,hk,rfl⟩:=hA
  exact⟨k,hk,rfl⟩
 have key:∀ k,k<N→In (N:Int) (k:Int):=fun k hk=>⟨by omega,by omega,by omega,by omega⟩
 refine⟨⟨⟨by omega,by omega⟩,fun l hl => ?_,?_,?_,fun v hv => ?_⟩,fun a b ia ib => ?_,fun A hA u v ho hm => ?_⟩
 ·obtain⟨k,hk,rfl⟩:=hS l hl
  refine⟨⟨by simp,fun x hx => ?_,by simp⟩,by simp,rfl,(AkZ (N:Int) k).2 (key k hk)⟩
  simp only[ApB]at hx
  omega
 ·rw[BT,Aqa]
  exact List.pairwise_lt_range.imp fun h=>by simp only[hd,Arb];omega
 ·rw[BT,Aqa]
  exact List.pairwise_lt_range.imp fun {a b} h t ht _ ht2=>by
   simp only[ApB]at ht ht2
   omega
 ·obtain⟨k,rfl⟩:=Aou hv.2.2.1
  have:=hv.2.2.2
  exact⟨[(k:Int)],by simp only[BT,Ao1,Apa];exact⟨k,by omega,rfl⟩,by simp⟩
 ·constructor
  ·rintro⟨A,hA,h1,h2⟩
   obtain⟨k,_,rfl⟩:=hS A hA
   simp only[ApB]at h1 h2
   rw[h1,h2]
   exact .refl _
  ·intro hc
   have:=hc.nil
   subst this
   obtain⟨k,rfl⟩:=Aou ia.2.2.1
   have:=ia.2.2.2
   exact⟨[(k:Int)],by simp only[BT,Ao1,Apa];exact⟨k,by omega,rfl⟩,by simp,by simp⟩
 ·obtain⟨k,hk,rfl⟩:=hS A hA
  simp only[ApB]at hm
  have:=APD ho
  omega
theorem AFu(l:List Edge)(hs:l.length<1073741824):ends (l,())=some (l.flatMap fun e=>[e.1,e.2.1],()):=by
 rw[Ab4,AOY]
 have e:=Bx (step:=L7) (fun i (a:List Int)=>(a,l,AK l,(i:Int),())) l (fun x a=>.inl (a++[x.1,x.2.1])) (fun a=>.inl (a,())) (fun i a=>a.length=2*i) (by omega)
  (fun i x a hi hx h1=>by
   refine⟨fun m' h' => ?_,fun r h'=>by cases h'⟩
   cases h'
   rw[L7,AM,AP,Aoi hi]
   simp only[Ag hx]
   rw[AQ (by omega),BK (by simp only[AM,Aot,ApA];omega)]
   exact⟨rfl,by simp;omega⟩)
  (fun a _=>by rw[L7,AM,AP,Aog (by omega)]) [] rfl
 have e':AU L7 many ([],l,AK l,(0:Int),())=_:=e
 rw[e',A2]
 have hf:∀ (xs:List Edge) (acc:List Int),xs.foldl (fun a x=>a++[x.1,x.2.1]) acc=acc++xs.flatMap fun e=>[e.1,e.2.1]:=by
  intro xs
  induction xs with
  |nil=>intro acc;simp
  |cons x xs ih=>intro acc;rw[ApY,ih,AqK];simp
 rw[hf]
 rfl
theorem AT4(n:Int)(l:List Edge):((l.flatMap fun e=>[e.1,e.2.1]).all fun v=>decide (In n v))=l.all fun e=>decide (In n e.1∧In n e.2.1):=by
 induction l with
 |nil=>rfl
 |cons e l ih=>
  rw[AqK,List.all_append,List.all_cons,ih]
  simp
theorem AT3(l:List Edge):(l.flatMap fun e=>[e.1,e.2.1]).length=2*l.length:=by
 induction l with
 |nil=>rfl
 |cons e l ih=>rw[AqK,Aos,ih];simp;omega
theorem AYa{n:Int}(l:List Edge)(hs:l.length<1073741824)(ha:∀ e∈l,In n e.1∧In n e.2.1):
  ∀ (m i cnt:Nat) (rings:List (List Int)) (taken:List Bool),i+m=l.length→taken.length=i→FC n rings (l.take i)→m<cnt →
  ∃ zs taken',Ab Bv cnt (n,rings,(0:Int),taken,l,(l.length:Int),(i:Int),())=some (.inl (n,zs,(0:Int),taken',()))∧FC n zs l∧taken'.length=l.length:=by
 intro m
 induction m with
 |zero=>
  intro i cnt rings taken hi ht h hc
  obtain⟨cnt,rfl⟩:∃ c,cnt=c+1:=⟨cnt-1,by omega⟩
  rw[Apq (by omega)]at h
  refine⟨rings,taken,?_,h,by omega⟩
  rw[Ab,Bv,AP,Aog (by omega)]
 |succ m ih=>
  intro i cnt rings taken hi ht h hc
  obtain⟨cnt,rfl⟩:∃ c,cnt=c+1:=⟨cnt-1,by omega⟩
  have hi':i<l.length:=by omega
  have hx:l[i]? = some l[i]:=Aon hi'
  obtain⟨iu,iv⟩:=ha _ (Apy hi')
  obtain⟨zs,q,e1,e2,_⟩:=AcH h iu iv
  rw[Ab,Bv,AP,Aoi hi']
  simp only[Ag hx,e1]
  rw[AQ (by omega),BK (by simp only[AM,Aot,ApA];omega)]
  rw[← Aqh hi']at e2
  exact ih (i+1) cnt zs _ (by omega) (by simp[DC,ht]) e2 (by omega)
theorem Ab0(k:Int)(l:List Edge)(hk:Sz k)(hs:l.length<1073741824):
  ((∀ e∈l,In k e.1∧In k e.2.1)∧∃ rings,fof (k,l,())=some ((k,(rings,())),0,())∧FC k rings l) ∨
  (¬ (∀ e∈l,In k e.1∧In k e.2.1)∧fof (k,l,())=some ((0,([],())),10,())):=by
 have hmany:9223372036854775808<many:=by simp only[many];omega
 rw[AZI,ATt]
 have hm:HV k=(k,BT k.toNat,0,()):=by rw[HV,Aoq hk]
 obtain⟨s1,s2⟩:=hk
 obtain⟨N,rfl⟩:=Aou (show 0≤k by omega)
 have h0:=AG3 (N:=N) (by omega) (by omega)
 have hD:=h0.fr.dom
 have hRF:=MO.2 h0.fr
 have hfl:=AT3 l
 have hth:Q9 (((N:Int),(BT N,())),l.flatMap fun e=>[e.1,e.2.1],())=some (if ∀ e∈l,In (N:Int) e.1∧In (N:Int) e.2.1 then 0 else 10,()):=by
  rw[AFZ _ _ _ hD (by omega),AT4,AUi,Aoq hRF]
  by_cases ha:∀ e∈l,In (N:Int) e.1∧In (N:Int) e.2.1
  ·rw[Aoq ha,Aoq (Ao2.2 fun e he=>Aoi (ha e he))]
  ·rw[Aor ha,Aor]
   intro hc
   exact ha fun e he=>Aqp (Ao2.1 hc e he)
 simp only[AJT,hm,Apb,Bf,Aov]
 rw[XZ,N0,N4,IZ]
 by_cases ha:∀ e∈l,In (N:Int) e.1∧In (N:Int) e.2.1
 ·refine .inl ⟨ha,?_⟩
  rw[Aoq ha]at hth
  obtain⟨zs,taken,e1,e2,_⟩:=AYa l hs ha l.length 0 many (BT N) [] (by omega) rfl (by rw[List.take_zero];exact h0) (by omega)
  have e1':Ab Bv many ((N:Int),BT N,(0:Int),[],l,(l.length:Int),(0:Int),())=_:=e1
  simp only[AFu l hs,hth,Bf,Aov,Av,AM,e1']
  exact⟨zs,rfl,e2⟩
 ·refine .inr ⟨ha,?_⟩
  rw[Aor ha]at hth
  simp only[AFu l hs,hth,Au]
  rfl
end Go.Pev.Pl
end
section
namespace Go.Pev.Pl
open Tok
def cl(out:List Int)(v:Int):Int:=out.getD v.toNat 0
def CI(N:Nat)(l:List Edge)(out:List Int):Prop:=out.length=N∧∀ k,k<N→0≤out.getD k 0∧out.getD k 0≤(k:Int)∧Con l (k:Int) (out.getD k 0)
theorem Aal:∀ (l:List Int) (k:Nat) (x:Int),k<l.length→(l.set k x).sum=l.sum-l.getD k 0+x:=by
 intro l
 induction l with
 |nil=>intro k x h;simp at h
 |cons y l ih=>
  intro k x h
  cases k with
  |zero=>simp;omega
  |succ k=>
   have:=ih k x (by simpa using h)
   simp only[List.set_cons_succ,List.sum_cons,List.getD_cons_succ,this]
   omega
theorem QK{N:Nat}{l:List Edge}{out:List Int}(h:CI N l out)(hN:N≤64):0≤out.sum∧out.sum≤4096:=by
 obtain⟨h1,h2⟩:=h
 have key:∀ (xs:List Int),(∀ x∈xs,0≤x∧x≤64)→0≤xs.sum∧xs.sum≤64*(xs.length:Int):=by
  intro xs
  induction xs with
  |nil=>intro _;simp
  |cons x xs ih=>
   intro h
   have h3:=ih fun y hy=>h y (Ao7 _ hy)
   have h4:=h x (by simp)
   simp only[List.sum_cons,Aot]
   omega
 have:=key out fun x hx=>by
  obtain⟨k,hk,rfl⟩:=AqJ hx
  have h5:=h2 k (by omega)
  rw[Aoj,Aon hk,ApF]at h5
  omega
 omega
theorem AoD(N:Nat)(l:List Edge)(hs:l.length<1073741824)(ha:∀ e∈l,In (N:Int) e.1∧In (N:Int) e.2.1):
  ∀ (m i cnt:Nat) (out:List Int) (more:Bool),i+m=l.length→CI N l out→m<cnt →
  ∃ out' more',Ab DD cnt ((N:Int),l,out,more,(i:Int),())=some (.inl ((N:Int),l,out',more',()))∧CI N l out' ∧
   ((more'=more∧out'=out∧∀ e∈l.drop i,cl out e.1=cl out e.2.1)∨(more'=true∧out'.sum<out.sum)):=by
 intro m
 induction m with
 |zero=>
  intro i cnt out more hi h hc
  obtain⟨cnt,rfl⟩:∃ c,cnt=c+1:=⟨cnt-1,by omega⟩
  refine⟨out,more,?_,h,.inl ⟨rfl,rfl,?_⟩⟩
  ·rw[Ab,DD,AM,AP,Aog (by omega)]
  ·rw[Apz (by omega)]
   intro e he;cases he
 |succ m ih=>
  intro i cnt out more hi h hc
  obtain⟨cnt,rfl⟩:∃ c,cnt=c+1:=⟨cnt-1,by omega⟩
  have hi':i<l.length:=by omega
  have hx:l[i]? = some l[i]:=Aon hi'
  have hm:=Apy hi'
  have hdr:l.drop i=l[i]::l.drop (i+1):=Apc hi'
  rw[Ab,DD,AM,AP,Aoi hi']
  simp only[Ag hx]
  rw[hdr,AQ (by omega)]
  generalize l[i]=e at *
  obtain⟨iu,iv⟩:=ha e hm
  have hcon:=Con.edge e hm
  obtain⟨eu,ev,eu'⟩:=e
  simp only at iu iv hcon ⊢
  obtain⟨u,rfl⟩:=Aou iu.2.2.1
  obtain⟨v,rfl⟩:=Aou iv.2.2.1
  have hu:u<N:=by have:=iu.2.2.2;omega
  have hv:v<N:=by have:=iv.2.2.2;omega
  have hul:u<out.length:=by rw[h.1];exact hu
  have hvl:v<out.length:=by rw[h.1];exact hv
  rw[Af,Aog (by omega)]
  simp only[]
  rw[Af,Aog (by omega)]
  simp only[]
  rw[Ar,Aog (by omega)]
  simp only[]
  rw[Ar,Aog (by omega)]
  simp only[By (0:Int) hul,By (0:Int) hvl,Ib,N5,Au]
  by_cases hq:out.getD u 0=out.getD v 0
  ·rw[Aoi hq]
   obtain⟨out',more',e1,e2,e3⟩:=ih (i+1) cnt out more (by omega) h (by omega)
   refine⟨out',more',e1,e2,?_⟩
   rcases e3 with⟨g1,g2,g3⟩|g
   ·refine .inl ⟨g1,g2,fun e' he' => ?_⟩
    rcases Aoo.1 he' with rfl|he'
    ·simpa [cl]using hq
    ·exact g3 e' he'
   ·exact .inr g
  ·rw[Aog hq]
   have hne:u≠v:=by rintro rfl;exact hq rfl
   have hlow:Cp (out.getD u 0) (out.getD v 0)=if out.getD v 0<out.getD u 0 then out.getD v 0 else out.getD u 0:=rfl
   generalize hlw:Cp (out.getD u 0) (out.getD v 0)=low at *
   have hvl2:v<(out.set u low).length:=by simp;exact hvl
   simp only[By (0:Int) hvl2]
   have cu:=h.2 u hu
   have cv:=h.2 v hv
   have hset:∀ k,k<N→((out.set u low).set v low).getD k 0=if k=u∨k=v then low else out.getD k 0:=by
    intro k hk
    have hkl:k<out.length:=by rw[h.1];exact hk
    by_cases k2:k=v
    ·subst k2
     simp[Aoj,hkl]
    ·by_cases k1:k=u
     ·subst k1
      rw[Aoq (.inl rfl),Aoj,ApM (ApN k2)]
      simp[hkl]
     ·rw[Aor (by omega),Aoj,ApM (ApN k2),ApM (ApN k1),Aoj]
   have hlc:0≤low∧low≤(u:Int)∧low≤(v:Int)∧Con l (u:Int) low:=by
    rw[hlow]
    split
    ·exact⟨cv.1,by omega,cv.2.1,hcon.trans cv.2.2⟩
    ·exact⟨cu.1,cu.2.1,by omega,cu.2.2⟩
   have hI:CI N l ((out.set u low).set v low):=by
    refine⟨by simp[h.1],fun k hk => ?_⟩
    rw[hset k hk]
    split
    ·rename_i hkk
     rcases hkk with rfl|rfl
     ·exact⟨hlc.1,hlc.2.1,hlc.2.2.2⟩
     ·exact⟨hlc.1,hlc.2.2.1,hcon.symm.trans hlc.2.2.2⟩
    ·exact h.2 k hk
   have hsum:((out.set u low).set v low).sum<out.sum:=by
    rw[Aal _ _ _ hvl2,Aal _ _ _ hul]
    have:(out.set u low).getD v 0=out.getD v 0:=by
     rw[Aoj,ApM hne,← Aoj]
    rw[this,hlow]
    split<;>omega
   obtain⟨out',more',e1,e2,e3⟩:=ih (i+1) cnt _ true (by omega) hI (by omega)
   refine⟨out',more',e1,e2,.inr ?_⟩
   rcases e3 with⟨g1,g2,_⟩|⟨g1,g2⟩
   ·exact⟨g1,by rw[g2];exact hsum⟩
   ·exact⟨g1,by omega⟩
theorem AnB(N:Nat)(hN:N≤64)(l:List Edge)(hs:l.length<1073741824)(ha:∀ e∈l,In (N:Int) e.1∧In (N:Int) e.2.1):
  ∀ (m cnt:Nat) (out:List Int),out.sum.toNat=m→CI N l out→m+1<cnt →
  ∃ out',Ab D7 cnt ((N:Int),l,out,true,())=some (.inl (out',()))∧CI N l out'∧∀ e∈l,cl out' e.1=cl out' e.2.1:=by
 have hmany:9223372036854775808<many:=by simp only[many];omega
 intro m
 induction m using Nat.strongRecOn with
 |_ m ih=>
 intro cnt out hm h hc
 obtain⟨cnt,rfl⟩:∃ c,cnt=c+1:=⟨cnt-1,by omega⟩
 rw[Ab,D7]
 obtain⟨out',more',e1,e2,e3⟩:=AoD N l hs ha l.length 0 many out false (by omega) h (by omega)
 have e1':Ab DD many ((N:Int),l,out,false,(0:Int),())=_:=e1
 simp only[Av,e1']
 rcases e3 with⟨g1,g2,g3⟩|⟨g1,g2⟩
 ·subst g1 g2
  obtain⟨cnt,rfl⟩:∃ c,cnt=c+1:=⟨cnt-1,by omega⟩
  rw[Ab,D7]
  exact⟨_,rfl,e2,by simpa using g3⟩
 ·subst g1
  have b1:=QK h hN
  have b2:=QK e2 hN
  exact ih out'.sum.toNat (by omega) cnt out' rfl e2 (by omega)
structure Yj(n:Int)(l:List Edge)(out:List Int):Prop where
 len:(out.length:Int)=n
 same:∀ a b,In n a→In n b→(cl out a=cl out b↔Con l a b)
 isin:∀ a,In n a→In n (cl out a)
 con:∀ a,In n a→Con l a (cl out a)
 least:∀ a b,In n a→In n b→Con l a b→cl out a≤b
theorem Gm(n:Int)(l:List Edge)(hn:Sz n)(hs:l.length<1073741824)(ha:∀ e∈l,In n e.1∧In n e.2.1):∃ out,Hm (n,l,())=some (out,())∧Yj n l out:=by
 have hmany:9223372036854775808<many:=by simp only[many];omega
 obtain⟨s1,s2⟩:=hn
 obtain⟨N,rfl⟩:=Aou (show 0≤n by omega)
 rw[Tc,JZ]
 have key:∀ (m k cnt:Nat),k+m=N→m<cnt→Ab DE cnt ((N:Int),l,(List.range k).map (fun(k:Nat)=>(k:Int)),(k:Int),())=some (.inl ((N:Int),l,(List.range N).map (fun(k:Nat)=>(k:Int)),())):=by
  intro m
  induction m with
  |zero=>
   intro k cnt hk hc
   obtain⟨cnt,rfl⟩:∃ c,cnt=c+1:=⟨cnt-1,by omega⟩
   have:k=N:=by omega
   subst this
   rw[Ab,DE,AP,Aog (by omega)]
  |succ m ih=>
   intro k cnt hk hc
   obtain⟨cnt,rfl⟩:∃ c,cnt=c+1:=⟨cnt-1,by omega⟩
   have hih:=ih (k+1) cnt (by omega) (by omega)
   rw[Ap3,AqH]at hih
   rw[Ab,DE,AP,Aoi (by omega)]
   simp only[]
   rw[AQ (by omega),BK (by simp only[AM,Aot,ApA,Apl,Ao0];omega)]
   exact hih
 have e0:=key N 0 many (by omega) (by omega)
 have e0':Ab DE many ((N:Int),l,[],(0:Int),())=_:=e0
 have h0:CI N l ((List.range N).map (fun(k:Nat)=>(k:Int))):=by
  refine⟨by simp,fun k hk => ?_⟩
  have:((List.range N).map (fun(k:Nat)=>(k:Int))).getD k 0=(k:Int):=by simp[Aoj,hk]
  rw[this]
  exact⟨by omega,by omega,.refl _⟩
 have hb:=QK h0 (by omega)
 obtain⟨out,e1,e2,e3⟩:=AnB N (by omega) l hs ha _ many _ rfl h0 (by omega)
 simp only[Av,e0',e1]
 have fact:∀ a,In (N:Int) a→0≤cl out a∧cl out a≤a∧Con l a (cl out a):=by
  intro a hia
  obtain⟨k,rfl⟩:=Aou hia.2.2.1
  have:=e2.2 k (by have:=hia.2.2.2;omega)
  simpa [cl]using this
 refine⟨out,rfl,by rw[e2.1],fun a b ia ib=>⟨fun h => ?_,fun h=>h.const e3⟩,fun a ia => ?_,fun a ia=>(fact a ia).2.2,fun a b ia ib h => ?_⟩
 ·have h1:=(fact a ia).2.2
  have h2:=(fact b ib).2.2
  rw[← h]at h2
  exact h1.trans h2.symm
 ·have:=fact a ia
  have h3:=ia.2.2.2
  exact⟨s1,s2,by omega,by omega⟩
 ·have h1:cl out a=cl out b:=h.const e3
  have:=(fact b ib).2.1
  omega
end Go.Pev.Pl
end
end
section
namespace Go.Pev.Pl
def Low(l:List Edge)(k:Nat):Prop:=∀ j:Nat,j<k→¬ Con l (j:Int) (k:Int)
noncomputable def Ai3(l:List Edge)(k:Nat):Bool:=@decide (Low l k) (Classical.propDecidable _)
theorem IL(l:List Edge)(k:Nat):Ai3 l k=true↔Low l k:=by
 unfold Ai3
 exact @decide_eq_true_iff _ (Classical.propDecidable _)
noncomputable def cc(N:Nat)(l:List Edge):Nat:=(List.range N).countP (Ai3 l)
noncomputable def Pj(l:List Edge)(a b:Int):Bool:=@decide (Con l a b) (Classical.propDecidable _)
theorem CY(l:List Edge)(a b:Int):Pj l a b=true↔Con l a b:=by
 unfold Pj
 exact @decide_eq_true_iff _ (Classical.propDecidable _)
theorem Im(l:List Edge)(a b:Int):Pj l a b=false↔¬ Con l a b:=by
 rw[← CY];cases Pj l a b<;>simp
theorem Con.sub{l l':List Edge}(h:∀ e∈l,e∈l'){a b:Int}(c:Con l a b):Con l' a b:=c.mono fun e he=>⟨e,h e he,.inl ⟨rfl,rfl⟩⟩
theorem Con.cut{l l':List Edge}(h:∀ e∈l,Con l' e.1 e.2.1){a b:Int}(c:Con l a b):Con l' a b:=by
 induction c with
 |refl a=>exact .refl a
 |edge e he=>exact h e he
 |symm _ ih=>exact ih.symm
 |trans _ _ ih1 ih2=>exact ih1.trans ih2
theorem Ai2(l:List Edge):∀ v:Nat,∃ m:Nat,m≤v∧Con l (m:Int) (v:Int)∧Low l m:=by
 intro v
 induction v using Nat.strongRecOn with
 |ind v ih=>
  by_cases h:Low l v
  ·exact⟨v,Aop _,.refl _,h⟩
  ·have:∃ j:Nat,j<v∧Con l (j:Int) (v:Int):=Apj fun hn=>h fun j hj hc=>hn ⟨j,hj,hc⟩
   obtain⟨j,hj,hc⟩:=this
   obtain⟨m,h1,h2,h3⟩:=ih j hj
   exact⟨m,by omega,h2.trans hc,h3⟩
theorem Low.le{l:List Edge}{m j:Nat}(h:Low l m)(hc:Con l (m:Int) (j:Int)):m≤j:=by
 refine Nat.le_of_not_lt fun hj=>h j hj hc.symm
theorem Low.uniq{l:List Edge}{a b:Nat}(ha:Low l a)(hb:Low l b)(h:Con l (a:Int) (b:Int)):a=b:=by
 have:=ha.le h
 have:=hb.le h.symm
 omega
theorem AkH{N:Nat}{l l':List Edge}(h:∀ j k:Nat,j<N→k<N→(Con l (j:Int) (k:Int)↔Con l' (j:Int) (k:Int))):cc N l=cc N l':=by
 unfold cc
 refine List.countP_congr fun k hk => ?_
 have hk:k<N:=by simpa using hk
 rw[IL,IL]
 constructor
 ·intro q j hj hc;exact q j hj ((h j k (by omega) hk).2 hc)
 ·intro q j hj hc;exact q j hj ((h j k (by omega) hk).1 hc)
theorem AGQ{N:Nat}{l l':List Edge}(h:∀ a b,Con l a b↔Con l' a b):cc N l=cc N l':=AkH fun _ _ _ _=>h _ _
theorem AOg{l l':List Edge}(h:∀ e,e∈l↔e∈l'){a b:Int}:Con l a b↔Con l' a b:=⟨fun c=>c.sub fun e he=>(h e).1 he,fun c=>c.sub fun e he=>(h e).2 he⟩
theorem Amb{N:Nat}{l l':List Edge}(h:l.Perm l'):cc N l=cc N l':=AGQ fun _ _=>AOg fun _=>h.mem_iff
theorem Anz(N:Nat):cc N []=N:=by
 unfold cc
 have:(List.range N).countP (Ai3 [])=(List.range N).length:=by
  rw[List.countP_eq_length]
  intro k _
  rw[IL]
  intro j hj hc
  have:=hc.nil
  omega
 rw[this,Ao0]
theorem AF4{P:Nat→Bool}{M:Nat}(hM:P M=true):∀ {xs:List Nat},xs.Nodup→M∈xs→xs.countP P=xs.countP (fun k=>P k && !decide (k=M))+1:=by
 intro xs
 induction xs with
 |nil=>intro _ h;cases h
 |cons x xs ih=>
  intro hn h
  rw[ApJ]at hn
  rw[ArT,ArT]
  by_cases hx:x=M
  ·subst hx
   have:xs.countP P=xs.countP (fun k=>P k && !decide (k=x)):=by
    refine List.countP_congr fun k hk => ?_
    have:k≠x:=fun e=>hn.1 (e▸hk)
    simp[this]
   simp[hM,this]
  ·have:=ih hn.2 (by rcases Aoo.1 h with h|h;exact absurd h.symm hx;exact h)
   rw[this]
   simp[hx]
   omega
def InE(N:Nat)(e:Edge):Prop:=(0≤e.1∧e.1<(N:Int))∧(0≤e.2.1∧e.2.1<(N:Int))
theorem AUG{l:List Edge}{e:Edge}(h:Con l e.1 e.2.1){a b:Int}:Con (l++[e]) a b↔Con l a b:=
 ⟨fun c=>c.cut fun x hx=>by
  rcases Aom.1 hx with hx|hx
  ·exact .edge x hx
  ·rw[ApB]at hx;subst hx;exact h,fun c=>c.sub fun x hx=>Aom.2 (.inl hx)⟩
theorem Ab8{N:Nat}{l:List Edge}{e:Edge}(he:InE N e):cc N l=cc N (l++[e])+(if Pj l e.1 e.2.1=true then 0 else 1):=by
 by_cases h:Con l e.1 e.2.1
 ·rw[Aoq ((CY _ _ _).2 h),Ap5]
  exact AGQ fun a b=>(AUG h).symm
 ·rw[Aor (fun hh=>h ((CY _ _ _).1 hh))]
  obtain⟨⟨a1,a2⟩,b1,b2⟩:=he
  obtain⟨u,hu⟩:=Aou a1
  obtain⟨v,hv⟩:=Aou b1
  have hsn:∀ {a b:Int},Con (l++[e]) a b↔Con l a b∨(Con l a (u:Int)∧Con l (v:Int) b)∨(Con l a (v:Int)∧Con l (u:Int) b):=by
   intro a b
   rw[Con.snoc,hu,hv]
  rw[hu,hv]at h
  obtain⟨p,p1,p2,p3⟩:=Ai2 l u
  obtain⟨q,q1,q2,q3⟩:=Ai2 l v
  have hpq:p≠q:=fun e=>h (p2.symm.trans (e▸q2))
  have hlow:∀ k:Nat,Low (l++[e]) k↔Low l k∧k≠max p q:=by
   intro k
   constructor
   ·intro hk
    refine⟨fun j hj hc=>hk j hj (hsn.2 (.inl hc)),fun e => ?_⟩
    refine hk (min p q) (by omega) (hsn.2 ?_)
    by_cases hlt:p<q
    ·rw[e,Aps (by omega),ArA (by omega)]
     exact .inr (.inl ⟨p2,q2.symm⟩)
    ·rw[e,ArS (by omega),ArF (by omega)]
     exact .inr (.inr ⟨q2,p2.symm⟩)
   ·rintro⟨hk,hne⟩ j hj hc
    rcases hsn.1 hc with hc|⟨c1,c2⟩|⟨c1,c2⟩
    ·exact hk j hj hc
    ·have e1:=q3.uniq hk (q2.trans c2)
     have e2:=p3.le (p2.trans c1.symm)
     omega
    ·have e1:=p3.uniq hk (p2.trans c2)
     have e2:=q3.le (q2.trans c1.symm)
     omega
  have hM:Ai3 l (max p q)=true:=by
   rw[IL]
   by_cases hlt:p<q
   ·rw[ArA (by omega)];exact q3
   ·rw[ArF (by omega)];exact p3
  unfold cc
  rw[AF4 hM Arw (by rw[Apa];omega)]
  congr 1
  refine List.countP_congr fun k _ => ?_
  rw[IL,hlow,Aol,IL]
  simp
noncomputable def gfl:List Edge→List Edge→List Bool
 |_,[]=>[]
 |b,x::xs=>(!Pj b x.1 x.2.1)::gfl (b++[x]) xs
noncomputable def Mx:List Edge→List Edge→List Edge
 |_,[]=>[]
 |b,x::xs=>if Pj b x.1 x.2.1=true then Mx (b++[x]) xs else x::Mx (b++[x]) xs
theorem AmQ:∀ (xs b:List Edge),(gfl b xs).length=xs.length:=by
 intro xs
 induction xs with
 |nil=>intro b;rfl
 |cons x xs ih=>intro b;rw[gfl,Aot,Aot,ih]
theorem ATi:∀ (xs b:List Edge),(Mx b xs).Sublist xs:=by
 intro xs
 induction xs with
 |nil=>intro b;exact List.Sublist.refl _
 |cons x xs ih=>
  intro b
  rw[Mx]
  split
  ·exact(ih _).cons x
  ·exact(ih _).cons_cons x
theorem AGG:∀ (xs b:List Edge) {a c:Int},Con (b++xs) a c↔Con (b++Mx b xs) a c:=by
 intro xs
 induction xs with
 |nil=>intro b a c;rfl
 |cons x xs ih=>
  intro b a c
  have e1:b++x::xs=(b++[x])++xs:=by simp
  rw[e1,ih,Mx]
  by_cases h:Con b x.1 x.2.1
  ·rw[Aoq ((CY _ _ _).2 h)]
   constructor
   ·intro q
    refine q.cut fun y hy => ?_
    rcases Aom.1 hy with hy|hy
    ·rcases Aom.1 hy with hy|hy
     ·exact .edge y (Aom.2 (.inl hy))
     ·rw[ApB]at hy;subst hy
      exact h.sub fun z hz=>Aom.2 (.inl hz)
    ·exact .edge y (Aom.2 (.inr hy))
   ·intro q
    refine q.sub fun y hy => ?_
    rcases Aom.1 hy with hy|hy
    ·simp[hy]
    ·simp[hy]
  ·rw[Aor (fun hh=>h ((CY _ _ _).1 hh))]
   exact AOg fun y=>by simp
theorem PJ{N:Nat}:∀ (xs b:List Edge),(∀ e∈xs,InE N e)→cc N b=cc N (b++xs)+(Mx b xs).length:=by
 intro xs
 induction xs with
 |nil=>intro b _;simp[Mx]
 |cons x xs ih=>
  intro b h
  have e1:b++x::xs=(b++[x])++xs:=by simp
  rw[Ab8 (h x (by simp)),ih (b++[x]) (fun e he=>h e (by simp[he])),e1,Mx]
  by_cases hc:Pj b x.1 x.2.1=true
  ·rw[Aoq hc,Aoq hc,Ap5]
  ·rw[Aor hc,Aor hc,Aot]
   omega
theorem Amv{N:Nat}(xs b:List Edge)(h:∀ e∈xs,InE N e):cc N b≤cc N (b++xs)+xs.length:=by
 have:=PJ xs b h
 have:=(ATi xs b).length_le
 omega
def Fo(N:Nat)(l:List Edge):Prop:=cc N l+l.length=N
theorem Fo.perm{N:Nat}{l l':List Edge}(h:Fo N l)(hp:l.Perm l'):Fo N l':=by
 unfold Fo at *
 rw[← Amb hp,← hp.length_eq];exact h
theorem AkI{N:Nat}(l:List Edge)(h:∀ e∈l,InE N e):N≤cc N l+l.length:=by
 have:=Amv l [] h
 rw[Anz,ApI]at this
 exact this
theorem Fo.front{N:Nat}{a b:List Edge}(h:Fo N (a++b))(ha:∀ e∈a,InE N e)(hb:∀ e∈b,InE N e):Fo N a:=by
 unfold Fo at *
 have h1:=AkI a ha
 have h2:=Amv b a hb
 rw[Aos]at h
 omega
theorem Ah7{α:Type}{a l:List α}(h:a.Sublist l):∃ r,l.Perm (a++r):=by
 induction h with
 |slnil=>exact⟨[],List.Perm.refl _⟩
 |@cons a l x _ ih=>
  obtain⟨r,hr⟩:=ih
  exact⟨x::r,(hr.cons x).trans (List.perm_middle.symm)⟩
 |@cons_cons a l x _ ih=>
  obtain⟨r,hr⟩:=ih
  exact⟨r,hr.cons x⟩
theorem Fo.sub{N:Nat}{a l:List Edge}(h:Fo N l)(hs:a.Sublist l)(hl:∀ e∈l,InE N e):Fo N a:=by
 obtain⟨r,hr⟩:=Ah7 hs
 exact(h.perm hr).front (fun e he=>hl e (hr.mem_iff.2 (Aom.2 (.inl he)))) (fun e he=>hl e (hr.mem_iff.2 (Aom.2 (.inr he))))
theorem Fo.Mx{N:Nat}{b xs:List Edge}(h:Fo N (b++xs))(hb:∀ e∈b,InE N e)(hx:∀ e∈xs,InE N e):Mx b xs=xs:=by
 have h1:=PJ xs b hx
 have h2:=h.front hb hx
 unfold Fo at *
 rw[Aos]at h
 exact(ATi xs b).eq_of_length (by omega)
end Go.Pev.Pl
end
section
namespace Go.Pev.Pl
abbrev Tie:=Int×Int×Int×Bool×Unit
abbrev zT:Tie:=(0,0,0,false,())
def ahead(p x:Tie):Prop:=p.1<x.1∨(p.1=x.1∧p.2.1<x.2.1)
instance (p x:Tie):Decidable (ahead p x):=inferInstanceAs (Decidable (_∨_))
def ed(t:Tie):Edge:=(t.1,t.2.1,())
def trk(ts:List Tie)(k:Int):List Edge:=(ts.filter fun t=>t.2.2.2.1&&decide (k≤t.2.2.1)).map ed
theorem C8{ts:List Tie}{k:Int}{e:Edge}:e∈trk ts k↔∃ t∈ts,t.2.2.2.1=true∧k≤t.2.2.1∧ed t=e:=by
 unfold trk
 simp only[Ao1,Apm,Aol,Aok]
 constructor
 ·rintro⟨t,⟨h1,h2,h3⟩,h4⟩;exact⟨t,h1,h2,h3,h4⟩
 ·rintro⟨t,h1,h2,h3,h4⟩;exact⟨t,⟨h1,h2,h3⟩,h4⟩
theorem Hv{ts:List Tie}{k k':Int}(h:k≤k'):∀ e∈trk ts k',e∈trk ts k:=by
 intro e he
 obtain⟨t,h1,h2,h3,h4⟩:=C8.1 he
 exact C8.2 ⟨t,h1,h2,by omega,h4⟩
noncomputable def csz(N:Nat)(l:List Edge)(v:Int):Nat:=(List.range N).countP fun(w:Nat)=>Pj l v (w:Int)
theorem AOd{N:Nat}{l l':List Edge}{v v':Int}(h:∀ w:Nat,w<N→Con l v (w:Int)→Con l' v' (w:Int)):csz N l v≤csz N l' v':=by
 unfold csz
 refine List.countP_mono_left fun w hw hc => ?_
 rw[CY]at hc ⊢
 exact h w (by simpa using hw) hc
theorem AmX{N:Nat}{l:List Edge}{v:Nat}(hv:v<N):1≤csz N l (v:Int):=by
 unfold csz
 refine List.countP_pos_iff.2 ⟨v,by simpa using hv,(CY _ _ _).2 (.refl _)⟩
theorem AmW{N:Nat}{l:List Edge}{a b:Nat}(ha:a<N)(hb:b<N)(hab:a≠b)(h:Con l (a:Int) (b:Int)):2≤csz N l (a:Int):=by
 unfold csz
 rw[AF4 (P:=fun(w:Nat)=>Pj l (a:Int) (w:Int)) (M:=a) ((CY _ _ _).2 (.refl _)) Arw (by simpa using ha)]
 have:0<(List.range N).countP (fun(w:Nat)=>Pj l (a:Int) (w:Int) && !decide (w=a)):=by
  refine List.countP_pos_iff.2 ⟨b,by simpa using hb,?_⟩
  rw[Aol,CY]
  exact⟨h,by simp;omega⟩
 omega
theorem Aj9{N:Nat}{l:List Edge}{e:Edge}(h:¬ Con l e.1 e.2.1):csz N (l++[e]) e.1=csz N l e.1+csz N l e.2.1:=by
 unfold csz
 have key:∀ xs:List Nat,xs.countP (fun(w:Nat)=>Pj (l++[e]) e.1 (w:Int))=xs.countP (fun(w:Nat)=>Pj l e.1 (w:Int))+xs.countP (fun(w:Nat)=>Pj l e.2.1 (w:Int)):=by
  intro xs
  induction xs with
  |nil=>rfl
  |cons x xs ih=>
   rw[ArT,ArT,ArT,ih]
   have hs:Con (l++[e]) e.1 (x:Int)↔Con l e.1 (x:Int)∨Con l e.2.1 (x:Int):=by
    rw[Con.snoc]
    constructor
    ·rintro (h|⟨_,h⟩|⟨_,h⟩)
     ·exact .inl h
     ·exact .inr h
     ·exact .inl h
    ·rintro (h|h)
     ·exact .inl h
     ·exact .inr (.inl ⟨.refl _,h⟩)
   by_cases h1:Con l e.1 (x:Int)
   ·have h2:¬ Con l e.2.1 (x:Int):=fun h2=>h (h1.trans h2.symm)
    rw[(CY _ _ _).2 (hs.2 (.inl h1)),(CY _ _ _).2 h1,(Im _ _ _).2 h2]
    simp only[ApL,Ao5,Ao3];omega
   ·by_cases h2:Con l e.2.1 (x:Int)
    ·rw[(CY _ _ _).2 (hs.2 (.inr h2)),(Im _ _ _).2 h1,(CY _ _ _).2 h2]
     simp only[ApL,Ao5,Ao3];omega
    ·rw[(Im _ _ _).2 (fun h=>(hs.1 h).elim h1 h2),(Im _ _ _).2 h1,(Im _ _ _).2 h2]
     simp only[Ao5,Ao3,Ap5]
 exact key _
end Go.Pev.Pl
end
section
namespace Go.Pev.Pl
def ADH(top:Int)(t:Tie):Tie:=(t.1,t.2.1,min top (t.2.2.1+1),t.2.2.2.1,())
def GQ(t:Tie):Tie:=(t.1,t.2.1,t.2.2.1,true,())
def both(S:Int→Bool)(t:Tie):Bool:=S t.1&&S t.2.1
def Ab1(S:Int→Bool)(t:Tie):Prop:=S t.1≠S t.2.1
instance (S:Int→Bool)(t:Tie):Decidable (Ab1 S t):=inferInstanceAs (Decidable (_≠_))
def rT(S:Int→Bool)(top i:Int)(t:Tie):Tie:=if t.2.2.2.1=true∧t.2.2.1=i∧both S t=true then ADH top t else t
def rO(S:Int→Bool)(top i:Int)(t:Tie):Tie:=if t.2.2.2.1=false∧t.2.2.1=i∧both S t=true then ADH top t else t
def rB(S:Int→Bool)(top i:Int)(t:Tie):Tie:=if t.2.2.1=i∧both S t=true then ADH top t else t
theorem AJr(S:Int→Bool)(top i:Int)(t:Tie):ed (rT S top i t)=ed t:=by unfold rT;split<;>rfl
theorem Ahv(S:Int→Bool)(top i:Int)(t:Tie):ed (rO S top i t)=ed t:=by unfold rO;split<;>rfl
theorem Oy(S:Int→Bool)(top i:Int)(t:Tie):(rT S top i t).2.2.2.1=t.2.2.2.1:=by unfold rT;split<;>rfl
theorem AMn(S:Int→Bool)(top i:Int)(t:Tie):(rO S top i t).2.2.2.1=t.2.2.2.1:=by unfold rO;split<;>rfl
theorem AMm{S:Int→Bool}{top i:Int}{t:Tie}(h:t.2.2.1≤top):t.2.2.1≤(rT S top i t).2.2.1∧(rT S top i t).2.2.1≤top:=by
 unfold rT
 split
 ·show t.2.2.1≤min top (t.2.2.1+1)∧min top (t.2.2.1+1)≤top
  omega
 ·omega
theorem AWx{S:Int→Bool}{top i:Int}{t:Tie}(h:t.2.2.1≤top):t.2.2.1≤(rO S top i t).2.2.1∧(rO S top i t).2.2.1≤top:=by
 unfold rO
 split
 ·show t.2.2.1≤min top (t.2.2.1+1)∧min top (t.2.2.1+1)≤top
  omega
 ·omega
theorem AWw{S:Int→Bool}{top i:Int}{t:Tie}(h:t.2.2.2.1=true):rO S top i t=t:=by
 unfold rO
 rw[Aor]
 rintro⟨a,_⟩
 rw[h]at a;cases a
theorem NL{S:Int→Bool}{top i:Int}{t:Tie}(h:t.2.2.2.1=false):rT S top i t=t:=by
 unfold rT
 rw[Aor]
 rintro⟨a,_⟩
 rw[h]at a;cases a
theorem ALS{f:Tie→Tie}(k:Int)(h1:∀ t,ed (f t)=ed t)(h2:∀ t,(f t).2.2.2.1=t.2.2.2.1)(ts:List Tie)(h3:∀ t∈ts,t.2.2.2.1=true→(k≤(f t).2.2.1↔k≤t.2.2.1)):trk (ts.map f) k=trk ts k:=by
 induction ts with
 |nil=>rfl
 |cons t ts ih=>
  have:=ih fun x hx=>h3 x (by simp[hx])
  unfold trk at *
  rw[ApH,Ap4,Ap4,h2]
  have ht:=h3 t (by simp)
  cases hh:t.2.2.2.1
  ·simp only[Aqt,Ao5,Ao3];exact this
  ·have hd:decide (k≤(f t).2.2.1)=decide (k≤t.2.2.1):=Aqj.2 (ht hh)
   rw[hd]
   simp only[Aq1]
   split
   ·rw[ApH,ApH,h1,this]
   ·exact this
section
variable {N:Nat} {top:Int} {O:List Tie} {S:Int→Bool} {i:Int} {c:Int}
theorem Qk{k:Int}{e:Edge}:e∈trk (O.map (rT S top i)) k↔∃ t∈O,t.2.2.2.1=true∧k≤(rT S top i t).2.2.1∧ed t=e:=by
 rw[C8]
 constructor
 ·rintro⟨t,ht,h1,h2,h3⟩
  obtain⟨x,hx,rfl⟩:=Ao1.1 ht
  rw[Oy]at h1
  rw[AJr]at h3
  exact⟨x,hx,h1,h2,h3⟩
 ·rintro⟨t,ht,h1,h2,h3⟩
  exact⟨_,Ao1.2 ⟨t,ht,rfl⟩,by rw[Oy];exact h1,h2,by rw[AJr];exact h3⟩
theorem Ca{k:Int}(hk:k≤i)(hit:i≤top):trk (O.map (rT S top i)) k=trk O k:=by
 refine ALS k (AJr S top i) (Oy S top i) O fun t _ _ => ?_
 unfold rT
 split
 ·rename_i h
  show k≤min top (t.2.2.1+1)↔_
  omega
 ·rfl
theorem AP2{k:Int}(hk:i+2≤k):trk (O.map (rT S top i)) k=trk O k:=by
 refine ALS k (AJr S top i) (Oy S top i) O fun t _ _ => ?_
 unfold rT
 split
 ·rename_i h
  show k≤min top (t.2.2.1+1)↔_
  omega
 ·rfl
theorem LA(hl:∀ t∈O,t.2.2.1≤top)(k:Int):∀ e∈trk O k,e∈trk (O.map (rT S top i)) k:=by
 intro e he
 obtain⟨t,h1,h2,h3,h4⟩:=C8.1 he
 have:=AMm (S:=S) (i:=i) (hl t h1)
 exact Qk.2 ⟨t,h1,h2,by omega,h4⟩
variable (hS:∀ a b,Con (trk O i) a b→S a=S b)
include hS
theorem AkB(hl:∀ t∈O,t.2.2.1≤top)(hit:i+1≤top){a b:Int}(h:Con (trk O i) a b)(ha:S a=true):Con (trk (O.map (rT S top i)) (i+1)) a b:=by
 have key:∀ {a b:Int},Con (trk O i) a b→S a=true→Con (trk (O.map (rT S top i)) (i+1)) a b:=by
  intro a b h
  induction h with
  |refl a=>intro _;exact .refl a
  |edge e he=>
   intro ha
   obtain⟨t,h1,h2,h3,rfl⟩:=C8.1 he
   have hb:S t.2.1=true:=by
    have:=hS _ _ (.edge _ he)
    exact this.symm.trans ha
   have hm:ed t∈trk (O.map (rT S top i)) (i+1):=by
    refine Qk.2 ⟨t,h1,h2,?_,rfl⟩
    by_cases hlv:t.2.2.1=i
    ·unfold rT
     rw[Aoq ⟨h2,hlv,by unfold both;rw[show S t.1=true from ha,hb];rfl⟩]
     show i+1≤min top (t.2.2.1+1)
     omega
    ·have:=AMm (S:=S) (i:=i) (hl t h1)
     omega
   exact .edge _ hm
  |symm h ih=>
   intro ha
   exact(ih (by rw[hS _ _ h];exact ha)).symm
  |trans h1 _ ih1 ih2=>
   intro ha
   exact(ih1 ha).trans (ih2 (by rw[← hS _ _ h1];exact ha))
 exact key h ha
theorem AUH(hit:i≤top){a b:Int}(h:Con (trk (O.map (rT S top i)) (i+1)) a b)(ha:S a=false):Con (trk O (i+1)) a b:=by
 have low:∀ {a b:Int},Con (trk (O.map (rT S top i)) (i+1)) a b→S a=S b:=fun h=>hS _ _ (by
  have:=h.sub (Hv (ts:=O.map (rT S top i)) (show i≤i+1 by omega))
  rw[Ca (Int.le_refl i) hit]at this
  exact this)
 have key:∀ {a b:Int},Con (trk (O.map (rT S top i)) (i+1)) a b→S a=false→Con (trk O (i+1)) a b:=by
  intro a b h
  induction h with
  |refl a=>intro _;exact .refl a
  |edge e he=>
   intro ha
   obtain⟨t,h1,h2,h3,rfl⟩:=Qk.1 he
   refine .edge _ (C8.2 ⟨t,h1,h2,?_,rfl⟩)
   unfold rT at h3
   rw[Aor]at h3
   ·exact h3
   ·rintro⟨_,_,hb⟩
    unfold both at hb
    rw[show S t.1=false from ha]at hb
    cases hb
  |symm h ih=>
   intro ha
   exact(ih (by rw[low h];exact ha)).symm
  |trans h1 _ ih1 ih2=>
   intro ha
   exact(ih1 ha).trans (ih2 (by rw[← low h1];exact ha))
 exact key h ha
end
end Go.Pev.Pl
end
section
namespace Go.Pev.Pl
theorem Fo.AbU{N:Nat}{l:List Edge}{e:Edge}(h:Fo N (l++[e]))(hl:∀ x∈l,InE N x)(he:InE N e):¬ Con l e.1 e.2.1:=by
 intro hc
 have h1:=Ab8 (N:=N) (l:=l) he
 rw[Aoq ((CY _ _ _).2 hc)]at h1
 have h2:=AkI l hl
 unfold Fo at h
 rw[Aos,ApX]at h
 omega
theorem AAn{N:Nat}{O:List Tie}(h:∀ x∈O,InE N (ed x))(k:Int):∀ e∈trk O k,InE N e:=by
 intro e he
 obtain⟨t,h1,_,_,rfl⟩:=C8.1 he
 exact h t h1
theorem DY(A B:List Tie)(k:Int):trk (A++B) k=trk A k++trk B k:=by
 unfold trk;rw[Aqy,AqH]
theorem VI(S:Int→Bool)(top i:Int)(A:List Tie)(k:Int):trk (A.map (rO S top i)) k=trk A k:=
 ALS k (Ahv S top i) (AMn S top i) A fun t _ h=>by rw[AWw h]
structure Snd(N:Nat)(top:Int)(O:List Tie):Prop where
 lvl:∀ x∈O,0≤x.2.2.1∧x.2.2.1≤top
 ins:∀ x∈O,InE N (ed x)
 fo:Fo N (trk O 0)
 lie:∀ x∈O,x.2.2.2.1=false→Con (trk O x.2.2.1) x.1 x.2.1
 halv:∀ k:Nat,(k:Int)≤top→∀ v:Nat,v<N→csz N (trk O k) v≤max 1 (N/2 ^ k)
structure P6(N:Nat)(top:Int)(t:Edge)(j:Int)(O:List Tie):Prop where
 lvl:∀ x∈O,0≤x.2.2.1∧x.2.2.1≤top
 ins:∀ x∈O,InE N (ed x)
 it:InE N t
 fo:Fo N (trk O 0++[t])
 lie1:∀ x∈O,x.2.2.2.1=false→j≤x.2.2.1→Con (trk O x.2.2.1) x.1 x.2.1
 lie2:∀ x∈O,x.2.2.2.1=false→x.2.2.1<j→Con (trk O x.2.2.1++[t]) x.1 x.2.1
 halv:∀ k:Nat,(k:Int)≤top→∀ v:Nat,v<N→csz N (trk O k) v≤max 1 (N/2 ^ k)
 halt:∀ k:Nat,(k:Int)<j→(k:Int)≤top→∀ v:Nat,v<N→csz N (trk O k++[t]) v≤max 1 (N/2 ^ k)
structure Rb(N:Nat)(t:Edge)(i:Nat)(O:List Tie)(S:Int→Bool)(c:Nat):Prop where
 cN:c<N
 at_:t.1=(c:Int)∨t.2.1=(c:Int)
 side:∀ w:Nat,w<N→(S (w:Int)=true↔Con (trk O i) (c:Int) (w:Int))
 less:2*csz N (trk O i) (c:Int)≤csz N (trk O i) t.1+csz N (trk O i) t.2.1
section
variable {N:Nat} {top:Int} {t:Edge} {O:List Tie} {S:Int→Bool} {i c:Nat}
theorem Rb.closed(hL:Rb N t i O S c)(hi:∀ x∈O,InE N (ed x)):∀ a b,Con (trk O i) a b→S a=S b:=by
 intro a b h
 rcases Con.within (I:=fun a=>0≤a∧a<(N:Int)) (fun e he=>AAn hi i e he) h with rfl|⟨⟨a1,a2⟩,b1,b2⟩
 ·rfl
 ·obtain⟨u,rfl⟩:=Aou a1
  obtain⟨v,rfl⟩:=Aou b1
  have h1:=hL.side u (by omega)
  have h2:=hL.side v (by omega)
  rw[ArC,h1,h2]
  exact⟨fun q=>q.trans h,fun q=>q.trans h.symm⟩
theorem Rb.Abt(hL:Rb N t i O S c):S (c:Int)=true:=(hL.side c hL.cN).2 (.refl _)
theorem Rb.con(hL:Rb N t i O S c){a b:Int}(ia:0≤a∧a<(N:Int))(ib:0≤b∧b<(N:Int))(ha:S a=true)(hb:S b=true):Con (trk O i) a b:=by
 obtain⟨u,rfl⟩:=Aou ia.1
 obtain⟨v,rfl⟩:=Aou ib.1
 exact((hL.side u (by omega)).1 ha).symm.trans ((hL.side v (by omega)).1 hb)
variable (hG:P6 N top t ((i:Int)+1) O) (hit:(i:Int)≤top) (hL:Rb N t i O S c)
include hG
theorem P6.apart(k:Nat):¬ Con (trk O (k:Int)) t.1 t.2.1:=fun h=>hG.fo.AbU (AAn hG.ins 0) hG.it (h.sub (Hv (by omega)))
include hit hL
theorem P6.half(hi1:(i:Int)+1≤top):csz N (trk O i) (c:Int)≤N/2 ^ (i+1):=by
 obtain⟨⟨a1,a2⟩,b1,b2⟩:=hG.it
 obtain⟨u,hu⟩:=Aou a1
 have hj:=Aj9 (N:=N) (hG.apart i)
 have hh:=hG.halt i (by omega) hit u (by omega)
 rw[← hu,hj]at hh
 have hp:=AmX (N:=N) (l:=trk O i) hL.cN
 have hl:=hL.less
 have e:N/2 ^ (i+1)=N/2 ^ i/2:=by rw[Nat.pow_succ,Nat.div_div_eq_div_mul]
 rw[e]
 omega
theorem P6.Amu(k:Nat)(hk:(k:Int)≤top)(v:Nat)(hv:v<N):csz N (trk (O.map (rT S top i)) k) v≤max 1 (N/2 ^ k):=by
 have hS:=hL.closed hG.ins
 have hl:∀ x∈O,x.2.2.1≤top:=fun x hx=>(hG.lvl x hx).2
 rcases Arl k (i+1)with h|rfl|h
 ·rw[Ca (by omega) hit];exact hG.halv k hk v hv
 ·cases hsv:S (v:Int)
  ·refine Ap0 (AOd fun w hw hc => ?_) (hG.halv (i+1) hk v hv)
   have:=AUH hS hit (a:=(v:Int)) (b:=(w:Int)) (by simpa using hc) hsv
   simpa using this
  ·have hle:csz N (trk (O.map (rT S top i)) ((i+1:Nat):Int)) v≤csz N (trk O i) (c:Int):=AOd fun w hw hc=>by
    have h1:=hc.sub (Hv (ts:=O.map (rT S top i)) (show(i:Int)≤((i+1:Nat):Int) by omega))
    rw[Ca (Int.le_refl _) hit]at h1
    exact((hL.side v hv).1 hsv).trans h1
   have:=hG.half hit hL (by omega)
   omega
 ·rw[AP2 (by omega)];exact hG.halv k hk v hv
omit hL
theorem ADI{x:Tie}(hx:x∈O.map (rT S top i))(h:x.2.2.2.1=false):x∈O:=by
 obtain⟨y,hy,rfl⟩:=Ao1.1 hx
 rw[Oy]at h
 rw[NL h];exact hy
include hL
theorem P6.AE3{x:Tie}(hx:x∈O)(h1:x.2.2.1=(i:Int))(h2:both S x=true):Con (trk (O.map (rT S top i)) (min top (x.2.2.1+1))) x.1 x.2.1:=by
 have hS:=hL.closed hG.ins
 unfold both at h2
 rw[Aol]at h2
 have hc:=hL.con (hG.ins x hx).1 (hG.ins x hx).2 h2.1 h2.2
 by_cases hi1:(i:Int)+1≤top
 ·rw[h1,Int.min_eq_right hi1]
  exact AkB hS (fun x hx=>(hG.lvl x hx).2) hi1 hc h2.1
 ·rw[h1,Int.min_eq_left (by omega),show top=(i:Int) by omega]
  have:=Ca (O:=O) (S:=S) (top:=top) (i:=(i:Int)) (k:=(i:Int)) (Int.le_refl _) hit
  rw[show top=(i:Int) by omega]at this
  rw[this];exact hc
theorem P6.next(hno:∀ x∈O.map (rT S top i),x.2.2.2.1=false→x.2.2.1=(i:Int)→¬ Ab1 S x):P6 N top t (i:Int) ((O.map (rT S top i)).map (rO S top i)):=by
 have hS:=hL.closed hG.ins
 have hl:∀ x∈O,x.2.2.1≤top:=fun x hx=>(hG.lvl x hx).2
 have hmem:∀ x∈(O.map (rT S top i)).map (rO S top i),∃ y∈O,x=rO S top i (rT S top i y):=fun x hx=>by
  obtain⟨z,hz,rfl⟩:=Ao1.1 hx
  obtain⟨y,hy,rfl⟩:=Ao1.1 hz
  exact⟨y,hy,rfl⟩
 have hlv:∀ y∈O,y.2.2.1≤(rO S top i (rT S top i y)).2.2.1∧(rO S top i (rT S top i y)).2.2.1≤top:=fun y hy=>by
  have h1:=AMm (S:=S) (i:=(i:Int)) (hl y hy)
  have h2:=AWx (S:=S) (i:=(i:Int)) h1.2
  omega
 have hoth:∀ x∈(O.map (rT S top i)).map (rO S top i),x.2.2.2.1=false→∃ y∈O,y.2.2.2.1=false∧x=rO S top i y:=fun x hx h=>by
  obtain⟨y,hy,rfl⟩:=hmem x hx
  rw[AMn,Oy]at h
  exact⟨y,hy,h,by rw[NL h]⟩
 refine⟨fun x hx => ?_,fun x hx => ?_,hG.it,?_,fun x hx h hj => ?_,fun x hx h hj => ?_,fun k hk v hv => ?_,fun k hk1 hk2 v hv => ?_⟩
 ·obtain⟨y,hy,rfl⟩:=hmem x hx
  have:=hlv y hy
  have:=(hG.lvl y hy).1
  omega
 ·obtain⟨y,hy,rfl⟩:=hmem x hx
  rw[Ahv,AJr];exact hG.ins y hy
 ·rw[VI,Ca (by omega) hit];exact hG.fo
 ·obtain⟨y,hy,hf,rfl⟩:=hoth x hx h
  rw[VI]
  by_cases hr:y.2.2.1=(i:Int)∧both S y=true
  ·have he:rO S top i y=ADH top y:=by unfold rO;rw[Aoq ⟨hf,hr.1,hr.2⟩]
   rw[he]
   exact hG.AE3 hit hL hy hr.1 hr.2
  ·have he:rO S top i y=y:=by unfold rO;rw[Aor (fun q=>hr ⟨q.2.1,q.2.2⟩)]
   rw[he]at hj ⊢
   by_cases hi:y.2.2.1=(i:Int)
   ·have hnb:¬ both S y=true:=fun q=>hr ⟨hi,q⟩
    have hne:=hno y (Ao1.2 ⟨y,hy,NL hf⟩) hf hi
    have h2:=hG.lie2 y hy hf (by omega)
    rw[hi,Ca (Int.le_refl _) hit]
    rw[hi]at h2
    unfold Ab1 at hne
    have hne:=ArI.1 hne
    have hfalse:S y.1=false∧S y.2.1=false:=by
     unfold both at hnb
     rw[← hne]at hnb ⊢
     cases hsy:S y.1
     ·exact⟨rfl,rfl⟩
     ·rw[hsy]at hnb;exact absurd rfl hnb
    rw[Con.snoc]at h2
    rcases h2 with h2|⟨q1,q2⟩|⟨q1,q2⟩
    ·exact h2
    ·have e1:=hS _ _ q1
     have e2:=hS _ _ q2
     rcases hL.at_ with hc|hc
     ·rw[hc,hL.Abt,hfalse.1]at e1;cases e1
     ·rw[hc,hL.Abt,hfalse.2]at e2;cases e2
    ·have e1:=hS _ _ q1
     have e2:=hS _ _ q2
     rcases hL.at_ with hc|hc
     ·rw[hc,hL.Abt,hfalse.2]at e2;cases e2
     ·rw[hc,hL.Abt,hfalse.1]at e1;cases e1
   ·exact(hG.lie1 y hy hf (by omega)).sub (LA hl _)
 ·obtain⟨y,hy,hf,rfl⟩:=hoth x hx h
  have h1:=AWx (S:=S) (i:=(i:Int)) (hl y hy)
  have he:rO S top i y=y:=by unfold rO;rw[Aor (fun q=>by have:=q.2.1;omega)]
  rw[he]at hj ⊢
  rw[VI,Ca (by omega) hit]
  exact hG.lie2 y hy hf (by omega)
 ·rw[VI];exact hG.Amu hit hL k hk v hv
 ·rw[VI,Ca (by omega) hit];exact hG.halt k (by omega) hk2 v hv
theorem P6.found{A B:List Tie}{x:Tie}(hsp:O.map (rT S top i)=A++x::B)(hf:x.2.2.2.1=false)(hi:x.2.2.1=(i:Int))(hx:Ab1 S x):
  Snd N top (A.map (rO S top i)++GQ x::B)∧Con (trk (A.map (rO S top i)++GQ x::B) 0) t.1 t.2.1:=by
 have hS:=hL.closed hG.ins
 have hl:∀ x∈O,x.2.2.1≤top:=fun x hx=>(hG.lvl x hx).2
 have hxM:x∈O.map (rT S top i):=by rw[hsp];simp
 have hxO:x∈O:=ADI hG hit hxM hf
 have hAm:∀ y∈A,y∈O.map (rT S top i):=fun y hy=>by rw[hsp];simp[hy]
 have hBm:∀ y∈B,y∈O.map (rT S top i):=fun y hy=>by rw[hsp];simp[hy]
 have hml:∀ y∈O.map (rT S top i),0≤y.2.2.1∧y.2.2.1≤top:=fun y hy=>by
  obtain⟨z,hz,rfl⟩:=Ao1.1 hy
  have:=AMm (S:=S) (i:=(i:Int)) (hl z hz)
  have:=(hG.lvl z hz).1
  omega
 have hme:∀ y∈O.map (rT S top i),InE N (ed y):=fun y hy=>by
  obtain⟨z,hz,rfl⟩:=Ao1.1 hy
  rw[AJr];exact hG.ins z hz
 have hxt:trk [x]=fun _=>[]:=by
  funext k
  unfold trk
  rw[Ap4,hf]
  rfl
 have hat:∀ k,trk [GQ x] k=if k≤(i:Int)then [ed x]else []:=by
  intro k
  unfold trk
  have q1:(GQ x).2.2.1=(i:Int):=hi
  have q2:(GQ x).2.2.2.1=true:=rfl
  rw[Ap4,q1,q2]
  by_cases hk:k≤(i:Int)
  ·rw[Aoq hk,Aoi hk];rfl
  ·rw[Aor hk,Aog hk];rfl
 have hM:∀ k,trk (O.map (rT S top i)) k=trk A k++trk B k:=by
  intro k
  rw[hsp,show A++x::B=A++([x]++B)from rfl,DY,DY,hxt,ApI]
 have hO':∀ k,trk (A.map (rO S top i)++GQ x::B) k=trk A k++((if k≤(i:Int)then [ed x]else [])++trk B k):=by
  intro k
  rw[show A.map (rO S top i)++GQ x::B=A.map (rO S top i)++([GQ x]++B)from rfl,DY,DY,VI,hat]
 have hsup:∀ k,∀ e∈trk (O.map (rT S top i)) k,e∈trk (A.map (rO S top i)++GQ x::B) k:=by
  intro k e he
  rw[hM]at he
  rw[hO']
  rcases Aom.1 he with he|he
  ·exact Aom.2 (.inl he)
  ·exact Aom.2 (.inr (Aom.2 (.inr he)))
 have hxin:∀ k,k≤(i:Int)→ed x∈trk (A.map (rO S top i)++GQ x::B) k:=by
  intro k hk
  rw[hO',Aoq hk];simp
 have h2:=hG.lie2 x hxO hf (by omega)
 rw[hi]at h2
 have ht:Con (trk O i++[ed x]) t.1 t.2.1:=by
  have up:∀ {a b:Int},Con (trk O i) a b→Con (trk O i++[ed x]) a b:=fun c=>c.sub fun e he=>Aom.2 (.inl he)
  have hxe:Con (trk O i++[ed x]) x.1 x.2.1:=.edge (l:=trk O i++[ed x]) (ed x) (by simp)
  rw[Con.snoc]at h2
  rcases h2 with h2|⟨q1,q2⟩|⟨q1,q2⟩
  ·exact absurd (hS _ _ h2) hx
  ·exact((up q1).symm.trans hxe).trans (up q2).symm
  ·exact((up q2).trans hxe.symm).trans (up q1)
 have ht':∀ k,k≤(i:Int)→Con (trk (A.map (rO S top i)++GQ x::B) k) t.1 t.2.1:=by
  intro k hk
  refine ht.sub fun e he => ?_
  rcases Aom.1 he with he|he
  ·exact Hv hk _ (hsup _ _ (LA hl _ _ he))
  ·rw[ApB]at he;subst he;exact hxin k hk
 refine⟨⟨fun y hy => ?_,fun y hy => ?_,?_,fun y hy h => ?_,fun k hk v hv => ?_⟩,ht' 0 (by omega)⟩
 ·rcases Aom.1 hy with hy|hy
  ·obtain⟨z,hz,rfl⟩:=Ao1.1 hy
   have h1:=hml z (hAm z hz)
   have:=AWx (S:=S) (i:=(i:Int)) h1.2
   omega
  ·rcases Aoo.1 hy with rfl|hy
   ·exact hG.lvl x hxO
   ·exact hml y (hBm y hy)
 ·rcases Aom.1 hy with hy|hy
  ·obtain⟨z,hz,rfl⟩:=Ao1.1 hy
   rw[Ahv];exact hme z (hAm z hz)
  ·rcases Aoo.1 hy with rfl|hy
   ·exact hG.ins x hxO
   ·exact hme y (hBm y hy)
 ·rw[hO',Aoq (by omega)]
  have hM0:=hM 0
  rw[Ca (by omega) hit]at hM0
  have hp:(trk A 0++([ed x]++trk B 0)).Perm (trk O 0++[ed x]):=by
   rw[hM0,Apu]
   exact List.Perm.append_left _ AqR
  refine Fo.perm ?_ hp.symm
  have hfo:=hG.fo
  have hcc:cc N (trk O 0++[ed x])=cc N (trk O 0++[t]):=AGQ fun a b=>by
   have m0:=Hv (ts:=O) (show(0:Int)≤(i:Int) by omega)
   constructor
   ·intro c
    refine c.cut fun e he => ?_
    rcases Aom.1 he with he|he
    ·exact .edge _ (Aom.2 (.inl he))
    ·rw[ApB]at he;subst he
     refine h2.sub fun e he => ?_
     rcases Aom.1 he with he|he
     ·exact Aom.2 (.inl (m0 _ he))
     ·exact Aom.2 (.inr he)
   ·intro c
    refine c.cut fun e he => ?_
    rcases Aom.1 he with he|he
    ·exact .edge _ (Aom.2 (.inl he))
    ·rw[ApB]at he;subst he
     refine ht.sub fun e he => ?_
     rcases Aom.1 he with he|he
     ·exact Aom.2 (.inl (m0 _ he))
     ·exact Aom.2 (.inr he)
  unfold Fo at hfo ⊢
  rw[hcc,Aos]at *
  exact hfo
 ·-- others
  have key:∀ y:Tie,y∈O→y.2.2.2.1=false→Con (trk (A.map (rO S top i)++GQ x::B) y.2.2.1) y.1 y.2.1:=by
   intro y hy h
   by_cases hle:y.2.2.1≤(i:Int)
   ·refine(hG.lie2 y hy h (by omega)).cut fun e he => ?_
    rcases Aom.1 he with he|he
    ·exact .edge _ (hsup _ _ (LA hl _ _ he))
    ·rw[ApB]at he;subst he;exact ht' _ hle
   ·exact(hG.lie1 y hy h (by omega)).sub fun e he=>hsup _ _ (LA hl _ _ he)
  rcases Aom.1 hy with hy|hy
  ·obtain⟨z,hz,rfl⟩:=Ao1.1 hy
   rw[AMn]at h
   have hzO:=ADI hG hit (hAm z hz) h
   by_cases hr:z.2.2.1=(i:Int)∧both S z=true
   ·have he:rO S top i z=ADH top z:=by unfold rO;rw[Aoq ⟨h,hr.1,hr.2⟩]
    rw[he]
    exact(hG.AE3 hit hL hzO hr.1 hr.2).sub (hsup _)
   ·have he:rO S top i z=z:=by unfold rO;rw[Aor (fun q=>hr ⟨q.2.1,q.2.2⟩)]
    rw[he]
    exact key z hzO h
  ·rcases Aoo.1 hy with rfl|hy
   ·cases h
   ·exact key y (ADI hG hit (hBm y hy) h) h
 ·by_cases hki:(k:Int)≤(i:Int)
  ·refine Ap0 (AOd fun w hw hc => ?_) (hG.halt k (by omega) hk v hv)
   refine hc.cut fun e he => ?_
   rw[hO',Aoq hki]at he
   have hMk:=hM (k:Int)
   rw[Ca hki hit]at hMk
   rcases Aom.1 he with he|he
   ·exact .edge _ (Aom.2 (.inl (by rw[hMk];simp[he])))
   ·rcases Aom.1 he with he|he
    ·rw[ApB]at he;subst he
     refine h2.sub fun e he => ?_
     rcases Aom.1 he with he|he
     ·exact Aom.2 (.inl (Hv hki _ he))
     ·exact Aom.2 (.inr he)
    ·exact .edge _ (Aom.2 (.inl (by rw[hMk];simp[he])))
  ·have:trk (A.map (rO S top i)++GQ x::B) (k:Int)=trk (O.map (rT S top i)) (k:Int):=by
    rw[hO',Aor hki,hM];rfl
   rw[this]
   exact hG.Amu hit hL k hk v hv
end
theorem P6.end{N:Nat}{top:Int}{t:Edge}{O:List Tie}(h:P6 N top t 0 O):Snd N top O∧¬ Con (trk O 0) t.1 t.2.1:=by
 refine⟨⟨h.lvl,h.ins,h.fo.front (AAn h.ins 0) (fun e he=>by rw[ApB]at he;subst he;exact h.it),fun x hx hf=>h.lie1 x hx hf (h.lvl x hx).1,h.halv⟩,h.fo.AbU (AAn h.ins 0) h.it⟩
theorem Snd.other{N:Nat}{top:Int}{P Q:List Tie}{t:Tie}(h:Snd N top (P++t::Q))(ht:t.2.2.2.1=false):Snd N top (P++Q):=by
 have hm:∀ x∈P++Q,x∈P++t::Q:=fun x hx=>by
  rcases Aom.1 hx with hx|hx
  ·simp[hx]
  ·simp[hx]
 have htk:∀ k,trk (P++t::Q) k=trk (P++Q) k:=by
  intro k
  rw[show P++t::Q=P++([t]++Q)from rfl,DY,DY,DY]
  congr 1
  unfold trk
  rw[Ap4,ht]
  rfl
 refine⟨fun x hx=>h.lvl x (hm x hx),fun x hx=>h.ins x (hm x hx),by rw[← htk];exact h.fo,fun x hx hf=>by rw[← htk];exact h.lie x (hm x hx) hf,fun k hk v hv=>by rw[← htk];exact h.halv k hk v hv⟩
theorem Snd.span{N:Nat}{top:Int}{O:List Tie}(h:Snd N top O)(a b:Int):Con (O.map ed) a b↔Con (trk O 0) a b:=by
 constructor
 ·intro c
  refine c.cut fun e he => ?_
  obtain⟨x,hx,rfl⟩:=Ao1.1 he
  cases hf:x.2.2.2.1
  ·exact(h.lie x hx hf).sub (Hv (h.lvl x hx).1)
  ·exact .edge _ (C8.2 ⟨x,hx,hf,(h.lvl x hx).1,rfl⟩)
 ·intro c
  refine c.sub fun e he => ?_
  obtain⟨x,h1,_,_,rfl⟩:=C8.1 he
  exact Ao1.2 ⟨x,h1,rfl⟩
end Go.Pev.Pl
end
section
namespace Go.Pev.Pl
theorem Snd.below{N:Nat}{top:Nat}{O:List Tie}(h:Snd N (top:Int) O)(hN:N/2 ^ top≤1){x:Tie}(hx:x∈O)(hne:x.1≠x.2.1):x.2.2.1<(top:Int):=by
 have hl:=h.lvl x hx
 refine Apj fun hn => ?_
 have he:x.2.2.1=(top:Int):=by omega
 obtain⟨⟨a1,a2⟩,b1,b2⟩:=h.ins x hx
 obtain⟨u,hu⟩:=Aou a1
 obtain⟨v,hv⟩:=Aou b1
 have hc:Con (trk O (top:Int)) x.1 x.2.1:=by
  cases hf:x.2.2.2.1
  ·have:=h.lie x hx hf
   rw[he]at this;exact this
  ·exact .edge (l:=trk O (top:Int)) (ed x) (C8.2 ⟨x,hx,hf,by omega,rfl⟩)
 have hu':x.1=(u:Int):=hu
 have hv':x.2.1=(v:Int):=hv
 rw[hu',hv']at hc hne
 have h2:=AmW (N:=N) (a:=u) (b:=v) (by omega) (by omega) (by omega) hc
 have h3:=h.halv top (Int.le_refl _) u (by omega)
 omega
theorem Snd.grown{N:Nat}{top:Int}{O O':List Tie}{come:List Edge}{new:List Tie}(h:Snd N top O)(ht:0≤top)(hp:O'.Perm (O++new))(hc:∀ e∈come,InE N e)
  (hn:∀ x∈new,x.2.2.1=0∧ed x∈come) (htr:(trk O' 0).Perm (trk O 0++Mx (trk O 0) come)):Snd N top O':=by
 have hmem:∀ x,x∈O'↔x∈O∨x∈new:=fun x=>by rw[hp.mem_iff,Aom]
 have hk:∀ k:Int,0<k→∀ e,e∈trk O' k↔e∈trk O k:=by
  intro k hk e
  rw[C8,C8]
  constructor
  ·rintro⟨t,h1,h2,h3,h4⟩
   rcases(hmem t).1 h1 with h1|h1
   ·exact⟨t,h1,h2,h3,h4⟩
   ·have:=(hn t h1).1;omega
  ·rintro⟨t,h1,h2,h3,h4⟩
   exact⟨t,(hmem t).2 (.inl h1),h2,h3,h4⟩
 have hsup:∀ k:Int,∀ e∈trk O k,e∈trk O' k:=fun k e he=>by
  obtain⟨t,h1,h2,h3,h4⟩:=C8.1 he
  exact C8.2 ⟨t,(hmem t).2 (.inl h1),h2,h3,h4⟩
 refine⟨fun x hx => ?_,fun x hx => ?_,?_,fun x hx hf => ?_,fun k hkt v hv => ?_⟩
 ·rcases(hmem x).1 hx with hx|hx
  ·exact h.lvl x hx
  ·have:=(hn x hx).1;omega
 ·rcases(hmem x).1 hx with hx|hx
  ·exact h.ins x hx
  ·exact hc _ (hn x hx).2
 ·refine Fo.perm ?_ htr.symm
  have h1:=PJ come (trk O 0) hc
  have h2:cc N (trk O 0++come)=cc N (trk O 0++Mx (trk O 0) come):=AGQ fun a b=>AGG come (trk O 0)
  have h3:=h.fo
  unfold Fo at *
  rw[Aos]
  omega
 ·rcases(hmem x).1 hx with hx|hx
  ·exact(h.lie x hx hf).sub (hsup _)
  ·obtain⟨h0,he⟩:=hn x hx
   rw[h0,AOg fun e=>htr.mem_iff,← AGG]
   exact .edge (l:=trk O 0++come) (ed x) (Aom.2 (.inr he))
 ·by_cases hk0:k=0
  ·subst hk0
   have:csz N (trk O' ((0:Nat):Int)) (v:Int)≤N:=by
    unfold csz
    have:=List.countP_le_length (p:=fun(w:Nat)=>Pj (trk O' ((0:Nat):Int)) (v:Int) (w:Int)) (l:=List.range N)
    rw[Ao0]at this
    exact this
   simp only[Nat.pow_zero,Nat.div_one]
   omega
  ·exact Ap0 (AOd fun w hw c=>c.sub fun e he=>(hk k (by omega) e).1 he) (h.halv k hkt v hv)
end Go.Pev.Pl
end
section
namespace Go.Pev.Pl
end Go.Pev.Pl
end
section
section
namespace Go.Pev.Pl
structure UF(N:Nat)(s:List Int)(c:Int→Int):Prop where
 len:s.length=N
 lo:∀ k,k<N→0≤s.getD k 0∧s.getD k 0≤(k:Int)
 par:∀ k,k<N→c (s.getD k 0)=c (k:Int)
 root:∀ k,k<N→s.getD k 0=(k:Int)→c (k:Int)=(k:Int)
 le:∀ k,k<N→0≤c (k:Int)∧c (k:Int)≤(k:Int)
theorem UF.idem{N:Nat}{s:List Int}{c:Int→Int}(h:UF N s c):∀ (m k:Nat),k≤m→k<N→c (c (k:Int))=c (k:Int):=by
 intro m
 induction m with
 |zero=>
  intro k hk hN
  have:=h.le k hN
  have e:c (k:Int)=(k:Int):=by omega
  rw[e,e]
 |succ m ih=>
  intro k hk hN
  have h1:=h.lo k hN
  by_cases hr:s.getD k 0=(k:Int)
  ·have e:=h.root k hN hr
   rw[e,e]
  ·obtain⟨j,hj⟩:=Aou h1.1
   have hp:=h.par k hN
   rw[hj]at hp
   rw[← hp]
   exact ih j (by omega) (by omega)
theorem UF.top{N:Nat}{s:List Int}{c:Int→Int}(h:UF N s c){k:Nat}(hk:k<N):s.getD (c (k:Int)).toNat 0=c (k:Int):=by
 have h1:=h.le k hk
 obtain⟨j,hj⟩:=Aou h1.1
 have hi:=h.idem k k (Aop _) hk
 rw[hj]at hi ⊢
 have hjN:j<N:=by omega
 have h2:=h.lo j hjN
 have hp:=h.par j hjN
 obtain⟨i,hi'⟩:=Aou h2.1
 rw[hi']at hp
 have h3:=h.le i (by omega)
 show s.getD j 0=_
 omega
theorem AmG(a b:Int):Cp a b=min a b:=by unfold Cp;split<;>omega
theorem LP{N i x:Nat}(h:(List.range N)[i]? = some x):x=i:=by
 rw[Apn]at h
 obtain⟨h1,h2⟩:=h
 simpa using h2.symm
def Ams(c:Int→Int)(u v:Int):Int→Int:=fun x=>if c x=max (c u) (c v)then min (c u) (c v)else c x
def AkX(N:Nat)(c:Int→Int)(l:List Edge):Prop:=∀ a b,In (N:Int) a→In (N:Int) b→(c a=c b↔Con l a b)
theorem AkX.snoc{N:Nat}{c:Int→Int}{l:List Edge}{e:Edge}(h:AkX N c l)(h1:In (N:Int) e.1)(h2:In (N:Int) e.2.1):AkX N (Ams c e.1 e.2.1) (l++[e]):=by
 intro a b ia ib
 rw[Con.snoc,← h a b ia ib,← h a _ ia h1,← h _ b h2 ib,← h a _ ia h2,← h _ b h1 ib]
 unfold Ams
 generalize c a=x
 generalize c b=y
 generalize c e.1=u
 generalize c e.2.1=v
 split<;>split<;>omega
end Go.Pev.Pl
end
section
namespace Go.Pev.Pl
def sh(n:Int):Prop:=0≤n∧n≤65535
instance (n:Int):Decidable (sh n):=inferInstanceAs (Decidable (_∧_))
def tw(n:Int):List Int:=[n/256,n % 256]
end Go.Pev.Pl
end
section
namespace Go.Pev.Pl
abbrev Res:=Int×Int×List Int×Unit
def val(r:Res):Prop:=(0≤r.1∧r.1≤255)∧sh r.2.1∧sh (r.2.2.1.length:Int)∧∀ x∈r.2.2.1,sh x
instance (r:Res):Decidable (val r):=inferInstanceAs (Decidable (_∧_∧_∧_))
def enc(r:Res):List Int:=r.1::(tw r.2.1++(tw (r.2.2.1.length:Int)++r.2.2.1.flatMap tw))
end Go.Pev.Pl
end
section
namespace Go.Pev.Pl
theorem PB(a:Int):ieq a a=true:=by rw[B4];simp
end Go.Pev.Pl
end
section
namespace Go.Pev.Pl
open Go.RowKit Tok
section
variable {n:Int} {rings:List (List Int)}
theorem ATh{l:List Edge}{out:List Int}(h:FC n rings l)(hc:Yj n l out){A:List Int}{u:Int}(hA:A∈rings)(iu:In n u)(hu:u∈A):hd A=cl out u:=by
 have gA:=h.fr.rg A hA
 have ih:=PQ gA
 have hh:=XU gA.2.1
 have h1:Con l u (hd A):=(h.sam u (hd A) iu ih).1 ⟨A,hA,hu,hh⟩
 have h2:=hc.least u (hd A) iu ih h1
 have h3:=hc.isin u iu
 obtain⟨K,hK,k1,k2⟩:=(h.sam u _ iu h3).2 (hc.con u iu)
 have:=h.fr.one hA hK iu.2.2.2 hu k1
 subst this
 have h4:=(E6 gA.2.1).2 _ k2
 rw[gA.2.2.1]at h4
 have:hd A=A.headD 0:=rfl
 omega
end
end Go.Pev.Pl
end
section
namespace Go.Pev.Pl
def I0(n:Nat):Int:=((@Pn idI ((n:Int),())).getD (0,())).1
theorem AoV:((List.range 65).all fun k=>decide (@Pn idI ((k:Int),())=some (I0 k,())))=true:=by kernel_rfl
theorem An8:((List.range 65).all fun k=>decide (@ANo idI ((k:Int),())=some (I0 k,())))=true:=by kernel_rfl
theorem Aco(n:Nat)(h:n≤64):Pn ((n:Int),())=some (I0 n,()):=by
 rw[show Pn ((n:Int),()) = @Pn idI ((n:Int),())from AqD (fun i=>@Pn i ((n:Int),())) AEt]
 exact Aqp (Ao2.1 AoV n (by simp;omega))
theorem AS4(n:Nat)(h:n≤64):ANo ((n:Int),())=some (I0 n,()):=by
 rw[show ANo ((n:Int),()) = @ANo idI ((n:Int),())from AqD (fun i=>@ANo i ((n:Int),())) AEt]
 exact Aqp (Ao2.1 An8 n (by simp;omega))
def AmZ(a b:Int):Int:=if a<b then -1 else if b<a then 1 else 0
theorem AOh(a b:Int):Dk (a,b,())=some (AmZ a b,()):=by
 rw[G2,Eg]
 simp only[LX,LY,PB,Aov]
 unfold AmZ
 rw[Af,Af]
 by_cases h:a<b
 ·rw[Aoi h,Aoq h]
 ·rw[Aog h,Aor h]
  by_cases h':b<a
  ·rw[Aoi h',Aoq h']
  ·rw[Aog h',Aor h']
theorem Alm(a b:Int):orI ([a,b],())=some (if a=0 then b else a,()):=by
 rw[ANM,AJ7]
 have e:=Pz (step:=Fz) (fun i=>(0,[a,b],AK [a,b],(i:Int),())) [a,b] (fun x => !decide (x=0)) (fun i=>.inl ([a,b].getD i 0,())) (.inr (.inl (0,()))) (by simp)
  (fun i x hi hx=>by
   rw[Fz,AM,AP,Aoi hi]
   simp only[Ag hx,Au]
   have hi2:i<2:=hi
   rw[AQ (by omega)]
   have hg:[a,b].getD i 0=x:=by rw[Aoj,hx];rfl
   rw[hg]
   by_cases h:x=0
   ·simp[h]
   ·simp[h])
  (by rw[Fz,AM,AP,Aog (by omega)])
 have e':AU Fz many (0,[a,b],AK [a,b],(0:Int),())=_:=e
 rw[e']
 by_cases h:a=0
 ·by_cases h':b=0
  ·simp[h,h']
  ·simp[h,h',ArH]
 ·simp[h,ArH]
theorem ANx(p x:Tie):∃ y,Kj (p,x,())=some (y,())∧ile 0 y = !decide (ahead p x):=by
 rw[ZU,Lj]
 simp only[AOh,Alm]
 refine⟨_,rfl,?_⟩
 rw[Ar]
 by_cases h:ahead p x
 ·rw[Aoi h]
  unfold ahead at h
  unfold AmZ
  rw[Aog];· rfl
  split<;>split<;>(try split)<;>omega
 ·rw[Aog h]
  unfold ahead at h
  unfold AmZ
  rw[Aoi];· rfl
  split<;>split<;>(try split)<;>omega
def Mw(N:Nat)(ts:List Tie)(i:Nat):Prop:=
 0≤(ts.getD i zT).1∧(ts.getD i zT).1<(ts.getD i zT).2.1∧(ts.getD i zT).2.1<(N:Int)∧0≤(ts.getD i zT).2.2.1∧(ts.getD i zT).2.2.1≤I0 N∧(i=0∨ahead (ts.getD (i-1) zT) (ts.getD i zT))
instance (N:Nat)(ts:List Tie)(i:Nat):Decidable (Mw N ts i):=inferInstanceAs (Decidable (_∧_∧_∧_∧_∧_))
def trs(ts:List Tie)(k:Nat):List Edge:=(List.range k).foldl (fun a i=>if(ts.getD i zT).2.2.2.1=true then a++[ed (ts.getD i zT)]else a) []
theorem APj{α β ρ:Type}(P:β→Prop)[DecidablePred P](g:β→α→α)(fin:α→ρ)(rt:ρ):∀ (xs:List β) (a:α),walk (fun x a=>if P x then .inl (g x a)else .inr rt) fin xs a=if ∀ x∈xs,P x then fin (xs.foldl (fun a x=>g x a) a)else rt:=by
 intro xs
 induction xs with
 |nil=>intro a;simp[walk]
 |cons x xs ih=>
  intro a
  rw[walk]
  by_cases h:P x
  ·rw[Aoq h]
   simp only[]
   rw[ih]
   simp[h]
  ·rw[Aor h]
   simp[h]
theorem ABk(ts:List Tie)(k:Nat):trs ts (k+1)=if(ts.getD k zT).2.2.2.1=true then trs ts k++[ed (ts.getD k zT)]else trs ts k:=by
 unfold trs
 rw[Ap3,List.foldl_append]
 rfl
theorem ALQ(ts:List Tie):∀ k,(trs ts k).length≤k:=by
 intro k
 induction k with
 |zero=>exact Aop _
 |succ k ih=>
  rw[ABk]
  split
  ·rw[Aos];simp;omega
  ·omega
theorem Akk(ts:List Tie)(e:Edge):∀ k,e∈trs ts k→∃ i,i<k∧e=ed (ts.getD i zT):=by
 intro k
 induction k with
 |zero=>intro h;simp[trs]at h
 |succ k ih=>
  intro h
  rw[ABk]at h
  split at h
  ·rcases Aom.1 h with h|h
   ·obtain⟨i,h1,h2⟩:=ih h;exact⟨i,by omega,h2⟩
   ·simp only[ApB]at h;exact⟨k,by omega,h⟩
  ·obtain⟨i,h1,h2⟩:=ih h;exact⟨i,by omega,h2⟩
def oks(N:Nat)(ts:List Tie):Prop:=∀ i∈List.range ts.length,Mw N ts i
instance (N:Nat)(ts:List Tie):Decidable (oks N ts):=inferInstanceAs (Decidable (∀ i∈List.range ts.length,Mw N ts i))
theorem AS8(N:Nat)(hN:N≤64)(ts:List Tie)(hs:ts.length≤400):
  AU Dy many ((N:Int),ts,I0 N,ts,AK ts,(0:Int),())=some (if oks N ts then .inr (.inl ((N:Int),ts,()))else .inl (false,())):=by
 have e:=Bx (step:=Dy) (fun i (_:Unit)=>((N:Int),ts,I0 N,ts,AK ts,(i:Int),())) (List.range ts.length) (fun i a=>if Mw N ts i then .inl a else .inr (.inl (false,()))) (fun _=>.inr (.inl ((N:Int),ts,()))) (fun _ _=>True) (by simp;omega)
  (fun i x a hi hx _=>by
   have:=LP hx
   subst this
   rw[Ao0]at hi
   have step:Dy ((N:Int),ts,I0 N,ts,AK ts,(x:Int),())=if Mw N ts x then some (.inl ((N:Int),ts,I0 N,ts,AK ts,((x+1:Nat):Int),()))else some (.inr (.inl (false,()))):=by
    rw[Dy,AM,AP,Aoi hi]
    simp only[By zT hi]
    obtain⟨t,ht⟩:∃ t,ts.getD x zT=t:=⟨_,rfl⟩
    have hk:Mw N ts x↔(0≤t.1∧t.1<t.2.1∧t.2.1<(N:Int)∧0≤t.2.2.1∧t.2.2.1≤I0 N∧(x=0∨ahead (ts.getD (x-1) zT) t)):=by unfold Mw;rw[ht]
    rw[ht]
    rw[Af,Ar,Ar,Af,Af]
    by_cases h1:t.1<0
    ·rw[Aoi h1,Aor (fun h=>by obtain⟨q1,q2,q3,q4,q5,_⟩:=hk.1 h;omega)]
    rw[Aog h1]
    by_cases h2:t.2.1≤t.1
    ·rw[Aoi h2,Aor (fun h=>by obtain⟨q1,q2,q3,q4,q5,_⟩:=hk.1 h;omega)]
    rw[Aog h2]
    by_cases h3:(N:Int)≤t.2.1
    ·rw[Aoi h3,Aor (fun h=>by obtain⟨q1,q2,q3,q4,q5,_⟩:=hk.1 h;omega)]
    rw[Aog h3]
    by_cases h4:t.2.2.1<0
    ·rw[Aoi h4,Aor (fun h=>by obtain⟨q1,q2,q3,q4,q5,_⟩:=hk.1 h;omega)]
    rw[Aog h4]
    by_cases h5:I0 N<t.2.2.1
    ·rw[Aoi h5,Aor (fun h=>by obtain⟨q1,q2,q3,q4,q5,_⟩:=hk.1 h;omega)]
    rw[Aog h5]
    simp only[]
    rw[AQ (by omega),Af]
    by_cases h6:x=0
    ·subst h6
     rw[Aog (by omega),Aoq (hk.2 ⟨by omega,by omega,by omega,by omega,by omega,.inl rfl⟩)]
    ·rw[Aoi (by omega),Ai (by omega),show((x:Int)-1)=((x-1:Nat):Int) by omega]
     simp only[By zT (show x-1<ts.length by omega)]
     obtain⟨y,ey,hy⟩:=ANx (ts.getD (x-1) zT) t
     have ey':Kj (((ts.getD (x-1) zT).1,((ts.getD (x-1) zT).2.1,((ts.getD (x-1) zT).2.2.1,((ts.getD (x-1) zT).2.2.2.1,())))),(t.1,(t.2.1,(t.2.2.1,(t.2.2.2.1,())))),())=some (y,()):=ey
     simp only[ey',hy]
     by_cases h7:ahead (ts.getD (x-1) zT) t
     ·rw[Aoi h7,Aoq (hk.2 ⟨by omega,by omega,by omega,by omega,by omega,.inr h7⟩)]
      rfl
     ·rw[Aog h7,Aor (fun h=>by rcases(hk.1 h).2.2.2.2.2 with h|h;exact h6 h;exact h7 h)]
      rfl
   by_cases h:Mw N ts x
   ·rw[Aoq h]at step ⊢
    refine⟨fun m' h' => ?_,fun r h'=>(by cases h')⟩
    cases h'
    exact⟨step,trivial⟩
   ·rw[Aor h]at step ⊢
    refine⟨fun m' h'=>(by cases h'),fun r h' => ?_⟩
    cases h'
    exact step)
  (fun a _=>by rw[Dy,Ao0,AM,AP,Aog (by omega)]) () trivial
 have e':AU Dy many ((N:Int),ts,I0 N,ts,AK ts,(0:Int),())=_:=e
 rw[e',APj (Mw N ts) (fun _ a=>a)]
 rfl
theorem SN(N:Nat)(hN:N≤64)(ts:List Tie)(hs:ts.length≤400):
  AU Cz many ((N:Int),ts,[],(0:Int),())=some (if oks N ts then .inr (.inl ((N:Int),ts,trs ts ts.length,()))else .inl (false,())):=by
 have e:=Bx (step:=Cz) (fun i (a:List Edge)=>((N:Int),ts,a,(i:Int),())) (List.range ts.length) (fun i a=>if Mw N ts i then .inl (if(ts.getD i zT).2.2.2.1=true then a++[ed (ts.getD i zT)]else a)else .inr (.inl (false,()))) (fun a=>.inr (.inl ((N:Int),ts,a,()))) (fun i a=>a.length≤i) (by simp;omega)
  (fun i x a hi hx ha=>by
   have:=LP hx
   subst this
   rw[Ao0]at hi
   have step:Cz ((N:Int),ts,a,(x:Int),())=if Mw N ts x then some (.inl ((N:Int),ts,if(ts.getD x zT).2.2.2.1=true then a++[ed (ts.getD x zT)]else a,((x+1:Nat):Int),()))else some (.inr (.inl (false,()))):=by
    rw[Cz,AM,AP,Aoi hi]
    simp only[By zT hi,Aco N hN]
    obtain⟨t,ht⟩:∃ t,ts.getD x zT=t:=⟨_,rfl⟩
    have hk:Mw N ts x↔(0≤t.1∧t.1<t.2.1∧t.2.1<(N:Int)∧0≤t.2.2.1∧t.2.2.1≤I0 N∧(x=0∨ahead (ts.getD (x-1) zT) t)):=by unfold Mw;rw[ht]
    rw[ht]
    rw[Af,Ar,Ar,Af,Af]
    by_cases h1:t.1<0
    ·rw[Aoi h1,Aor (fun h=>by obtain⟨q1,q2,q3,q4,q5,_⟩:=hk.1 h;omega)]
    rw[Aog h1]
    by_cases h2:t.2.1≤t.1
    ·rw[Aoi h2,Aor (fun h=>by obtain⟨q1,q2,q3,q4,q5,_⟩:=hk.1 h;omega)]
    rw[Aog h2]
    by_cases h3:(N:Int)≤t.2.1
    ·rw[Aoi h3,Aor (fun h=>by obtain⟨q1,q2,q3,q4,q5,_⟩:=hk.1 h;omega)]
    rw[Aog h3]
    by_cases h4:t.2.2.1<0
    ·rw[Aoi h4,Aor (fun h=>by obtain⟨q1,q2,q3,q4,q5,_⟩:=hk.1 h;omega)]
    rw[Aog h4]
    by_cases h5:I0 N<t.2.2.1
    ·rw[Aoi h5,Aor (fun h=>by obtain⟨q1,q2,q3,q4,q5,_⟩:=hk.1 h;omega)]
    rw[Aog h5]
    simp only[AM]
    have hfit:fits ((a.length:Int)+(([(t.1,t.2.1,())]:List Edge).length:Int))=true:=BK (by simp;omega)
    rw[AQ (by omega),Af]
    by_cases h6:x=0
    ·subst h6
     rw[Aog (by omega),Aoq (hk.2 ⟨by omega,by omega,by omega,by omega,by omega,.inl rfl⟩)]
     cases ht4:t.2.2.2.1
     ·simp
     ·simp only[hfit]
      simp[ed,A1]
    ·rw[Aoi (by omega),Ai (by omega),show((x:Int)-1)=((x-1:Nat):Int) by omega]
     simp only[By zT (show x-1<ts.length by omega),Au]
     generalize ts.getD (x-1) zT=p at hk ⊢
     rw[Af,Ar]
     by_cases h7:t.1<p.1
     ·rw[Aoi h7,Aor (fun h=>by rcases(hk.1 h).2.2.2.2.2 with h|h|h<;>omega)]
     rw[Aog h7]
     by_cases h8:p.1=t.1
     ·rw[Aoi h8]
      by_cases h9:t.2.1≤p.2.1
      ·rw[Aoi h9,Aor (fun h=>by rcases(hk.1 h).2.2.2.2.2 with h|h|h<;>omega)]
      rw[Aog h9,Aoq (hk.2 ⟨by omega,by omega,by omega,by omega,by omega,.inr (.inr ⟨h8,by omega⟩)⟩)]
      cases ht4:t.2.2.2.1
      ·simp
      ·simp only[hfit]
       simp[ed,A1]
     ·rw[Aog h8,Aoq (hk.2 ⟨by omega,by omega,by omega,by omega,by omega,.inr (.inl (by omega))⟩)]
      cases ht4:t.2.2.2.1
      ·simp
      ·simp only[hfit]
       simp[ed,A1]
   by_cases h:Mw N ts x
   ·rw[Aoq h]at step ⊢
    refine⟨fun m' h' => ?_,fun r h'=>(by cases h')⟩
    cases h'
    refine⟨step,?_⟩
    split
    ·rw[Aos];simp;omega
    ·omega
   ·rw[Aor h]at step ⊢
    refine⟨fun m' h'=>(by cases h'),fun r h' => ?_⟩
    cases h'
    exact step)
  (fun a _=>by rw[Cz,Ao0,AM,AP,Aog (by omega)]) [] (Aop _)
 have e':AU Cz many ((N:Int),ts,[],(0:Int),())=_:=e
 rw[e',APj (Mw N ts) (fun i a=>if(ts.getD i zT).2.2.2.1=true then a++[ed (ts.getD i zT)]else a)]
 rfl
end Go.Pev.Pl
end
end
section
section
namespace Go.Pev.Pl
theorem AbR{N:Nat}{ts:List Tie}(hN:N≤64){i:Nat}(h:Mw N ts i):In (N:Int) (ed (ts.getD i zT)).1∧In (N:Int) (ed (ts.getD i zT)).2.1:=by
 obtain⟨q1,q2,q3,_⟩:=h
 exact⟨⟨by omega,by omega,q1,by show(ts.getD i zT).1<_;omega⟩,⟨by omega,by omega,by show 0≤(ts.getD i zT).2.1;omega,q3⟩⟩
theorem AVK{N:Nat}{ts:List Tie}(hN:N≤64)(h:oks N ts):∀ e∈trs ts ts.length,In (N:Int) e.1∧In (N:Int) e.2.1:=by
 intro e he
 obtain⟨i,hi,rfl⟩:=Akk ts e _ he
 exact AbR hN (h i (by simp[hi]))
theorem Anv{N:Nat}{ts:List Tie}(hN:N≤64)(h:oks N ts):∀ e∈ts.map ed,In (N:Int) e.1∧In (N:Int) e.2.1:=by
 intro e he
 obtain⟨t,ht,rfl⟩:=Ao1.1 he
 obtain⟨i,hi,rfl⟩:=AqJ ht
 have:=AbR hN (h i (by simp[hi]))
 simpa [hi]using this
theorem AYP{N:Nat}(ts:List Tie)(hs:ts.length≤400)(h:oks N ts):Qr (((N:Int),(ts,())),(0:Int),())=some (trs ts ts.length,()):=by
 rw[W5,Nf]
 have e:=Bx (step:=Cn) (fun i (a:List Edge)=>((0:Int),a,ts,AK ts,(i:Int),())) (List.range ts.length) (fun i a=>.inl (if(ts.getD i zT).2.2.2.1=true then a++[ed (ts.getD i zT)]else a)) (fun a=>.inl (a,())) (fun i a=>a.length≤i) (by simp;omega)
  (fun i x a hi hx ha=>by
   refine⟨fun m' h' => ?_,fun r h'=>(by cases h')⟩
   cases h'
   have:=LP hx
   subst this
   rw[Ao0]at hi
   have hlv:=(h x (by simp[hi])).2.2.2.1
   constructor
   ·rw[Cn,AM,AP,Aoi hi]
    simp only[By zT hi,AM]
    have hfit:fits ((a.length:Int)+(([((ts.getD x zT).1,(ts.getD x zT).2.1,())]:List Edge).length:Int))=true:=BK (by simp;omega)
    rw[AQ (by omega),Ar,Aoi hlv]
    cases ht4:(ts.getD x zT).2.2.2.1
    ·simp
    ·simp only[hfit]
     simp[ed,A1]
   ·split
    ·rw[Aos];simp;omega
    ·omega)
  (fun a _=>by rw[Cn,Ao0,AM,AP,Aog (by omega)]) [] (Aop _)
 have e':AU Cn many ((0:Int),[],ts,AK ts,(0:Int),())=_:=e
 simp only[e']
 rw[A2 (fun i a=>if(ts.getD i zT).2.2.2.1=true then a++[ed (ts.getD i zT)]else a)]
 rfl
def cnt(out:List Int)(N:Nat):Nat:=((List.range N).filter fun k=>decide (out.getD k 0=(k:Int))).length
theorem AQ5{N:Nat}{rings:List (List Int)}{l:List Edge}{out:List Int}(h:FC (N:Int) rings l)(hc:Yj (N:Int) l out):rings.length=cnt out N:=by
 have hsz:=h.fr.sz
 have hp:(rings.map hd).Perm (((List.range N).filter fun k=>decide (out.getD k 0=(k:Int))).map fun(k:Nat)=>(k:Int)):=by
  rw[List.perm_ext_iff_of_nodup]
  ·intro a
   simp only[Ao1,Apm,Apa,Aok]
   constructor
   ·rintro⟨A,hA,rfl⟩
    have gA:=h.fr.rg A hA
    have ih:In (N:Int) (hd A):=PQ gA
    have hh:=XU gA.2.1
    have:=ATh h hc hA ih hh
    obtain⟨_,_,a1,a2⟩:=ih
    refine⟨(hd A).toNat,⟨by omega,?_⟩,by omega⟩
    rw[show out.getD (hd A).toNat 0=cl out (hd A)from rfl,← this]
    omega
   ·rintro⟨k,⟨hk,ho⟩,rfl⟩
    have ik:In (N:Int) (k:Int):=⟨hsz.1,hsz.2,by omega,by omega⟩
    obtain⟨A,hA,hm⟩:=h.fr.cov _ ik
    refine⟨A,hA,?_⟩
    rw[ATh h hc hA ik hm]
    unfold cl
    rw[Apb];exact ho
  ·exact(Aqa.2 h.fr.up).imp (fun h=>by omega)
  ·refine List.Pairwise.map _ (S:=fun a b=>a≠b) (R:=fun a b=>a≠b) (fun a b h h'=>h (by omega)) ?_
   exact(Arw).filter _
 have:=hp.length_eq
 rw[Apl,Apl]at this
 exact this
theorem Pq(N:Nat)(hN:N≤64)(p:List Tie)(q:List Edge)(out:List Int)(ho:out.length=N):AU Db many ((N:Int),p,q,out,(0:Int),(0:Int),())=some (.inl ((N:Int),p,q,(cnt out N:Int),())):=by
 have e:=Bx (step:=Db) (fun i (a:Nat)=>((N:Int),p,q,out,(a:Int),(i:Int),())) (List.range N) (fun k a=>.inl (if out.getD k 0=(k:Int)then a+1 else a)) (fun a=>.inl ((N:Int),p,q,(a:Int),())) (fun i a=>a≤i) (by simp;omega)
  (fun i x a hi hx ha=>by
   refine⟨fun m' h' => ?_,fun r h'=>(by cases h')⟩
   cases h'
   have:=LP hx
   subst this
   rw[Ao0]at hi
   constructor
   ·rw[Db,AP,Aoi hi]
    simp only[By 0 (show x<out.length by omega),Ib,Au]
    rw[AQ (by omega),AQ (by omega)]
    by_cases h:out.getD x 0=(x:Int)
    ·rw[Aoi h,Aoq h]
    ·rw[Aog h,Aor h]
   ·split<;>omega)
  (fun a _=>by rw[Db,Ao0,AP,Aog (by omega)]) 0 (Aop _)
 have e':AU Db many ((N:Int),p,q,out,(0:Int),(0:Int),())=_:=e
 rw[e',A2 (fun k a=>if out.getD k 0=(k:Int)then a+1 else a)]
 have key:∀ (xs:List Nat) (a:Nat),xs.foldl (fun a k=>if out.getD k 0=(k:Int)then a+1 else a) a=a+(xs.filter fun k=>decide (out.getD k 0=(k:Int))).length:=by
  intro xs
  induction xs with
  |nil=>intro a;rfl
  |cons x xs ih=>
   intro a
   rw[ApY,ih,Ap4]
   by_cases h:out.getD x 0=(x:Int)
   ·simp only[h,ApL,Aow,Aot];omega
   ·simp only[h,Ao3,Ao9,Ao5]
 rw[key,Aph]
 rfl
theorem AGt(n:Int)(ts:List Tie)(hl:ts.length<4611686018427387904):∃ b:Bool,FF ((n,(ts,())),())=some (b,())∧Ld ((n,(ts,())),())=some (b,())∧(b=true→∃ N:Nat,n=(N:Int)∧1≤N∧N≤64∧ts.length≤400∧oks N ts):=by
 by_cases hn:¬ (1≤n∧n≤64)
 ·refine⟨false,?_,?_,fun h=>by cases h⟩
  ·rw[Fs,Ew,Af,Af]
   by_cases h:n<1
   ·simp only[Aoi h]
   ·simp only[Aog h,Aoi (show 64<n by omega)]
  ·rw[Kh,IK]
   simp only[W6,Ng,Ar]
   by_cases h:1≤n
   ·simp only[Aoi h,Aog (show ¬ n≤64 by omega),ApR]
   ·simp only[Aog h,ApR]
 have hn:=ArI.1 hn
 obtain⟨N,rfl⟩:=Aou (show 0≤n by omega)
 have hsz:W7 ((N:Int),())=some (true,()):=by
  simp only[W6,Ng,Ar,Aoi hn.1,Aoi hn.2]
 by_cases h4:¬ ts.length≤400
 ·refine⟨false,?_,?_,fun h=>by cases h⟩
  ·rw[Fs,Ew]
   simp only[Af,AM]
   rw[Aog (show ¬ (N:Int)<1 by omega),Aog (show ¬ 64<(N:Int) by omega),Aoi (show 400<(ts.length:Int) by omega)]
  ·rw[Kh,IK]
   simp only[hsz,Aov,Af,AM]
   rw[Aoi (show 400<(ts.length:Int) by omega)]
 have h4:=ArI.1 h4
 have R:=SN N (by omega) ts h4
 have L:=AS8 N (by omega) ts h4
 by_cases ho:¬ oks N ts
 ·rw[Aor ho]at R L
  refine⟨false,?_,?_,fun h=>by cases h⟩
  ·rw[Fs,Ew]
   simp only[Af,AM]
   rw[Aog (show ¬ (N:Int)<1 by omega),Aog (show ¬ 64<(N:Int) by omega),Aog (show ¬ 400<(ts.length:Int) by omega)]
   simp only[R]
  ·rw[Kh,IK]
   simp only[hsz,Aov,Af,AM,AS4 N (by omega)]
   rw[Aog (show ¬ 400<(ts.length:Int) by omega)]
   rw[AM]at L
   simp only[L]
 have ho:=ArI.1 ho
 rw[Aoq ho]at R L
 have hin:=AVK (show N≤64 by omega) ho
 have hlen:=ALQ ts ts.length
 obtain⟨out,hc,hcl⟩:=Gm (N:Int) (trs ts ts.length) hn (by omega) hin
 rcases(Ab0 (N:Int) (trs ts ts.length) hn (by omega)).symm with⟨hno,_⟩|⟨_,rings,hf,hfc⟩
 ·exact absurd hin hno
 have hcount:=AQ5 hfc hcl
 have hol:out.length=N:=by have:=hcl.len;omega
 refine⟨decide ((cnt out N:Int)=(N:Int)-(trs ts ts.length).length),?_,?_,fun _=>⟨N,rfl,by omega,by omega,h4,ho⟩⟩
 ·rw[Fs,Ew]
  simp only[Af,AM]
  rw[Aog (show ¬ (N:Int)<1 by omega),Aog (show ¬ 64<(N:Int) by omega),Aog (show ¬ 400<(ts.length:Int) by omega)]
  simp only[R,hc,Pq N (by omega) _ _ out hol,Au]
  rw[Ai (by omega)]
 ·rw[Kh,IK]
  simp only[hsz,Aov,Af,AM,AS4 N (by omega)]
  rw[Aog (show ¬ 400<(ts.length:Int) by omega)]
  rw[AM]at L
  simp only[L,AYP ts h4 ho,hf,PB,Au,hcount]
  rw[Ai (by omega)]
end Go.Pev.Pl
end
section
namespace Go.Pev.Pl
theorem Yj.unique{N:Nat}{l:List Edge}{a b:List Int}(h1:1≤N)(h2:N≤64)(ha:Yj (N:Int) l a)(hb:Yj (N:Int) l b):a=b:=by
 have la:=ha.len
 have lb:=hb.len
 refine CX (0:Int) (by omega) fun k hk => ?_
 have ik:In (N:Int) (k:Int):=⟨by omega,by omega,by omega,by omega⟩
 have e1:=ha.least _ _ ik (hb.isin _ ik) (hb.con _ ik)
 have e2:=hb.least _ _ ik (ha.isin _ ik) (ha.con _ ik)
 unfold cl at e1 e2
 rw[Apb]at e1 e2
 omega
def InV(N:Nat)(x:Int):Prop:=0≤x∧x<(N:Int)
instance (N:Nat)(x:Int):Decidable (InV N x):=inferInstanceAs (Decidable (_∧_))
end Go.Pev.Pl
end
section
namespace Go.Pev.Pl
end Go.Pev.Pl
end
section
namespace Go.Pev.Pl
def AmK(l:List Edge)(u v:Int):Prop:=((u,(v,())):Edge)∈l∨((v,(u,())):Edge)∈l
instance (l:List Edge)(u v:Int):Decidable (AmK l u v):=inferInstanceAs (Decidable (_∨_))
def AlO(N:Nat)(l:List Edge)(u:Nat):List Edge:=((List.range (N-(u+1))).filter fun i=>decide (AmK l (u:Int) ((u+1+i:Nat):Int))).map fun(i:Nat)=>((u:Int),((u+1+i:Nat):Int),())
def ADN(N:Nat)(l:List Edge):List Edge:=(List.range N).flatMap fun u=>AlO N l u
end Go.Pev.Pl
end
section
namespace Go.Pev.Pl
def Ku(N:Nat)(ts:List Tie)(l:List Edge):List Edge:=(ADN N l).filter fun x => !decide (x∈ts.map ed)
def ADJ(l:List Tie)(t:Tie):List Tie:=l.take (l.findIdx fun x => !decide (ahead x t))++t::l.drop (l.findIdx fun x => !decide (ahead x t))
end Go.Pev.Pl
end
section
namespace Go.Pev.Pl
def valid(N:Nat)(t:Tie):Prop:=0≤t.1∧t.1<t.2.1∧t.2.1<(N:Int)∧0≤t.2.2.1∧t.2.2.1≤I0 N
theorem ahead.trans{a b c:Tie}(h:ahead a b)(h':ahead b c):ahead a c:=by
 unfold ahead at *
 omega
theorem ANO(N:Nat)(ts:List Tie):oks N ts↔(∀ t∈ts,valid N t)∧ts.Pairwise ahead:=by
 constructor
 ·intro h
  have hv:∀ i,i<ts.length→Mw N ts i:=fun i hi=>h i (by simpa using hi)
  refine⟨fun t ht => ?_,?_⟩
  ·obtain⟨i,hi,rfl⟩:=AqJ ht
   obtain⟨q1,q2,q3,q4,q5,_⟩:=hv i hi
   simp only[Aoj,Aon hi,ApF]at q1 q2 q3 q4 q5
   exact⟨q1,q2,q3,q4,q5⟩
  ·have key:∀ (d i:Nat),i+d+1<ts.length→ahead (ts.getD i zT) (ts.getD (i+d+1) zT):=by
    intro d
    induction d with
    |zero=>
     intro i hi
     obtain⟨_,_,_,_,_,q⟩:=hv (i+0+1) hi
     rcases q with q|q
     ·omega
     ·simpa using q
    |succ d ih=>
     intro i hi
     have h1:=ih i (by omega)
     obtain⟨_,_,_,_,_,q⟩:=hv (i+(d+1)+1) hi
     rcases q with q|q
     ·omega
     ·rw[show i+(d+1)+1-1=i+d+1 by omega]at q
      exact h1.trans q
   rw[AqI]
   intro i j hi hj hij
   have:=key (j-i-1) i (by omega)
   rw[show i+(j-i-1)+1=j by omega]at this
   simpa only[Aoj,Aon hi,Aon hj,ApF]using this
 ·rintro⟨h1,h2⟩ i hi
  have hi:i<ts.length:=by simpa using hi
  have e:∀ j (hj:j<ts.length),ts.getD j zT=ts[j]:=fun j hj=>by
   simp only[Aoj,Aon hj,ApF]
  obtain⟨q1,q2,q3,q4,q5⟩:=h1 ts[i] (Apy hi)
  unfold Mw
  rw[e i hi]
  refine⟨q1,q2,q3,q4,q5,?_⟩
  by_cases h0:i=0
  ·exact .inl h0
  ·right
   rw[e (i-1) (by omega)]
   exact(AqI.1 h2) (i-1) i (by omega) hi (by omega)
theorem AJs(l:List Tie)(t:Tie):(ADJ l t).Perm (t::l):=by
 unfold ADJ
 refine List.perm_middle.trans ?_
 rw[Ape]
theorem Ado{l:List Tie}{t:Tie}(h:l.Pairwise ahead)(hn:∀ x∈l,¬ (x.1=t.1∧x.2.1=t.2.1)):(ADJ l t).Pairwise ahead:=by
 induction l with
 |nil=>simp[ADJ]
 |cons a l ih=>
  rw[ApZ]at h
  have hna:=hn a (by simp)
  have hnl:∀ x∈l,¬ (x.1=t.1∧x.2.1=t.2.1):=fun x hx=>hn x (by simp[hx])
  by_cases ha:ahead a t
  ·have e:ADJ (a::l) t=a::ADJ l t:=by
    unfold ADJ
    rw[ArH]
    simp[ha]
   rw[e,ApZ]
   refine⟨fun x hx => ?_,ih h.2 hnl⟩
   rcases Aoo.1 ((AJs l t).mem_iff.1 hx)with rfl|hx
   ·exact ha
   ·exact h.1 x hx
  ·have e:ADJ (a::l) t=t::a::l:=by
    unfold ADJ
    rw[ArH]
    simp[ha]
   have hta:ahead t a:=by unfold ahead at *;omega
   rw[e,ApZ,ApZ]
   refine⟨fun x hx => ?_,h.1,h.2⟩
   rcases Aoo.1 hx with rfl|hx
   ·exact hta
   ·exact hta.trans (h.1 x hx)
end Go.Pev.Pl
end
section
namespace Go.Pev.Pl
theorem AYA(N:Nat)(l:List Edge)(x:Edge):x∈ADN N l↔0≤x.1∧x.1<x.2.1∧x.2.1<(N:Int)∧AmK l x.1 x.2.1:=by
 unfold ADN AlO
 simp only[Arv,Ao1,Apm,Apa,Aok]
 constructor
 ·rintro⟨u,hu,i,⟨hi,he⟩,rfl⟩
  exact⟨by show(0:Int)≤(u:Int);omega,by show(u:Int)<((u+1+i:Nat):Int);omega,by show((u+1+i:Nat):Int)<(N:Int);omega,he⟩
 ·obtain⟨a,b,⟨⟩⟩:=x
  rintro⟨h1,h2,h3,h4⟩
  simp only at h1 h2 h3 h4
  obtain⟨u,rfl⟩:=Aou h1
  obtain⟨v,rfl⟩:=Aou (show 0≤b by omega)
  refine⟨u,by omega,v-(u+1),⟨by omega,?_⟩,?_⟩
  ·rw[show u+1+(v-(u+1))=v by omega];exact h4
  ·rw[show u+1+(v-(u+1))=v by omega]
def APJ(p x:Edge):Prop:=p.1<x.1∨(p.1=x.1∧p.2.1<x.2.1)
theorem ARL(N:Nat)(l:List Edge):(ADN N l).Pairwise APJ:=by
 unfold ADN
 rw[List.pairwise_flatMap]
 refine⟨fun u _ => ?_,?_⟩
 ·unfold AlO
  rw[Aqa]
  refine ArO _ ?_
  refine List.pairwise_lt_range.imp fun h => ?_
  exact .inr ⟨rfl,by show((u+1+_:Nat):Int)<((u+1+_:Nat):Int);omega⟩
 ·refine List.pairwise_lt_range.imp fun h x hx y hy => ?_
  unfold AlO at hx hy
  simp only[Ao1]at hx hy
  obtain⟨i,_,rfl⟩:=hx
  obtain⟨j,_,rfl⟩:=hy
  exact .inl (by simp only;omega)
theorem Wr(N:Nat)(ts:List Tie)(l:List Edge)(x:Edge):x∈Ku N ts l↔(0≤x.1∧x.1<x.2.1∧x.2.1<(N:Int)∧AmK l x.1 x.2.1)∧¬ x∈ts.map ed:=by
 unfold Ku
 rw[Apm,AYA]
 simp
theorem AZk(N:Nat)(ts:List Tie)(l:List Edge):(Ku N ts l).Pairwise APJ:=(ARL N l).filter _
end Go.Pev.Pl
end
section
namespace Go.Pev.Pl
open Tok
instance (n v:Int):Decidable (In n v):=inferInstanceAs (Decidable (_∧_))
instance (n:Int):Decidable (Sz n):=inferInstanceAs (Decidable (_∧_))
theorem IQ(n v:Int):AFH (n,v,())=some (decide (In n v),()):=by
 rw[Abn,AN2]
 simp only[Ar,Af]
 by_cases h1:1≤n<;>by_cases h2:n≤64<;>by_cases h3:0≤v<;>simp[In,h1,h2,h3]
theorem AKq(n u v:Int):AGw (n,u,v,())=some (EF n u v,()):=by
 rw[AUj,AA7]
 simp only[IQ,EF,Au]
 by_cases h1:In n u
 ·by_cases h2:In n v
  ·by_cases h3:u=v
   ·simp[h1,h2,h3]
   ·obtain⟨a1,a2,a3,a4⟩:=h1
    obtain⟨b1,b2,b3,b4⟩:=h2
    have hb:=F4 a1 a2 a3 (by omega)
    have e1:u*n=n*u:=Int.mul_comm _ _
    have e2:n*(u+1)=n*u+n:=by rw[Arn,Aro]
    rw[e1,Ai (n:=n*u) (by omega),Ai (n:=n+n*u) (by omega),Ai (n:=n+n*u+v) (by omega),e2]
    have e3:n+n*u+v=n*u+n+v:=by omega
    simp[In,a1,a2,a3,a4,b3,b4,h3,e3]
  ·simp[h1,h2]
 ·simp[h1]
theorem Ym(n t:Int)(ht:-9223372036854775808≤t∧t≤9223372036854775807):Om (n,t,())=some (Pd (B8 n t)):=by
 rw[AB6,Ol]
 simp only[IQ,Af,Ar]
 by_cases hi:In n t
 ·simp only[hi,Aow,B8,ApL,Pd]
 ·simp only[hi,Ao9]
  by_cases h1:n<1
  ·have hs:¬ Sz n:=fun h=>by have:=h.1;omega
   simp only[h1,Aow,B8,hi,Ao3,hs,Aqq,Pd]
  ·simp only[h1,Ao9]
   by_cases h2:64<n
   ·have hs:¬ Sz n:=fun h=>by have:=h.2;omega
    simp only[h2,Aow,B8,hi,Ao3,hs,Aqq,Pd]
   ·have a1:1≤n:=by omega
    have a2:n≤64:=by omega
    have hb:=F4 (u:=n) a1 a2 (by omega) (by omega)
    have e3:n*(n+1)=n*n+n:=by rw[Arn,Aro]
    rw[Ai (n:=n*n) (by omega),Ai (n:=n+n*n) (by omega)]
    simp only[h2,Ao9]
    by_cases h3:t<n
    ·have:¬ n≤t:=by omega
     simp only[h3,Aow,B8,hi,Ao3,this,Aqq,and_false,Pd]
    ·simp only[h3,Ao9]
     by_cases h4:n+n*n≤t
     ·have:¬ t<n*(n+1):=by omega
      simp only[h4,Aow,B8,hi,Ao3,this,Aqq,and_false,Pd]
     ·obtain⟨d1,d2,d3⟩:=AOb (t:=t) ⟨a1,a2⟩ (by omega) (by omega)
      have q1:=d1.2.2.1
      have q2:=d1.2.2.2
      rw[Ai (n:=t-n) (by omega)]
      have hq:(t-n).tdiv n=t/n-1:=by
       rw[Aqe (by omega)]
       have:=Int.add_mul_ediv_right t (-1) (show n≠0 by omega)
       rw[show t-n=t + -1*n by omega,this];omega
      have hm:(t-n).tmod n=t % n:=by
       rw[Int.tmod_eq_emod_of_nonneg (by omega)]
       have:=Int.add_mul_emod_self_right t (-1) n
       rw[show t-n=t + -1*n by omega,this]
      simp only[h4,Ao9,WK,WL,AMk,ADG]
      rw[Aor (by omega),Aor (by omega),hq,hm,Ai (n:=t/n-1) (by omega)]
      simp only[]
      rw[Au,B8,Aor hi]
      by_cases h5:t/n-1=t % n
      ·rw[Aor (by intro h;exact h.2.2.2 h5),Aoi h5];rfl
      ·rw[Aoq ⟨⟨a1,a2⟩,by omega,by omega,h5⟩,Aog h5];rfl
theorem JD(xs ys:List (List Int))(hs:xs.length<9223372036854775808)(hi:∀ x∈xs,x.length<9223372036854775808):Lf (xs,ys,())=some (decide (xs=ys),()):=by
 rw[AEw,O6,AFJ]
 by_cases hl:xs.length=ys.length
 ·rw[Aoi hl]
  simp only[Aov]
  rcases AQr (step:=Dg) (fun i=>(xs,ys,((i:Nat):Int),())) xs.length (fun i => !decide (xs.getD i []=ys.getD i [])) (fun _=>.inl (false,())) (.inr (.inl ())) hs (fun i hii=>by
   have hm:(xs.getD i []).length<9223372036854775808:=hi _ (by simp[hii])
   rw[Dg,AM,AP,Aoi hii]
   simp (disch:=first|omega|exact hm) only[By ([]:List Int),AQ,Ln]
   by_cases h:xs.getD i []=ys.getD i []
   ·rw[Aoi h];simp
   ·rw[Aog h];simp) (by rw[Dg,AM,AP,Aog (by omega)])with⟨k,hk,hP,_,e⟩|⟨h,e⟩
  ·have e':AU Dg many (xs,ys,(0:Int),())=_:=e
   rw[e']
   have:xs≠ys:=ZN ([]:List Int) (j:=k) (by simpa using hP)
   simp[this]
  ·have e':AU Dg many (xs,ys,(0:Int),())=_:=e
   rw[e']
   have:xs=ys:=CX ([]:List Int) hl fun j hj=>by simpa using h j hj
   simp[this]
 ·rw[Aog hl]
  have:xs≠ys:=fun e=>hl (by rw[e])
  simp[this]
theorem AS1(N:Nat)(hN:N≤64)(c:Int):∀ (k i n:Nat),i+k=N→k<n→Ab F6 n ((N:Int),c,(N:Int),BT i,(i:Int),())=some (.inl (c,(N:Int),BT N,())):=by
 intro k
 induction k with
 |zero=>
  intro i n hi hn
  obtain⟨n,rfl⟩:∃ k,n=k+1:=⟨n-1,by omega⟩
  have:i=N:=by omega
  subst this
  rw[Ab,F6,AP,Aog (by omega)]
 |succ k ih=>
  intro i n hi hn
  obtain⟨n,rfl⟩:∃ k,n=k+1:=⟨n-1,by omega⟩
  rw[Ab,F6,AP,Aoi (by omega)]
  simp only[AM,Ys,Aot,ApA]
  rw[BK (by omega),AQ (by omega)]
  simp only[DC,← SA]
  exact ih (i+1) n (by omega) (by omega)
theorem AYM(n:Int):W4 (n,())=some (HV n):=by
 have hm:4294967296<many:=by simp only[many];omega
 rw[AKH,Sk,HV]
 simp only[Af]
 by_cases h1:n<1
 ·have:¬ Sz n:=fun h=>by have:=h.1;omega
  simp[h1,this]
 ·by_cases h2:64<n
  ·have:¬ Sz n:=fun h=>by have:=h.2;omega
   simp[h1,h2,this]
  ·obtain⟨N,rfl⟩:=Aou (show 0≤n by omega)
   have hS:Sz (N:Int):=⟨by omega,by omega⟩
   have e:=AS1 N (by omega) 0 N 0 many (by omega) (by omega)
   have e':Ab F6 many ((N:Int),0,(N:Int),[],(0:Int),())=_:=e
   simp[h1,h2,hS,Av,e']
end Go.Pev.Pl
end
section
namespace Go.Pev.Pl
theorem NO(xs:List Int)(t:Int)(hs:xs.length<9223372036854775808):I9 (xs,t,())=some (pos xs t,()):=by
 rw[ADa,O3]
 have e:=Pz (step:=EY) (fun i=>(xs,t,(i:Int),())) xs (fun x=>decide (x=t)) (fun i=>.inl ((i:Int),())) (.inr (.inl ())) hs
  (fun i x hi hx=>by
   rw[EY,AM,AP,Aoi hi]
   simp only[Ag hx,Au]
   by_cases h:x=t
   ·simp[h]
   ·simp only[h,Ao9];rw[AQ (by omega)];simp)
  (by rw[EY,AM,AP,Aog (by omega)])
 have e':AU EY many (xs,t,(0:Int),())=_:=e
 rw[e',AcA,pos]
 by_cases h:t∈xs<;>simp[h]
instance (xs:List Int):Decidable (Rt xs):=inferInstanceAs (Decidable (_∧_∧_))
theorem I8(xs:List Int):HS (xs,())=some (decide (Rt xs),()):=by
 rw[ADD,Ox,AM,Af]
 by_cases hl:xs.length≤1000
 ·rw[Aog (by omega)]
  simp only[]
  rcases AQr (step:=Dc) (fun i=>(xs,((i:Nat):Int),())) xs.length (fun i=>decide (xs.getD i 0<0)||decide (10000<xs.getD i 0)||decide (xs.getD i 0∈xs.take i)) (fun _=>.inl (false,())) (.inr (.inl ())) (by omega) (fun i hi=>by
   rw[Dc,AM,AP,Aoi hi]
   have hpl:I9 (xs.take i,xs.getD i 0,())=some (pos (xs.take i) (xs.getD i 0),()):=NO _ _ (by simp;omega)
   simp (disch:=omega) only[By (0:Int),QL,hpl,AQ,Af,Ar]
   by_cases h1:xs.getD i 0<0
   ·simp only[h1,Aow];simp
   ·by_cases h2:10000<xs.getD i 0
    ·simp only[h1,h2,Aow,Ao9];simp
    ·by_cases h3:xs.getD i 0∈xs.take i
     ·obtain⟨k,e,_⟩:=AMs h3
      rw[e]
      simp only[h1,h2,h3,Aow,Ao9];simp
     ·rw[SW h3]
      simp only[h1,h2,h3,Ao9];simp) (by rw[Dc,AM,AP,Aog (by omega)])with⟨k,hk,hP,_,e⟩|⟨h,e⟩
  ·have e':AU Dc many (xs,(0:Int),())=_:=e
   rw[e']
   have:¬ Rt xs:=by
    rintro⟨_,h1,h2⟩
    have hm:xs.getD k 0∈xs:=by
     rw[Aoj,Aon hk,ApF];exact Apy hk
    have:=h1 _ hm
    have h3:=(Sg xs).1 h2 k hk
    have c1:¬ xs.getD k 0<0:=by omega
    have c2:¬ 10000<xs.getD k 0:=by omega
    rw[Aog c1,Aog c2,Aog h3]at hP
    cases hP
   simp[this]
  ·have e':AU Dc many (xs,(0:Int),())=_:=e
   rw[e']
   have:Rt xs:=by
    have key:∀ j,j<xs.length→¬ xs.getD j 0<0∧¬ 10000<xs.getD j 0∧xs.getD j 0∉xs.take j:=fun j hj=>by
     have:=h j hj
     rw[Aqn,Aqn,Apg,Apg,Apg]at this
     exact⟨this.1.1,this.1.2,this.2⟩
    refine⟨hl,fun x hx => ?_,(Sg xs).2 fun j hj=>(key j hj).2.2⟩
    obtain⟨j,hj,rfl⟩:=AqJ hx
    obtain⟨k1,k2,_⟩:=key j hj
    rw[Aoj,Aon hj,ApF]at k1 k2
    omega
   simp[this]
 ·rw[Aoi (by omega)]
  have:¬ Rt xs:=fun h=>hl h.1
  simp[this]
theorem RA(xs:List Int)(t:Int)(hs:xs.length<9223372036854775808):RB (xs,t,())=some (JQ xs t):=by
 rw[AKY,TD,JQ]
 simp only[NO xs t hs,I8]
 by_cases hr:Rt xs
 ·have hl:=hr.1
  simp only[hr,Aow,Aov,Aq2]
  by_cases h:t∈xs
  ·have hk:xs.findIdx (fun x=>decide (x=t))<xs.length:=Aqv.2 ⟨t,h,by simp⟩
   rw[pos,Aoq h,Aoq h,A6,rot]
   generalize xs.findIdx (fun x=>decide (x=t))=k at *
   rw[Af,Aog (by omega)]
   simp only[H4 (AqS hk),QL (AqS hk)]
   rw[BK (by simp only[AM,ApA,ApW];omega)]
   simp only[]
   rw[BK (by simp only[AM,DC,ApI,Ao8,ApW];omega)]
   simp only[DC,ApI]
  ·rw[SW h,Aor h,Af]
   simp
 ·simp[hr]
theorem Yw(xs:List Int):O1 (xs,())=some (plain xs,()):=by
 rw[ADQ,O0,plain]
 simp only[I8]
 by_cases hr:Rt xs
 ·have hl:=hr.1
  simp only[hr,Aow,Aov,Aq2]
  cases xs with
  |nil=>simp[AM,B4]
  |cons x xs=>
   rw[AM,Au,Aog (by simp only[Aot];omega)]
   have i0:idx (x::xs) (0:Int)=some x:=by rw[Gz];rfl
   simp only[i0]
   have e:=Bx (step:=EW) (fun i (a:Int)=>(x::xs,a,(i:Int),())) (x::xs) (fun y a=>.inl (Cp a y)) (fun a=>.inl (x::xs,a,())) (fun _ _=>True) (by omega)
    (fun i y a hi hy _=>by
     refine⟨fun m' h' => ?_,fun r h'=>by cases h'⟩
     cases h'
     rw[EW,AM,AP,Aoi hi]
     simp only[Ag hy]
     rw[AQ (by omega)]
     exact⟨rfl,trivial⟩)
    (fun a _=>by rw[EW,AM,AP,Aog (by omega)]) x trivial
   have e':AU EW many (x::xs,x,(0:Int),())=_:=e
   rw[e',A2]
   have hmin:(x::xs).foldl (fun a y=>Cp a y) x=Gx (x::xs):=by
    rw[ApY,Gx]
    have:Cp x x=x:=by rw[Cp];split<;>rfl
    rw[this]
   rw[hmin]
   have hm:=(E6 (xs:=x::xs) (by simp)).1
   simp only[RA (x::xs) _ (by omega),JQ,hr,hm,and_self,ApL]
   simp
 ·simp[hr]
end Go.Pev.Pl
end
section
namespace Go.Pev.Pl
open Tok
noncomputable instance (n:Int) (xs:List Int):Decidable (TI n xs):=Classical.propDecidable _
end Go.Pev.Pl
end
section
namespace Go.Pev.Pl
open Tok
theorem ALw(n t u:Int)(ht:-9223372036854775808≤t∧t≤9223372036854775807):NC (n,t,u,())=some (LD n t u,()):=by
 rw[Yp,LF,LD]
 simp only[Ym n t ht,Au]
 cases B8 n t with
 |none=>rfl
 |some x=>cases x with
  |ver v=>
   by_cases h:v=u<;>simp[Pd,st,h]
  |arc p q=>
   by_cases h:q=u<;>simp[Pd,st,h]
end Go.Pev.Pl
end
section
namespace Go.Pev.Pl
open Tok
theorem Akn(n:Int)(l:List Int)(i:Nat)(hi:i<l.length)(hl:l.length<1073741824)(d5 d6 d7 d8:Bool)(d9 d10:Int)(d11:Bool)(d12 d13 d14 d15 d16:Int)(d17:Bool)(d18 d19 d20 d21 d22 d23 d24 d25 d26:Int)(d27:Bool):
  ∀ (m k cnt:Nat) (acc:List Int),k+m=l.length→acc.length≤k→m<cnt →
  Ab Fl cnt (n,l,(i:Int),acc,(k:Int),d5,d6,d7,d8,d9,d10,d11,d12,d13,d14,d15,d16,d17,d18,d19,d20,d21,d22,d23,d24,d25,d26,d27,()) =
   some (.inl (n,(i:Int),acc++(List.range' k m).map (fun k=>l.getD ((i+k) % l.length) 0),d5,d6,d7,d8,d9,d10,d11,d12,d13,d14,d15,d16,d17,d18,l,d19,d20,d21,d22,d23,d24,d25,d26,d27,())):=by
 intro m
 induction m with
 |zero=>
  intro k cnt acc hk ha hc
  obtain⟨cnt,rfl⟩:∃ c,cnt=c+1:=⟨cnt-1,by omega⟩
  rw[Ab,Fl,AM,AP,Aog (by omega)]
  simp
 |succ m ih=>
  intro k cnt acc hk ha hc
  obtain⟨cnt,rfl⟩:∃ c,cnt=c+1:=⟨cnt-1,by omega⟩
  have hm:(i+k) % l.length<l.length:=AqX _ (by omega)
  rw[Ab,Fl,AM,AP,Aoi (by omega)]
  simp only[]
  rw[wrap_add (by omega),FG (by omega)]
  simp only[By (0:Int) hm,Ib]
  rw[BK (by simp only[AM,Aot,ApA];omega),AQ (by omega)]
  simp only[DC]
  rw[ih (k+1) cnt _ (by omega) (by simp;omega) (by omega)]
  simp[Aru]
theorem AVO(n:Int)(l:List Int)(i:Nat)(hi:i<l.length)(h1:1<l.length)(hl:l.length<1073741824)(hr:∀ x∈l, -9223372036854775808≤x∧x≤9223372036854775807):
  Ci (n,l,false,(i:Int),())=if Li n l i then some (.inl (n,Ft l i,true,((i+1:Nat):Int),()))else some (.inl (n,l,false,((i+1:Nat):Int),())):=by
 have hmany:4294967296<many:=by simp only[many];omega
 have m1:(i+1) % l.length<l.length:=AqX _ (by omega)
 have m2:(i+2) % l.length<l.length:=AqX _ (by omega)
 have m0:(i+l.length-1) % l.length<l.length:=AqX _ (by omega)
 have hin:∀ {k:Nat},k<l.length→l.getD k 0∈l:=fun {k} hk=>by
  rw[Aoj,Aon hk,ApF];exact Apy hk
 have w2:IntKind.wrap .i64 ((i:Int)+2)=((i+2:Nat):Int):=by rw[Ai (by omega)];omega
 have w3:IntKind.wrap .i64 ((i:Int)+(l.length:Int))=((i+l.length:Nat):Int):=wrap_add (by omega)
 have w4:IntKind.wrap .i64 (((i+l.length:Nat):Int)-1)=((i+l.length-1:Nat):Int):=BC (by omega)
 have f4:ile (4:Int) (l.length:Int)=decide (4≤l.length):=by
  rw[Ar]
  by_cases h:4≤l.length
  ·rw[Aoi h,Aoi (by omega)]
  ·rw[Aog h,Aog (by omega)]
 rw[Ci,AM,AP,Aoi hi]
 simp only[ApR,By (0:Int) hi]
 rw[AQ (by omega),w2,FG (by omega),FG (by omega)]
 simp only[By (0:Int) m1,By (0:Int) m2,Ib,Ym n _ (hr _ (hin hi)),f4,Li]
 by_cases h4:4≤l.length
 ·simp only[h4,Aow,Aq1]
  cases ht:B8 n (l.getD i 0)with
  |none=>rfl
  |some t=>
   cases t with
   |ver v=>rfl
   |arc u v=>
    simp only[Pd,Au,AKq]
    by_cases c1:l.getD ((i+1) % l.length) 0=v
    ·simp only[c1,Aow,Aq1]
     by_cases c2:l.getD ((i+2) % l.length) 0=EF n v u
     ·simp only[c2,Aow,Aq1,w3,w4]
      rw[FG (by omega)]
      simp only[By (0:Int) m0,Ib,ALw n _ u (hr _ (hin m0))]
      cases LD n (l.getD ((i+l.length-1) % l.length) 0) u
      ·rfl
      ·simp only[ApL,Av]
       have e:=Akn n l i hi hl false true true true v v true (EF n v u) n v u (EF n v u) true n (i:Int) (l.length:Int) ((i+l.length:Nat):Int) ((i+l.length-1:Nat):Int) (l.length:Int) (((i+l.length-1) % l.length:Nat):Int) (l.getD ((i+l.length-1) % l.length) 0) u true (l.length-3) 3 many [] (by omega) (by simp) (by omega)
       have e':Ab Fl many (n,l,(i:Int),[],(3:Int),_)=_:=e
       simp only[e',AQ (show i+1<9223372036854775808 by omega)]
       rfl
     ·simp only[c2,Ao9,Aqt,Ao5,Ao3]
    ·simp only[c1,Ao9,Aqt,Ao5,Ao3]
 ·simp only[h4,Ao9,Aqt,Ao5,Ao3]
theorem Ako(n:Int)(l:List Int)(h1:1<l.length)(hl:l.length<1073741824)(hr:∀ x∈l, -9223372036854775808≤x∧x≤9223372036854775807):
  ∀ (m i cnt:Nat),i+m=l.length→m+1<cnt →
  (∃ k,k<l.length∧Li n l k=true∧Ab Ci cnt (n,l,false,(i:Int),())=some (.inl (n,Ft l k,true,()))) ∨
  ((∀ k,i≤k→k<l.length→Li n l k=false)∧Ab Ci cnt (n,l,false,(i:Int),())=some (.inl (n,l,false,()))):=by
 intro m
 induction m with
 |zero=>
  intro i cnt hi hc
  obtain⟨cnt,rfl⟩:∃ c,cnt=c+1:=⟨cnt-1,by omega⟩
  right
  refine⟨fun k q1 q2=>by omega,?_⟩
  rw[Ab,Ci,AM,AP,Aog (by omega)]
 |succ m ih=>
  intro i cnt hi hc
  obtain⟨cnt,rfl⟩:∃ c,cnt=c+1:=⟨cnt-1,by omega⟩
  rw[Ab,AVO n l i (by omega) h1 hl hr]
  cases hlf:Li n l i
  ·simp only[Ao5,Ao3]
   rcases ih (i+1) cnt (by omega) (by omega)with h|⟨h,e⟩
   ·exact .inl h
   ·refine .inr ⟨fun k q1 q2 => ?_,e⟩
    by_cases ek:k=i
    ·rw[ek];exact hlf
    ·exact h k (by omega) q2
  ·simp only[ApL]
   obtain⟨cnt,rfl⟩:∃ c,cnt=c+1:=⟨cnt-1,by omega⟩
   refine .inl ⟨i,by omega,hlf,?_⟩
   rw[Ab,Ci]
   cases ilt ((i+1:Nat):Int) (AK (Ft l i))<;>rfl
theorem Akp(n:Int):∀ (m:Nat) (l:List Int) (cnt:Nat),l.length=m→l.length<1073741824→(∀ x∈l, -9223372036854775808≤x∧x≤9223372036854775807)→l.Nodup→m<cnt →
  (¬ TI n l∧Ab He cnt (n,l,())=some (.inl (false,()))) ∨
  ∃ l',Ab He cnt (n,l,())=some (.inr (.inl (n,l',())))∧l'.length≤1∧(TI n l↔TI n l'):=by
 intro m
 induction m using Nat.strongRecOn with
 |_ m ih=>
 intro l cnt hm hl hr hn hc
 have hmany:4294967296<many:=by simp only[many];omega
 obtain⟨cnt,rfl⟩:∃ c,cnt=c+1:=⟨cnt-1,by omega⟩
 rw[Ab,He,AM,Af]
 by_cases h1:1<l.length
 ·rw[Aoi (by omega)]
  simp only[Av]
  rcases Ako n l h1 hl hr l.length 0 many (by omega) (by omega)with⟨k,k1,k2,e⟩|⟨k1,e⟩
  ·have e':Ab Ci many (n,l,false,(0:Int),())=_:=e
   simp only[e',Aov]
   have hred:=AYg k1 k2
   have hiff:=AnR hred hn
   have hlen:(Ft l k).length=l.length-3:=by simp[Ft]
   rcases ih (l.length-3) (by omega) (Ft l k) cnt hlen (by omega) (fun x hx=>hr x (AWp k1 x hx)) (Adn hred hn) (by omega)with⟨q1,q2⟩|⟨l',q1,q2,q3⟩
   ·exact .inl ⟨fun h=>q1 (hiff.1 h),q2⟩
   ·exact .inr ⟨l',q1,q2,hiff.trans q3⟩
  ·have e':Ab Ci many (n,l,false,(0:Int),())=_:=e
   simp only[e',ApR]
   refine .inl ⟨fun h => ?_,by trivial⟩
   obtain⟨l',hl'⟩:=An3 h h1
   obtain⟨i,i1,i2⟩:=AWt hl'
   rw[k1 i (by omega) i1]at i2
   cases i2
 ·rw[Aog (by omega)]
  exact .inr ⟨l,rfl,by omega,Iff.rfl⟩
theorem AVP(n:Int)(l:List Int)(hl:l.length<1073741824)(hr:∀ x∈l, -9223372036854775808≤x∧x≤9223372036854775807)(hn:l.Nodup):ABw (n,l,())=some (decide (TI n l),()):=by
 have hmany:4294967296<many:=by simp only[many];omega
 rw[AJP,R5,BK (by simp only[AM,ApA];omega)]
 simp only[DC,ApI,Av]
 rcases Akp n l.length l many rfl hl hr hn (by omega)with⟨q1,q2⟩|⟨l',q1,q2,q3⟩
 ·rw[q2,Aog q1]
 ·rw[q1]
  simp only[AM,Au]
  match l',q2,q3 with
  |[],_,q3=>
   have:¬ TI n l:=fun h=>Aka n (q3.1 h)
   simp[this]
  |[t],_,q3=>
   rw[AkZ]at q3
   have i0:idx [t] (0:Int)=some t:=by rw[Gz];rfl
   have d0:Ac [t] 0 (0:Int)=t:=rfl
   rw[Aoi (by simp)]
   simp only[i0,d0,IQ]
   by_cases h:In n t
   ·rw[Aoi h,Aoi (q3.2 h)]
   ·rw[Aog h,Aog (fun h2=>h (q3.1 h2))]
end Go.Pev.Pl
end
section
namespace Go.Pev.Pl
open Tok
noncomputable instance (n:Int) (rings:List (List Int)):Decidable (RF n rings):=Classical.propDecidable _
noncomputable instance (n:Int) (xs:List Int):Decidable (RG n xs):=Classical.propDecidable _
end Go.Pev.Pl
end
end
section
section
namespace Go.Pev.Pl
open Tok
theorem AHw(N:Nat)(hN:N≤64)(l:List Int)(hl:l.length<1073741824)(h0:∀ t∈l,0≤t)(d1:List (List Int))(d3 d5:Int)(d8:List Int)(d9:Int)(d10:Bool)(d11:Int)(d12:List Int)(d13 d14:Bool)(d15 d16:List Int)(d17:List (List Int))(d18:List Int)(d19:List (List Int))(d20 d21:Bool)(d22:List Int)(d23 d24:Int)(d25:Bool):
  ∀ (m k cnt:Nat) (met:List Bool) (seen:List Int),k+m=l.length→MB N met seen→(l.drop k).Nodup→seen.length+m<4611686018427387904→m<cnt →
  ((∀ t∈l.drop k,t<(N:Int)→t∉seen)∧∃ met',Ab C0 cnt ((N:Int),d1,met,d3,(seen.length:Int),d5,l,(k:Int),d8,d9,d10,d11,d12,d13,d14,d15,d16,d17,d18,d19,d20,d21,d22,d23,d24,d25,()) =
    some (.inr (.inl ((N:Int),d1,met',d3,((seen++(l.drop k).filter (fun t=>decide (t<(N:Int)))).length:Int),d5,d8,d9,d10,d11,d12,d13,d14,d15,d16,d17,d18,d19,d20,d21,d22,d23,d24,d25,())))∧MB N met' (seen++(l.drop k).filter (fun t=>decide (t<(N:Int))))) ∨
  (¬ (∀ t∈l.drop k,t<(N:Int)→t∉seen)∧Ab C0 cnt ((N:Int),d1,met,d3,(seen.length:Int),d5,l,(k:Int),d8,d9,d10,d11,d12,d13,d14,d15,d16,d17,d18,d19,d20,d21,d22,d23,d24,d25,())=some (.inl (false,()))):=by
 intro m
 induction m with
 |zero=>
  intro k cnt met seen hk hm hn hsl hc
  obtain⟨cnt,rfl⟩:∃ c,cnt=c+1:=⟨cnt-1,by omega⟩
  have e:l.drop k=[]:=Apz (by omega)
  rw[e]
  refine .inl ⟨by simp,met,?_,by simpa using hm⟩
  rw[Ab,C0,AM,AP,Aog (by omega)]
  simp
 |succ m ih=>
  intro k cnt met seen hk hm hn hsl hc
  obtain⟨cnt,rfl⟩:∃ c,cnt=c+1:=⟨cnt-1,by omega⟩
  have hk':k<l.length:=by omega
  have e:l.drop k=l.getD k 0::l.drop (k+1):=by
   rw[Apc hk',Aoj,Aon hk',ApF]
  have hpos:0≤l.getD k 0:=h0 _ (by rw[Aoj,Aon hk',ApF];exact Apy hk')
  rw[Ab,C0,AM,AP,Aoi hk']
  simp only[By (0:Int) hk']
  rw[e]at hn ⊢
  generalize l.getD k 0=t at *
  rw[ApJ]at hn
  rw[AQ (show k+1<9223372036854775808 by omega),Af]
  by_cases ht:t<(N:Int)
  ·rw[Aoi ht]
   obtain⟨q,rfl⟩:=Aou hpos
   have hq:q<met.length:=by rw[hm.1];omega
   have hmq:=hm.2 q (by omega)
   simp only[By false hq,Ib,N5,hmq]
   by_cases hs:(q:Int)∈seen
   ·rw[Aoi hs]
    exact .inr ⟨fun h=>h (q:Int) (by simp) ht hs,rfl⟩
   ·rw[Aog hs]
    simp only[]
    have hm':MB N (met.set q true) (seen++[(q:Int)]):=by
     refine⟨by simp[hm.1],fun y hy => ?_⟩
     by_cases e2:y=q
     ·subst e2
      simp[Aoj,hq]
     ·have h3:=hm.2 y hy
      have e3:¬ (y:Int)=(q:Int):=by omega
      rw[Aoj,ApM (ApN e2),← Aoj,h3]
      simp[e3]
    have hlen:(((seen.length:Nat):Int))=((seen.length:Nat):Int):=rfl
    have hw:IntKind.wrap .i64 ((seen.length:Int)+1)=((seen++[(q:Int)]).length:Int):=by
     rw[Ai (by omega)];simp
    rw[hw]
    have hiff:(∀ y∈(q:Int)::l.drop (k+1),y<(N:Int)→y∉seen)↔∀ y∈l.drop (k+1),y<(N:Int)→y∉seen++[(q:Int)]:=by
     constructor
     ·intro h y hy hyn hm2
      simp only[Aom,ApB]at hm2
      rcases hm2 with h2|rfl
      ·exact h y (Ao7 _ hy) hyn h2
      ·exact hn.1 hy
     ·intro h y hy hyn hm2
      rcases Aoo.1 hy with rfl|hy
      ·exact hs hm2
      ·exact h y hy hyn (by simp[hm2])
    rcases ih (k+1) cnt _ _ (by omega) hm' hn.2 (by simp;omega) (by omega)with⟨q1,met',q2,q3⟩|⟨q1,q2⟩
    ·refine .inl ⟨hiff.2 q1,met',?_,?_⟩
     ·rw[Arj (by simpa using ht)]
      rw[q2,Apu]
      rfl
     ·rw[Arj (by simpa using ht)]
      simpa using q3
    ·exact .inr ⟨fun h=>q1 (hiff.1 h),q2⟩
  ·rw[Aog ht]
   simp only[]
   have hiff:(∀ y∈t::l.drop (k+1),y<(N:Int)→y∉seen)↔∀ y∈l.drop (k+1),y<(N:Int)→y∉seen:=by
    constructor
    ·intro h y hy;exact h y (Ao7 _ hy)
    ·intro h y hy hyn
     rcases Aoo.1 hy with rfl|hy
     ·exact absurd hyn ht
     ·exact h y hy hyn
   rcases ih (k+1) cnt _ _ (by omega) hm hn.2 (by omega) (by omega)with⟨q1,met',q2,q3⟩|⟨q1,q2⟩
   ·refine .inl ⟨hiff.2 q1,met',?_,?_⟩
    ·rw[Ark (by simpa using ht)]
     exact q2
    ·rw[Ark (by simpa using ht)]
     exact q3
   ·exact .inr ⟨fun h=>q1 (hiff.1 h),q2⟩
theorem AAK(N:Nat)(hN1:1≤N)(hN:N≤64)(rings:List (List Int))(hlen:rings.length≤64)(hr:∀ l∈rings,l.length<9223372036854775808∧∀ x∈l, -9223372036854775808≤x∧x≤9223372036854775807):
  ∀ (ls:List (List Int)) (i cnt:Nat) (met:List Bool) (last:Int) (seen:List Int),rings.drop i=ls→i≤rings.length→MB N met seen→seen.length≤i*1073741824→ls.length<cnt →
  (okR (N:Int) seen last ls∧∃ met' seen',Ab C1 cnt ((N:Int),rings,met,last,(seen.length:Int),(i:Int),())=some (.inr (.inl ((N:Int),rings,(seen'.length:Int),())))∧MB N met' seen'∧seen'=seen++ls.flatten.filter (fun t=>decide (t<(N:Int)))) ∨
  (¬ okR (N:Int) seen last ls∧Ab C1 cnt ((N:Int),rings,met,last,(seen.length:Int),(i:Int),())=some (.inl (false,()))):=by
 have hmany:4294967296<many:=by simp only[many];omega
 intro ls
 induction ls with
 |nil=>
  intro i cnt met last seen hd hi hm hsl hc
  obtain⟨cnt,rfl⟩:∃ c,cnt=c+1:=⟨cnt-1,by simp at hc;omega⟩
  have:rings.length≤i:=by simpa using hd
  refine .inl ⟨trivial,met,seen,?_,hm,by simp⟩
  rw[Ab,C1,AM,AP,Aog (by omega)]
 |cons l ls ih=>
  intro i cnt met last seen hd hi hm hsl hc
  simp only[Aot]at hc
  obtain⟨cnt,rfl⟩:∃ c,cnt=c+1:=⟨cnt-1,by omega⟩
  have hi':i<rings.length:=by
   refine Apj fun h => ?_
   rw[Apz (by omega)]at hd
   cases hd
  rw[Apc hi']at hd
  simp only[Ao4]at hd
  obtain⟨hd1,hd2⟩:=hd
  have hx:rings[i]? = some l:=by rw[Aon hi',hd1]
  have hmem:l∈rings:=Aox hx
  obtain⟨hl,hlr⟩:=hr l hmem
  rw[Ab,C1,AM,AP,Aoi hi',okR]
  simp only[Ag hx,I8]
  by_cases c2:Rt l
  ·rw[Aoi c2]
   have hl:l.length<1073741824:=by have:=c2.1;omega
   simp only[Aov]
   cases l with
   |nil=>
    rw[AM,Au,Aoi (by simp)]
    exact .inr ⟨fun h=>h.1.2.1 rfl,rfl⟩
   |cons x tl=>
    rw[AM,Au,Aog (by simp only[Aot];omega)]
    simp only[AVP (N:Int) (x::tl) hl hlr c2.2.2]
    by_cases c4:TI (N:Int) (x::tl)
    ·rw[Aoi c4]
     simp only[Aov,Yw]
     rw[JD _ _ (by simp) (by
      intro y hy
      simp only[ApB]at hy
      subst hy
      obtain⟨a,b,q1,q2⟩:=IC c2 (by simp)
      have:=AqD List.length q1
      rw[q2]
      simp only[Aot,Aos]at this hl ⊢
      omega)]
     have hps:=ADM c2 (by simp)
     have hps2:([plain (x::tl)]=[x::tl])↔Gx (x::tl)=x:=by simpa using hps
     by_cases c3:Gx (x::tl)=x
     ·rw[Aoi (hps2.2 c3)]
      have i0:idx (x::tl) (0:Int)=some x:=by rw[Gz];rfl
      simp only[Aov,i0,Arb,Ar]
      by_cases c1:x≤last
      ·rw[Aoi c1]
       exact .inr ⟨fun h=>by omega,rfl⟩
      ·rw[Aog c1]
       simp only[Av]
       have hRG:RG (N:Int) (x::tl):=⟨c2,by simp,c3,c4⟩
       rcases AHw N hN (x::tl) hl (fun t ht=>(c2.2.1 t ht).1) rings x (i:Int) (x::tl) ((x::tl).length:Int) false (N:Int) (x::tl) true false (x::tl) (plain (x::tl)) [plain (x::tl)] (x::tl) [x::tl] true false (x::tl) x last false (x::tl).length 0 many met seen (by omega) hm (by rw[Aqk];exact c2.2.2) (by omega) (by omega)with⟨q1,met',q2,q3⟩|⟨q1,q2⟩
       ·rw[Aqk]at q1 q3 q2
        have q2':Ab C0 many ((N:Int),rings,met,x,(seen.length:Int),(i:Int),x::tl,(0:Int),x::tl,((x::tl).length:Int),false,(N:Int),x::tl,true,false,x::tl,plain (x::tl),[plain (x::tl)],x::tl,[x::tl],true,false,x::tl,x,last,false,())=_:=q2
        simp only[q2',AQ (show i+1<9223372036854775808 by omega)]
        have hfl:((x::tl).filter (fun t=>decide (t<(N:Int)))).length≤(x::tl).length:=List.length_filter_le _ _
        rcases ih (i+1) cnt met' x (seen++(x::tl).filter (fun t=>decide (t<(N:Int)))) hd2 (by omega) q3 (by rw[Aos];omega) (by omega)with⟨p1,met2,seen2,p2,p3,p4⟩|⟨p1,p2⟩
        ·refine .inl ⟨⟨hRG,by omega,q1,p1⟩,met2,seen2,p2,p3,?_⟩
         rw[p4,Aqo,Aqy,Apu]
        ·exact .inr ⟨fun h=>p1 h.2.2.2,p2⟩
       ·rw[Aqk]at q1
        have q2':Ab C0 many ((N:Int),rings,met,x,(seen.length:Int),(i:Int),x::tl,(0:Int),x::tl,((x::tl).length:Int),false,(N:Int),x::tl,true,false,x::tl,plain (x::tl),[plain (x::tl)],x::tl,[x::tl],true,false,x::tl,x,last,false,())=_:=q2
        simp only[q2']
        exact .inr ⟨fun h=>q1 h.2.2.1,by trivial⟩
     ·rw[Aog (fun h=>c3 (hps2.1 h))]
      exact .inr ⟨fun h=>c3 h.1.2.2.1,rfl⟩
    ·rw[Aog c4]
     exact .inr ⟨fun h=>c4 h.1.2.2.2,rfl⟩
  ·rw[Aog c2]
   exact .inr ⟨fun h=>c2 h.1.1,rfl⟩
theorem Ex(n:Int)(rings:List (List Int))(hlen:rings.length<1073741824)(hr:∀ l∈rings,l.length<9223372036854775808∧∀ x∈l, -9223372036854775808≤x∧x≤9223372036854775807):
  LN ((n,(rings,())),())=some (decide (RF n rings),()):=by
 have hmany:4294967296<many:=by simp only[many];omega
 rw[AC9,Ov]
 simp only[Af,AM]
 by_cases h1:n<1
 ·rw[Aoi h1,Aog (show ¬ RF n rings from fun h=>by have:=h.1.1;omega)]
 ·rw[Aog h1]
  simp only[]
  by_cases h2:64<n
  ·rw[Aoi h2,Aog (show ¬ RF n rings from fun h=>by have:=h.1.2;omega)]
  ·rw[Aog h2]
   simp only[]
   by_cases h3:n<(rings.length:Int)
   ·rw[Aoi h3,Aog (show ¬ RF n rings from fun h=>by
     have:=AbP (by omega) h.2.1 (by omega) (by omega)
     omega)]
   ·rw[Aog h3]
    obtain⟨N,rfl⟩:=Aou (show 0≤n by omega)
    have f1:DM (N:Int)=true:=(D5 _).2 (by omega)
    have f2:ile (N:Int) (N:Int)=true:=by rw[Ar];simp
    simp only[f1,f2,Apo,Bool.and_true,Av]
    have hMB:MB N (D6 (AO (N:Int)) false) []:=by
     refine⟨by simp[D6,Ia],fun k hk => ?_⟩
     simp[D6,Ia,hk]
    rcases AAK N (by omega) (by omega) rings (by omega) hr rings 0 many _ (-1) [] (by simp) (by omega) hMB (by simp) (by omega)with⟨p1,met,seen,p2,p3,p4⟩|⟨p1,p2⟩
    ·have p2':Ab C1 many ((N:Int),rings,D6 (AO (N:Int)) false, -1,(0:Int),(0:Int),())=_:=p2
     simp only[p2',Au]
     obtain⟨q1,q2⟩:=AeN p1 (by simp)
     rw[← p4]at q1
     have hsub:∀ x∈seen,x∈(List.range N).map (fun(k:Nat)=>(k:Int)):=by
      intro x hx
      rw[p4]at hx
      simp only[ApI,Apm,Art,Aok]at hx
      obtain⟨⟨l,hl,hxl⟩,hxn⟩:=hx
      have:=((q2 l hl).1.2.1 x hxl).1
      rw[Ao1]
      exact⟨x.toNat,by rw[Apa];omega,by omega⟩
     have hv:∀ v,v∈seen↔(v<(N:Int)∧v∈rings.flatten):=fun v=>by rw[p4,ApI,Apm,Aok,and_comm]
     have hS:Sz (N:Int):=⟨by omega,by omega⟩
     by_cases hc:(seen.length:Int)=(N:Int)
     ·rw[Aoi hc,Aoi]
      refine⟨hS,p1,fun v v1 v2 => ?_⟩
      have:=Sf q1 hsub (by simp;omega) v (by rw[Ao1];exact⟨v.toNat,by rw[Apa];omega,by omega⟩)
      exact((hv v).1 this).2
     ·rw[Aog hc,Aog]
      rintro⟨_,_,h⟩
      have a1:=DQ q1 hsub
      have hrn:((List.range N).map (fun(k:Nat)=>(k:Int))).Nodup:=by
       rw[List.Nodup,Aqa]
       exact List.nodup_range.imp fun h e=>h (by omega)
      have a2:=DQ (a:=(List.range N).map (fun(k:Nat)=>(k:Int))) (b:=seen) hrn fun x hx=>by
       rw[Ao1]at hx
       obtain⟨k,hk,rfl⟩:=hx
       rw[Apa]at hk
       exact(hv _).2 ⟨by omega,h (k:Int) (by omega) (by omega)⟩
      simp only[Apl,Ao0]at a1 a2
      omega
    ·have p2':Ab C1 many ((N:Int),rings,D6 (AO (N:Int)) false, -1,(0:Int),(0:Int),())=_:=p2
     simp only[p2']
     rw[Aog (fun h=>p1 h.2.1)]
end Go.Pev.Pl
end
section
namespace Go.Pev.Pl
open Tok
theorem NN(n:Int)(rings:List (List Int))(v:Int)(hlen:rings.length<1073741824)(hr:∀ l∈rings,l.length<9223372036854775808):HT ((n,(rings,())),v,())=some (plc rings v,()):=by
 rw[ADX,O2]
 have e:=Pz (step:=EX) (fun i=>(v,n,rings,(i:Int),())) rings (fun l=>decide (v∈l)) (fun i=>.inl ((i:Int),())) (.inr (.inl ())) (by omega)
  (fun i l hi hx=>by
   have hl:=hr l (Aox hx)
   rw[EX,AM,AP,Aoi hi]
   simp only[Ag hx,NO l v (by omega)]
   rw[AQ (by omega),Ar]
   by_cases h:v∈l
   ·obtain⟨k,e,_⟩:=AMs h
    rw[e,Aoi (by omega),Aoi h];rfl
   ·rw[SW h,Aog (by omega),Aog h];rfl)
  (by rw[EX,AM,AP,Aog (by omega)])
 have e':AU EX many (v,n,rings,(0:Int),())=_:=e
 simp only[e',plc]
 cases rings.any (fun l=>decide (v∈l))<;>rfl
end Go.Pev.Pl
end
section
namespace Go.Pev.Pl
open Tok
theorem Adp(rest:List (List Int))(r:List Int)(hlen:rest.length<1073741824)(hne:∀ l∈rest,l≠[])(hp:plain r≠[]):AJu (rest,r,())=some (ADK rest (plain r),()):=by
 rw[ARH,AAu]
 simp only[Yw]
 generalize plain r=p at *
 have e:=Pz (step:=IA) (fun i=>(rest,p,(i:Int),())) rest (fun x => !decide (hd x<hd p)) (fun i=>.inl (rest,p,(i:Int),())) (.inl (rest,p,(rest.length:Int),())) (by omega)
  (fun i x hi hx=>by
   rw[IA,AM,AP,Aoi hi]
   simp only[Ag hx,Abo (hne x (Aox hx)),Abo hp,Aj5,Af]
   rw[AQ (by omega)]
   by_cases h:hd x<hd p
   ·rw[Aoi h];rfl
   ·rw[Aog h];rfl)
  (by rw[IA,AM,AP,Aog (by omega)])
 have e':AU IA many (rest,p,(0:Int),())=_:=e
 have hk:(if rest.any (fun x => !decide (hd x<hd p))then(.inl (rest,p,((rest.findIdx fun x => !decide (hd x<hd p):Nat):Int),()):(List (List Int)×List Int×Int×Unit)⊕Unit)else .inl (rest,p,(rest.length:Int),())) = .inl (rest,p,((rest.findIdx fun x => !decide (hd x<hd p):Nat):Int),()):=by
  split
  ·rfl
  ·rename_i h
   rw[List.findIdx_eq_length.2 fun x hx=>by
    refine Apj fun hc=>h (Aq9.2 ⟨x,hx,by simpa using hc⟩)]
 rw[e',hk]
 have hle:(rest.findIdx fun x => !decide (hd x<hd p))≤rest.length:=List.findIdx_le_length
 rw[ADK]
 generalize (rest.findIdx fun x => !decide (hd x<hd p))=k at *
 simp only[QL hle,H4 hle]
 rw[BK (by simp only[AM,ApA,Ao8];omega)]
 simp only[]
 rw[BK (by simp only[AM,DC,Aos,Aot,ApA,Ao8];omega)]
 simp only[]
 rw[BK (by simp only[AM,DC,Aos,Aot,ApA,Ao8,ApW];omega)]
 simp only[DC,ApI,Apu,Aq0]
theorem Pm(l:List (List Int))(i:Nat)(hi:i<l.length)(hlen:l.length<1073741824):Er (l,(i:Int),())=some (l.eraseIdx i,()):=by
 rw[Rp,I2]
 rw[AQ (by omega)]
 simp only[QL (AqS hi),H4 (show i+1≤l.length by omega)]
 rw[BK (by simp only[AM,ApA,Ao8];omega)]
 simp only[]
 rw[BK (by simp only[AM,DC,Aos,ApA,Ao8,ApW];omega)]
 simp only[DC,ApI,List.eraseIdx_eq_take_drop_succ]
end Go.Pev.Pl
end
section
namespace Go.Pev.Pl
open Tok
theorem Aks(n:Int)(rings:List (List Int))(v:Int)(hD:Dom rings):tof ((n,(rings,())),v,())=some (if RF n rings∧In n v then plc rings v else -1,()):=by
 rw[Agw,Aag]
 simp only[AAp,QF n rings hD.1 hD.2,Hy n rings v hD.1 (fun l hl=>(hD.2 l hl).1)]
 by_cases h1:In n v
 ·by_cases h2:RF n rings<;>simp[h1,h2]
 ·simp[h1]
end Go.Pev.Pl
end
section
namespace Go.Pev.Pl
open Go.RowKit Tok
end Go.Pev.Pl
end
section
namespace Go.Pev.Pl
open Tok
end Go.Pev.Pl
end
section
namespace Go.Pev.Pl
open Tok
theorem ATB{n:Int}{rings:List (List Int)}{u v:Int}(h:FR n rings)(iu:In n u)(iv:In n v)(hp:plc rings u=plc rings v):
  NA ((n,(rings,())),u,v,())=some (n,rings,5,())∧Nh ((n,(rings,())),u,v,())=some (n,rings,5,()):=by
 have hD:=h.dom
 have hRF:=MO.2 h
 constructor
 ·rw[H3,HN]
  simp only[Hn n rings u v hD,hRF,iu,iv,and_self,ApL,Au,Hy n rings _ hD.1 (fun l hl=>(hD.2 l hl).1),hp,Aow,Aov]
 ·rw[Ki,IM]
  simp only[Ex n rings hD.1 hD.2,hRF,IQ,iu,iv,Aow,Aov,NN n rings _ hD.1 (fun l hl=>(hD.2 l hl).1),Au,hp]
theorem Ai4{n:Int}{rings:List (List Int)}{u v:Int}{i j:Nat}{A B:List Int}(h:FR n rings)(iu:In n u)(iv:In n v)(hi:rings[i]? = some A)(hj:rings[j]? = some B)(hu:u∈A)(hv:v∈B)(hij:i≠j):
  ∃ zs rest,NA ((n,(rings,())),u,v,())=some (n,zs,0,())∧Nh ((n,(rings,())),u,v,())=some (n,zs,0,())∧FR n zs∧rings.Perm (A::B::rest)∧zs.Perm (plain (BG n A B u v)::rest)∧Dis n A B:=by
 have hD:=h.dom
 have hRF:=MO.2 h
 have rA:=h.rg A (Aox hi)
 have rB:=h.rg B (Aox hj)
 have hil:=(Apn.1 hi).1
 have hjl:=(Apn.1 hj).1
 have pu:plc rings u=(i:Int):=h.AMt hi iu.2.2.2 hu
 have pv:plc rings v=(j:Int):=h.AMt hj iv.2.2.2 hv
 have hperm:rings.Perm (A::B::(rings.eraseIdx (max i j)).eraseIdx (min i j)):=by
  rcases Are hij with g|g
  ·rw[ArA (by omega),Aps (by omega)]
   exact JU g hi hj
  ·rw[ArF (by omega),ArS (by omega)]
   exact(JU g hj hi).trans (List.Perm.swap _ _ _)
 have hdis:Dis n A B:=by
  have:=Kr hperm h.dis
  rw[ApZ]at this
  exact this.1 B (by simp)
 obtain⟨l1,l2,l3,huv,ho⟩:=O8 rA.2.2.2 rB.2.2.2 hu hv iu iv hdis
 obtain⟨hRG,hrot⟩:=AGz l1
 have hall:BG n A B u v=u::EF n u v::(A6 B v++EF n v u::(A6 A u).tail):=rfl
 have lA:(A6 A u).length≤1000:=by rw[← (Cb hu).perm.length_eq];exact rA.1.1
 have lB:(A6 B v).length≤1000:=by rw[← (Cb hv).perm.length_eq];exact rB.1.1
 have hsub:((rings.eraseIdx (max i j)).eraseIdx (min i j)).Sublist rings:=(ArM _ _).trans (ArM _ _)
 have hw1:Er (rings,((max i j:Nat):Int),())=some (rings.eraseIdx (max i j),()):=Pm _ _ (by omega) hD.1
 have hel:(rings.eraseIdx (max i j)).length=rings.length-1:=by rw[List.length_eraseIdx];rw[Aoq (by omega)]
 have hw2:Er (rings.eraseIdx (max i j),((min i j:Nat):Int),())=some ((rings.eraseIdx (max i j)).eraseIdx (min i j),()):=Pm _ _ (by omega) (by have:=hD.1;omega)
 have hdrop:Cq (fun k=>decide ((k:Int)∈[(i:Int),(j:Int)])) 0 rings=(rings.eraseIdx (max i j)).eraseIdx (min i j):=by
  rcases Are hij with g|g
  ·rw[ArA (by omega),Aps (by omega)]
   exact L9 _ i j g rings 0 (by omega) fun k _=>Aqj.2 (by simp only[Aoo,Aqi,ArR];omega)
  ·rw[ArF (by omega),ArS (by omega)]
   exact L9 _ j i g rings 0 (by omega) fun k _=>Aqj.2 (by simp only[Aoo,Aqi,ArR];omega)
 have hrl:((rings.eraseIdx (max i j)).eraseIdx (min i j)).length≤rings.length:=hsub.length_le
 generalize (rings.eraseIdx (max i j)).eraseIdx (min i j)=rest at *
 have hupr:rest.Pairwise (fun a b=>hd a<hd b):=h.up.sublist hsub
 have hner:∀ l∈rest,l≠[]:=fun l hl=>(h.rg l (hsub.subset hl)).2.1
 have hdd:=Kr hperm h.dis
 rw[ApZ,ApZ]at hdd
 have hheads:∀ x∈rest,hd x≠hd (plain (BG n A B u v)):=by
  intro x hx e
  have g1:=PQ hRG
  have g2:=(l3 _ g1.2.2.2).1 (hrot.perm.mem_iff.2 (XU hRG.2.1))
  have g3:hd (plain (BG n A B u v))∈x:=e▸XU (hner x hx)
  rcases g2 with g|g
  ·exact hdd.1 x (by simp[hx]) _ g g1.2.2.2 g3
  ·exact hdd.2.1 x hx _ g g1.2.2.2 g3
 have hup:=AbA hupr hheads
 have hpz:=AJt rest (plain (BG n A B u v))
 refine⟨ADK rest (plain (BG n A B u v)),rest,?_,?_,AcG h hperm hRG (fun t ht=>by rw[← hrot.perm.mem_iff];exact l3 t ht) hpz hup,hperm,hpz,hdis⟩
 ·obtain⟨ys,y1,y2,y3⟩:=AI7 n rings [(i:Int),(j:Int)] [BG n A B u v] hD.1 (by simp) (by simp) (fun l hl=>(h.rg l hl).2.1) (by simp;exact hRG.2.1)
  have hys:ys=ADK rest (plain (BG n A B u v)):=by
   refine Yq hup (y2.trans ?_) y3
   rw[hdrop]
   exact(AqR (l₁:=rest) (l₂:=[plain (BG n A B u v)])).trans hpz.symm
  rw[hys]at y1
  rw[H3,HN]
  have s1:Cj (A6 A u) (0:Int) (1:Int)=some [u]:=by
   have:=ALu (xs:=A6 A u) (l:=0) (h:=1) (by omega) (by rw[l2];simp)
   rw[l2]at this ⊢
   exact this
  have s2:Cj (A6 A u) (1:Int) (AK (A6 A u))=some (A6 A u).tail:=by
   have:=H4 (xs:=A6 A u) (l:=1) (by rw[l2];simp)
   rw[Aqd]at this
   exact this
  have d1:DS 0 (AO (AK [u])) (A6 A u)=[u]:=by rw[l2];rfl
  have d2:DS 1 (AO (AK (A6 A u).tail)) (A6 A u)=(A6 A u).tail:=by
   rw[DS,AM,Ia,Aqd,Aqg]
  have hcat:JY ([[u],[EF n u v],A6 B v,[EF n v u],(A6 A u).tail],())=some (BG n A B u v,()):=by
   rw[OC _ (by simp) (by simp;omega)]
   simp[BG]
  have ne:((i:Int))≠(j:Int):=by omega
  simp only[Hn n rings u v hD,hRF,iu,iv,and_self,ApL,Au,Hy n rings _ hD.1 (fun l hl=>(hD.2 l hl).1),pu,pv,ne,Aow,Ao9,Aov,Ag hi,Ag hj,AJo,JQ,rA.1,rB.1,hu,hv,s1,s2,AQQ,d1,d2,hcat,y1]
 ·rw[Ki,IM]
  have s2:Cj (A6 A u) (1:Int) (AK (A6 A u))=some (A6 A u).tail:=by
   have:=H4 (xs:=A6 A u) (l:=1) (by rw[l2];simp)
   rw[Aqd]at this
   exact this
  have d2:DS 1 (AO (AK (A6 A u).tail)) (A6 A u)=(A6 A u).tail:=by
   rw[DS,AM,Ia,Aqd,Aqg]
  have ne:((i:Int))≠(j:Int):=by omega
  have f1:fits (AK [u,EF n u v]+AK (A6 B v))=true:=BK (by simp only[AM,Aot,ApA];omega)
  have f2:fits (AK (A1 [u,EF n u v] (A6 B v))+AK [EF n v u])=true:=BK (by simp only[AM,DC,Aos,Aot,ApA];omega)
  have f3:fits (AK (A1 (A1 [u,EF n u v] (A6 B v)) [EF n v u])+AK (A6 A u).tail)=true:=BK (by simp only[AM,DC,Aos,Aot,ApA,List.length_tail];omega)
  have hcat:A1 (A1 (A1 [u,EF n u v] (A6 B v)) [EF n v u]) (A6 A u).tail=BG n A B u v:=by simp[DC,BG]
  have hput:AJu (rest,BG n A B u v,())=some (ADK rest (plain (BG n A B u v)),()):=Adp rest _ (by have:=hD.1;omega) hner hRG.2.1
  simp only[Ex n rings hD.1 hD.2,hRF,IQ,iu,iv,Aow,Aov,NN n rings _ hD.1 (fun l hl=>(hD.2 l hl).1),pu,pv,Au,ne,Ao9,Ag hi,Ag hj,RA A u (by have:=rA.1.1;omega),RA B v (by have:=rB.1.1;omega),JQ,rA.1,rB.1,hu,hv,and_self,ApL,AKq,f1,f2,s2,d2,f3,AjM,AjL,hw1,hw2,hcat,hput]
theorem AIQ{n:Int}{rings:List (List Int)}{u v:Int}(hD:Dom rings)(h:¬ (RF n rings∧In n u∧In n v)):
  ∃ e,e≠0∧(∃ b,e=b∧(b=1∨b=10))∧NA ((n,(rings,())),u,v,())=some (n,rings,e,())∧Nh ((n,(rings,())),u,v,())=some (n,rings,e,()):=by
 by_cases h1:RF n rings
 ·have h2:¬ (In n u∧In n v):=fun h2=>h ⟨h1,h2⟩
  refine⟨10,by omega,⟨10,rfl,.inr rfl⟩,?_,?_⟩
  ·rw[H3,HN]
   simp only[Hn n rings u v hD,h1,h2,ApL,Ao3,Au]
   rfl
  ·rw[Ki,IM]
   simp only[Ex n rings hD.1 hD.2,h1,IQ,Aow,Aov]
   by_cases hu:In n u
   ·have hv:¬ In n v:=fun hv=>h2 ⟨hu,hv⟩
    simp[hu,hv]
   ·simp[hu]
 ·refine⟨1,by omega,⟨1,rfl,.inl rfl⟩,?_,?_⟩
  ·rw[H3,HN]
   simp only[Hn n rings u v hD,h1,Ao3,Au]
   rfl
  ·rw[Ki,IM]
   simp only[Ex n rings hD.1 hD.2,h1,Ao9,ApR]
theorem AaD{n:Int}{rings:List (List Int)}(u v:Int)(hD:Dom rings):∃ zs e,NA ((n,(rings,())),u,v,())=some (n,zs,e,())∧Nh ((n,(rings,())),u,v,())=some (n,zs,e,())∧Dom zs:=by
 by_cases h:RF n rings∧In n u∧In n v
 ·obtain⟨h1,iu,iv⟩:=h
  have hF:=MO.1 h1
  obtain⟨i,A,pu,hi,hu,_⟩:=NM (hF.cov u iu)
  obtain⟨j,B,pv,hj,hv,_⟩:=NM (hF.cov v iv)
  by_cases hij:i=j
  ·obtain⟨q1,q2⟩:=ATB hF iu iv (by rw[pu,pv,hij])
   exact⟨_,_,q1,q2,hD⟩
  ·obtain⟨zs,rest,q1,q2,q3,_⟩:=Ai4 hF iu iv hi hj hu hv hij
   exact⟨_,_,q1,q2,q3.dom⟩
 ·obtain⟨e,_,_,q1,q2⟩:=AIQ hD h
  exact⟨_,_,q1,q2,hD⟩
end Go.Pev.Pl
end
section
namespace Go.Pev.Pl
open Tok
def sel(l:List Edge)(bs:List Bool):List Edge:=((l.zip bs).filter fun p=>p.2).map fun p=>p.1
end Go.Pev.Pl
end
section
namespace Go.Pev.Pl
open Tok
instance (n v:Int):Decidable (In n v):=inferInstanceAs (Decidable (_∧_))
instance (n:Int):Decidable (Sz n):=inferInstanceAs (Decidable (_∧_))
end Go.Pev.Pl
end
section
namespace Go.Pev.Pl
instance (xs:List Int):Decidable (Rt xs):=inferInstanceAs (Decidable (_∧_∧_))
end Go.Pev.Pl
end
section
namespace Go.Pev.Pl
open Tok
noncomputable instance (n:Int) (xs:List Int):Decidable (TI n xs):=Classical.propDecidable _
end Go.Pev.Pl
end
section
namespace Go.Pev.Pl
open Tok
noncomputable instance (n:Int) (rings:List (List Int)):Decidable (RF n rings):=Classical.propDecidable _
noncomputable instance (n:Int) (xs:List Int):Decidable (RG n xs):=Classical.propDecidable _
end Go.Pev.Pl
end
section
namespace Go.Pev.Pl
open Tok
theorem AQO(n:Int)(rings:List (List Int))(l:List (Int×Int×Unit))(hD:Dom rings)(hs:l.length<9223372036854775808):R8 ((n,(rings,())),l,())=some (AUi n rings (l.all fun e=>decide (In n e.1)&&decide (In n e.2.1)),()):=by
 rw[AB9,On]
 simp only[Ex n rings hD.1 hD.2,AUi]
 by_cases h:RF n rings
 ·simp only[h,Aow,Aov,ApL]
  have e:=Pz (step:=EU) (fun i=>(l,n,rings,(i:Int),())) l (fun e => !(decide (In n e.1)&&decide (In n e.2.1))) (fun _=>.inl ((10:Int),())) (.inr (.inl ())) hs
   (fun i x hi hx=>by
    rw[EU,AM,AP,Aoi hi]
    simp only[Ag hx,Af,Ar]
    rw[AQ (by omega)]
    have q1:=AaP (v:=x.1) h.1
    have q2:=AaP (v:=x.2.1) h.1
    by_cases c1:x.1<0
    ·rw[Aoi c1,Bool.true_or]at q1
     have:decide (In n x.1)=false:=by simpa using q1.symm
     simp[c1,this]
    ·by_cases c2:n≤x.1
     ·rw[Aoi c2,Bool.or_true]at q1
      have:decide (In n x.1)=false:=by simpa using q1.symm
      simp[c1,c2,this]
     ·rw[Aog c1,Aog c2]at q1
      have g1:decide (In n x.1)=true:=by simpa using q1.symm
      by_cases c3:x.2.1<0
      ·rw[Aoi c3,Bool.true_or]at q2
       have:decide (In n x.2.1)=false:=by simpa using q2.symm
       simp[c1,c2,c3,this]
      ·by_cases c4:n≤x.2.1
       ·rw[Aoi c4,Bool.or_true]at q2
        have:decide (In n x.2.1)=false:=by simpa using q2.symm
        simp[c1,c2,c3,c4,this]
       ·rw[Aog c3,Aog c4]at q2
        have g2:decide (In n x.2.1)=true:=by simpa using q2.symm
        simp[c1,c2,c3,c4,g1,g2])
   (by rw[EU,AM,AP,Aog (by omega)])
  have e':AU EU many (l,n,rings,(0:Int),())=_:=e
  rw[e',List.any_eq_not_all_not]
  simp only[Bool.not_not]
  cases l.all fun e=>decide (In n e.1)&&decide (In n e.2.1)<;>rfl
 ·simp[h]
end Go.Pev.Pl
end
section
namespace Go.Pev.Pl
open Tok
end Go.Pev.Pl
end
section
namespace Go.Pev.Pl
open Tok
end Go.Pev.Pl
end
section
namespace Go.Pev.Pl
open Tok
end Go.Pev.Pl
end
section
namespace Go.Pev.Pl
open Tok
theorem AQ7{N:Nat}(h1:1≤N)(hN:N≤64){ts:List Tie}(hs:ts.length≤400)(ho:oks N ts){out:List Int}(hc:Yj (N:Int) (trs ts ts.length) out):
  FF (((N:Int),(ts,())),())=some (decide ((cnt out N:Int)=(N:Int)-(trs ts ts.length).length),()):=by
 have R:=SN N hN ts hs
 rw[Aoq ho]at R
 have hin:=AVK hN ho
 have hlen:=ALQ ts ts.length
 obtain⟨o2,e2,c2⟩:=Gm (N:Int) (trs ts ts.length) ⟨by omega,by omega⟩ (by omega) hin
 have:=Yj.unique h1 hN hc c2
 subst this
 have hol:out.length=N:=by have:=hc.len;omega
 rw[Fs,Ew]
 simp only[Af,AM]
 rw[Aog (show ¬ (N:Int)<1 by omega),Aog (show ¬ 64<(N:Int) by omega),Aog (show ¬ 400<(ts.length:Int) by omega)]
 simp only[R,e2,Pq N hN _ _ out hol,Au]
 rw[Ai (by omega)]
end Go.Pev.Pl
end
section
namespace Go.Pev.Pl
open Tok
theorem Con.perm{l l':List Edge}(h:∀ e,e∈l↔e∈l'){a b:Int}:Con l a b↔Con l' a b:=
 ⟨fun c=>c.mono fun e he=>⟨e,(h e).1 he,.inl ⟨rfl,rfl⟩⟩,fun c=>c.mono fun e he=>⟨e,(h e).2 he,.inl ⟨rfl,rfl⟩⟩⟩
theorem Yj.congr{n:Int}{l l':List Edge}{out:List Int}(h:∀ a b,Con l a b↔Con l' a b)(hc:Yj n l out):Yj n l' out:=
 ⟨hc.len,fun a b ia ib=>(hc.same a b ia ib).trans (h a b),hc.isin,fun a ia=>(h a _).1 (hc.con a ia),fun a b ia ib c=>hc.least a b ia ib ((h a b).2 c)⟩
end Go.Pev.Pl
end
section
namespace Go.Pev.Pl
open Tok
def AJU(x:Edge)(b:Bool):Tie:=(x.1,x.2.1,0,b,())
def AAk(ts:List Tie)(xs:List Edge)(bs:List Bool)(k:Nat):List Tie:=(List.range k).foldl (fun a i=>ADJ a (AJU (xs.getD i (0,0,())) (bs.getD i false))) ts
end Go.Pev.Pl
end
section
namespace Go.Pev.Pl
open Tok
def AX1(xs:List Edge)(bs:List Bool)(k:Nat):List Tie:=(List.range k).map fun i=>AJU (xs.getD i (0,0,())) (bs.getD i false)
theorem AKs(ts:List Tie)(xs:List Edge)(bs:List Bool)(k:Nat):AAk ts xs bs (k+1)=ADJ (AAk ts xs bs k) (AJU (xs.getD k (0,0,())) (bs.getD k false)):=by
 unfold AAk
 rw[Ap3,List.foldl_append]
 rfl
theorem YE(ts:List Tie)(xs:List Edge)(bs:List Bool):∀ k,(AAk ts xs bs k).Perm (ts++AX1 xs bs k):=by
 intro k
 induction k with
 |zero=>simp[AAk,AX1]
 |succ k ih=>
  rw[AKs]
  refine(AJs _ _).trans ?_
  unfold AX1 at *
  rw[Ap3,AqH,← Apu]
  refine(List.Perm.cons _ ih).trans ?_
  exact(List.perm_append_singleton _ _).symm
end Go.Pev.Pl
end
section
namespace Go.Pev.Pl
open Tok
theorem AkV{N:Nat}{ts:List Tie}(h:oks N ts)(hv0:0≤I0 N){xs:List Edge}(bs:List Bool)(hp:xs.Pairwise APJ)(hx:∀ e∈xs,0≤e.1∧e.1<e.2.1∧e.2.1<(N:Int))(hn:∀ e∈xs,¬ e∈ts.map ed):oks N (AAk ts xs bs xs.length):=by
 rw[ANO]at h ⊢
 obtain⟨h1,h2⟩:=h
 have hget:∀ i (hi:i<xs.length),xs.getD i (0,0,())=xs[i]:=fun i hi=>by
  simp only[Aoj,Aon hi,ApF]
 have hmem:∀ k,k≤xs.length→∀ t∈AAk ts xs bs k,t∈ts∨∃ i,i<k∧t=AJU (xs.getD i (0,0,())) (bs.getD i false):=by
  intro k hk t ht
  rcases Aom.1 ((YE ts xs bs k).mem_iff.1 ht)with h|h
  ·exact .inl h
  ·unfold AX1 at h
   obtain⟨i,hi,rfl⟩:=Ao1.1 h
   exact .inr ⟨i,by simpa using hi,rfl⟩
 refine⟨fun t ht => ?_,?_⟩
 ·rcases hmem _ (Aop _) t ht with h|⟨i,hi,rfl⟩
  ·exact h1 t h
  ·rw[hget i hi]
   obtain⟨q1,q2,q3⟩:=hx xs[i] (Apy hi)
   exact⟨q1,q2,q3,by show(0:Int)≤0;omega,hv0⟩
 ·have key:∀ k,k≤xs.length→(AAk ts xs bs k).Pairwise ahead:=by
   intro k
   induction k with
   |zero=>intro _;exact h2
   |succ k ih=>
    intro hk
    rw[AKs]
    refine Ado (ih (by omega)) fun t ht => ?_
    rw[hget k (by omega)]
    rintro⟨e1,e2⟩
    rcases hmem k (by omega) t ht with h|⟨i,hi,rfl⟩
    ·refine hn xs[k] (Apy (by omega)) (Ao1.2 ⟨t,h,?_⟩)
     unfold ed
     rw[e1,e2]
     rfl
    ·rw[hget i (by omega)]at e1 e2
     have:=(AqI.1 hp) i k (by omega) (by omega) hi
     unfold APJ at this
     simp only[AJU]at e1 e2
     omega
  exact key _ (Aop _)
end Go.Pev.Pl
end
section
namespace Go.Pev.Pl
open Tok
theorem Agf(ts:List Tie):∀ k,k≤ts.length→trs ts k=((ts.take k).filter fun t=>t.2.2.2.1).map ed:=by
 intro k
 induction k with
 |zero=>intro _;simp[trs]
 |succ k ih=>
  intro hk
  have hk':k<ts.length:=by omega
  rw[ABk,ih (by omega),Aqh hk',Aqy,AqH]
  simp only[Aoj,Aon hk',ApF]
  cases h:ts[k].2.2.2.1
  ·simp[h]
  ·simp[h]
theorem ALR(ts:List Tie):trs ts ts.length=(ts.filter fun t=>t.2.2.2.1).map ed:=by
 rw[Agf ts _ (Aop _),Aqg]
end Go.Pev.Pl
end
section
namespace Go.Pev.Pl
open Tok
theorem Air{xs:List Edge}{bs:List Bool}(h:bs.length=xs.length):AX1 xs bs xs.length=(xs.zip bs).map fun p=>AJU p.1 p.2:=by
 unfold AX1
 apply Ars
 ·simp[h]
 ·intro i h1 h2
  have hi:i<xs.length:=by simpa using h1
  simp[hi,show i<bs.length by omega]
theorem AkU(ts:List Tie){xs:List Edge}{bs:List Bool}(h:bs.length=xs.length):(trs (AAk ts xs bs xs.length) (AAk ts xs bs xs.length).length).Perm (trs ts ts.length++sel xs bs):=by
 rw[ALR,ALR]
 refine(((YE ts xs bs xs.length).filter _).map ed).trans ?_
 rw[Aqy,AqH,Air h,List.filter_map,List.map_map]
 exact List.Perm.refl _
theorem AkW(ts:List Tie)(xs:List Edge)(bs:List Bool):∀ k,(AAk ts xs bs k).length=ts.length+k:=by
 intro k
 rw[(YE ts xs bs k).length_eq]
 simp[AX1]
end Go.Pev.Pl
end
end
section
section
namespace Go.Pev.Pl
open Tok
theorem AkC{N:Nat}(hN:N≤64)(ts:List Tie)(l:List Edge):∀ e∈Ku N ts l,In (N:Int) e.1∧In (N:Int) e.2.1:=by
 intro e he
 obtain⟨⟨a,b,c,_⟩,_⟩:=(Wr N ts l e).1 he
 exact⟨⟨by omega,by omega,a,by omega⟩,⟨by omega,by omega,by omega,c⟩⟩
end Go.Pev.Pl
end
section
namespace Go.Pev.Pl
open Tok
theorem AjI{N:Nat}(h1:1≤N)(hN:N≤64){a:Int}(h:0≤a∧a<(N:Int)):In (N:Int) a:=⟨by omega,by omega,h.1,h.2⟩
theorem AjJ{N:Nat}{e:Edge}(h:In (N:Int) e.1∧In (N:Int) e.2.1):InE N e:=⟨⟨h.1.2.2.1,h.1.2.2.2⟩,⟨h.2.2.2.1,h.2.2.2.2⟩⟩
theorem Anx{N:Nat}(h1:1≤N)(hN:N≤64){l:List Edge}{out:List Int}(hc:Yj (N:Int) l out):cnt out N=cc N l:=by
 unfold cnt cc
 rw[List.countP_eq_length_filter]
 congr 1
 refine List.filter_congr fun k hk => ?_
 have hk:k<N:=by simpa using hk
 have ik:=AjI h1 hN (a:=(k:Int)) ⟨by omega,by omega⟩
 have hg:out.getD k 0=cl out (k:Int):=by unfold cl;rw[Apb]
 rw[hg,ArC,Aqx,IL]
 constructor
 ·intro h j hj hcn
  have:=hc.least (k:Int) (j:Int) ik (AjI h1 hN ⟨by omega,by omega⟩) hcn.symm
  omega
 ·intro h
  have a1:=hc.isin _ ik
  have a2:=hc.con _ ik
  have a3:=hc.least (k:Int) (k:Int) ik ik (.refl _)
  obtain⟨m,hm⟩:=Aou a1.2.2.1
  rw[hm]at a2 a3 ⊢
  by_cases hlt:m<k
  ·exact absurd a2.symm (h m hlt)
  ·omega
theorem FC.congr{n:Int}{rings:List (List Int)}{l l':List Edge}(h:FC n rings l)(hm:∀ e∈l,e∈l')(hc:∀ e∈l',Con l e.1 e.2.1):FC n rings l':=
 ⟨h.fr,fun a b ia ib=>(h.sam a b ia ib).trans ⟨fun c=>c.sub hm,fun c=>c.cut hc⟩,fun A hA u v ho hu=>by
  obtain⟨e,he,q⟩:=h.arcs A hA u v ho hu
  exact⟨e,hm e he,q⟩⟩
theorem AQ6{N:Nat}(h1:1≤N)(hN:N≤64){ts:List Tie}(hs:ts.length≤400)(ho:oks N ts):FF (((N:Int),(ts,())),())=some (true,())↔Fo N (trs ts ts.length):=by
 have hlen:=ALQ ts ts.length
 obtain⟨o,_,c⟩:=Gm (N:Int) (trs ts ts.length) ⟨by omega,by omega⟩ (by omega) (AVK hN ho)
 rw[AQ7 h1 hN hs ho c,Anx h1 hN c]
 unfold Fo
 constructor
 ·intro h
  have:decide ((cc N (trs ts ts.length):Int)=(N:Int)-(trs ts ts.length).length)=true:=by injection h with h;injection h
  have:=Aqp this
  omega
 ·intro h
  rw[Aoi (by omega)]
end Go.Pev.Pl
end
section
namespace Go.Pev.Pl
open Tok
end Go.Pev.Pl
end
section
namespace Go.Pev.Pl.SE
open Go.Sort
def ok(_:Int×Int×Unit):Prop:=True
def okz:Int×Int×Unit:=(0,0,())
theorem Wn:ok okz:=trivial
def lt(x y:Int×Int×Unit):Bool:=decide (x.1<y.1∨(x.1=y.1∧x.2.1<y.2.1))
theorem swo:SWO lt:=⟨fun x=>by simp[lt],fun x y z h1 h2=>by simp only[lt,Aok]at *;omega,fun x y z h1 h2=>by simp only[lt,Apg]at *;omega⟩
theorem Zh(a b:Int):Dk (a,b,())=some (if a<b then -1 else if b<a then 1 else 0,()):=by
 rw[G2,Eg,LX,LY,LX,LY]
 simp only[B4,Af]
 by_cases h:a<b
 ·simp[h]
 ·by_cases h2:b<a
  ·simp[h,h2]
  ·simp[h,h2]
theorem or_val(a b:Int):orI ([a,b],())=some (if a=0 then b else a,()):=by
 obtain⟨m,hm⟩:∃ m,many=m+3:=⟨many-3,by simp only[many]⟩
 rw[ANM,AJ7,Av,hm]
 have i0:idx [a,b] (0:Int)=some a:=by rw[idx_eq];rfl
 have i1:idx [a,b] (1:Int)=some b:=by rw[idx_eq];rfl
 have l2:AK [a,b]=(2:Int):=rfl
 have w1:IntKind.wrap .i64 ((0:Int)+1)=1:=by rw[Ai (by omega)];rfl
 have w2:IntKind.wrap .i64 ((1:Int)+1)=2:=by rw[Ai (by omega)];rfl
 have c0:ilt (0:Int) 2=true:=by rw[Af];rfl
 have c1:ilt (1:Int) 2=true:=by rw[Af];rfl
 have c2:ilt (2:Int) 2=false:=by rw[Af];rfl
 by_cases ha:a=0
 ·subst ha
  by_cases hb:b=0
  ·subst hb
   have z:ieq (0:Int) 0=true:=by rw[B4];rfl
   simp only[Ab,Fz,l2,i0,i1,w1,w2,c0,c1,c2,z,Aov,ApL]
  ·have:ieq b 0=false:=by rw[B4];simpa using hb
   have z:ieq (0:Int) 0=true:=by rw[B4];rfl
   simp only[Ab,Fz,l2,i0,i1,w1,w2,c0,c1,c2,z,this,Aov,ApR,ApL]
 ·have:ieq a 0=false:=by rw[B4];simpa using ha
  simp only[Ab,Fz,l2,i0,i1,w1,w2,c0,c1,c2,this,ha,ApR,Ao3]
end Go.Pev.Pl.SE
end
section
namespace Go.Pev.Pl.ST
open Go.Sort
def ok(_:Int×Int×Int×Bool×Unit):Prop:=True
def okz:Int×Int×Int×Bool×Unit:=(0,0,0,false,())
theorem Wn:ok okz:=trivial
def lt(x y:Int×Int×Int×Bool×Unit):Bool:=decide (x.1<y.1∨(x.1=y.1∧x.2.1<y.2.1))
theorem swo:SWO lt:=⟨fun x=>by simp[lt],fun x y z h1 h2=>by simp only[lt,Aok]at *;omega,fun x y z h1 h2=>by simp only[lt,Apg]at *;omega⟩
theorem Zh(a b:Int):Dk (a,b,())=some (if a<b then -1 else if b<a then 1 else 0,()):=by
 rw[G2,Eg,LX,LY,LX,LY]
 simp only[B4,Af]
 by_cases h:a<b
 ·simp[h]
 ·by_cases h2:b<a
  ·simp[h,h2]
  ·simp[h,h2]
theorem or_val(a b:Int):orI ([a,b],())=some (if a=0 then b else a,()):=by
 obtain⟨m,hm⟩:∃ m,many=m+3:=⟨many-3,by simp only[many]⟩
 rw[ANM,AJ7,Av,hm]
 have i0:idx [a,b] (0:Int)=some a:=by rw[idx_eq];rfl
 have i1:idx [a,b] (1:Int)=some b:=by rw[idx_eq];rfl
 have l2:AK [a,b]=(2:Int):=rfl
 have w1:IntKind.wrap .i64 ((0:Int)+1)=1:=by rw[Ai (by omega)];rfl
 have w2:IntKind.wrap .i64 ((1:Int)+1)=2:=by rw[Ai (by omega)];rfl
 have c0:ilt (0:Int) 2=true:=by rw[Af];rfl
 have c1:ilt (1:Int) 2=true:=by rw[Af];rfl
 have c2:ilt (2:Int) 2=false:=by rw[Af];rfl
 by_cases ha:a=0
 ·subst ha
  by_cases hb:b=0
  ·subst hb
   have z:ieq (0:Int) 0=true:=by rw[B4];rfl
   simp only[Ab,Fz,l2,i0,i1,w1,w2,c0,c1,c2,z,Aov,ApL]
  ·have:ieq b 0=false:=by rw[B4];simpa using hb
   have z:ieq (0:Int) 0=true:=by rw[B4];rfl
   simp only[Ab,Fz,l2,i0,i1,w1,w2,c0,c1,c2,z,this,Aov,ApR,ApL]
 ·have:ieq a 0=false:=by rw[B4];simpa using ha
  simp only[Ab,Fz,l2,i0,i1,w1,w2,c0,c1,c2,this,ha,ApR,Ao3]
end Go.Pev.Pl.ST
end
section
namespace Go.Pev.Pl
open Tok
section
variable {α β:Type} [DecidableEq α]
end
end Go.Pev.Pl
end
section
namespace Go.Pev.Pl
open Tok
theorem AlH:∀ (xs b:List Edge),sel xs (gfl b xs)=Mx b xs:=by
 intro xs
 induction xs with
 |nil=>intro b;rfl
 |cons x xs ih=>
  intro b
  have:=ih (b++[x])
  unfold sel at *
  rw[gfl,Mx,ArD,Ap4]
  by_cases h:Pj b x.1 x.2.1=true
  ·simp[h,this]
  ·simp[h,this]
theorem Amp{N:Nat}{b xs:List Edge}(h:Fo N b)(hx:∀ e∈xs,InE N e):Fo N (b++Mx b xs):=by
 have h1:=PJ xs b hx
 have h2:cc N (b++xs)=cc N (b++Mx b xs):=AGQ fun a c=>AGG xs b
 unfold Fo at *
 rw[Aos]
 omega
theorem Yl{N:Nat}(hN:N≤64):0≤I0 N:=by
 have:((List.range 65).all fun k=>decide (0≤I0 k))=true:=by kernel_rfl
 exact Aqp (Ao2.1 this N (by simp;omega))
noncomputable def grown(N:Nat)(ts:List Tie)(l:List Edge):List Tie:=AAk ts (Ku N ts l) (gfl (trs ts ts.length) (Ku N ts l)) (Ku N ts l).length
theorem AfP(N:Nat)(ts:List Tie)(l:List Edge):(grown N ts l).length=ts.length+(Ku N ts l).length:=AkW ..
theorem AfN(N:Nat)(ts:List Tie)(l:List Edge):(trs (grown N ts l) (grown N ts l).length).Perm (trs ts ts.length++Mx (trs ts ts.length) (Ku N ts l)):=by
 have:=AkU ts (xs:=Ku N ts l) (bs:=gfl (trs ts ts.length) (Ku N ts l)) (AmQ _ _)
 rw[AlH]at this
 exact this
theorem AfO{N:Nat}(hN:N≤64){ts:List Tie}(ho:oks N ts)(l:List Edge):oks N (grown N ts l):=
 AkV ho (Yl hN) _ (AZk N ts l) (fun e he=>by
  obtain⟨⟨a,b,c,_⟩,_⟩:=(Wr N ts l e).1 he
  exact⟨a,b,c⟩) (fun e he=>((Wr N ts l e).1 he).2)
theorem Afm{N:Nat}(hN:N≤64)(ts:List Tie)(l:List Edge):∀ e∈Ku N ts l,InE N e:=fun e he=>AjJ (AkC hN ts l e he)
theorem Ajg{N:Nat}(hN:N≤64){ts:List Tie}(h:Fo N (trs ts ts.length))(l:List Edge):Fo N (trs (grown N ts l) (grown N ts l).length):=
 (Amp h (Afm hN ts l)).perm (AfN N ts l).symm
structure RG2(N:Nat)(ts:List Tie):Prop where
 h1:1≤N
 hN:N≤64
 ht:ts.length≤400
 oks:oks N ts
 fo:Fo N (trs ts ts.length)
theorem RG2.r21{N:Nat}{ts:List Tie}(h:RG2 N ts):FF (((N:Int),(ts,())),())=some (true,()):=(AQ6 h.h1 h.hN h.ht h.oks).2 h.fo
theorem RG2.lr{N:Nat}{ts:List Tie}(h:RG2 N ts):Ld (((N:Int),(ts,())),())=some (true,()):=by
 obtain⟨b,h1,h2,_⟩:=AGt (N:Int) ts (by have:=h.ht;omega)
 rw[h.r21]at h1
 cases h1
 exact h2
theorem Adh(n:Int)(ts:List Tie)(hl:ts.length<4611686018427387904):(FF ((n,(ts,())),())=some (false,())∧Ld ((n,(ts,())),())=some (false,()))∨∃ N:Nat,n=(N:Int)∧RG2 N ts:=by
 obtain⟨b,h1,h2,h3⟩:=AGt n ts hl
 cases b
 ·exact .inl ⟨h1,h2⟩
 ·obtain⟨N,rfl,q1,q2,q3,q4⟩:=h3 rfl
  exact .inr ⟨N,rfl,q1,q2,q3,q4,(AQ6 q1 q2 q3 q4).1 h1⟩
theorem RG2.inE{N:Nat}{ts:List Tie}(h:RG2 N ts):∀ e∈ts.map ed,In (N:Int) e.1∧In (N:Int) e.2.1:=Anv h.hN h.oks
theorem RG2.grown{N:Nat}{ts:List Tie}(h:RG2 N ts){l:List Edge}(hf:ts.length+(Ku N ts l).length≤400):RG2 N (grown N ts l):=
 ⟨h.h1,h.hN,by rw[AfP];exact hf,AfO h.hN h.oks l,Ajg h.hN h.fo l⟩
end Go.Pev.Pl
end
section
namespace Go.Pev.Pl
open Tok
end Go.Pev.Pl
end
end
section
namespace Go.Pev.Pl
open Tok
theorem Agi(ts:List Tie)(t:Tie)(k:Int):trk (ts++[t]) k=trk ts k++if t.2.2.2.1=true∧k≤t.2.2.1 then [ed t]else []:=by
 rw[DY]
 congr 1
 unfold trk
 rw[Ap4]
 by_cases h:t.2.2.2.1=true∧k≤t.2.2.1
 ·rw[Aoq h,h.1,Aoi h.2];rfl
 ·rw[Aor h,Aor]
  ·rfl
  ·rw[Aol,Aok];exact h
theorem AP3(k:Int):∀ (ts a:List Tie) (acc:List Edge),acc=trk a k→ts.foldl (fun acc t=>if t.2.2.2.1=true∧k≤t.2.2.1 then acc++[ed t]else acc) acc=trk (a++ts) k:=by
 intro ts
 induction ts with
 |nil=>intro a acc h;simpa using h
 |cons t ts ih=>
  intro a acc h
  rw[ApY,ih (a++[t])]
  ·simp
  ·rw[Agi,← h]
   split<;>simp
theorem Akm(ts:List Tie)(k:Int):(trk ts k).length≤ts.length:=by
 unfold trk
 rw[Apl]
 exact List.length_filter_le _ _
theorem Akl(ts:List Tie)(k:Int):∀ e∈trk ts k,e∈ts.map ed:=by
 intro e he
 obtain⟨t,h1,_,_,rfl⟩:=C8.1 he
 exact Ao1.2 ⟨t,h1,rfl⟩
theorem AS3(n:Int)(ts:List Tie)(hs:ts.length≤400)(k:Int):Qr ((n,(ts,())),k,())=some (trk ts k,()):=by
 rw[W5,Nf]
 have e:=Bx (step:=Cn) (fun i (a:List Edge)=>(k,a,ts,AK ts,(i:Int),())) ts (fun t a=>.inl (if t.2.2.2.1=true∧k≤t.2.2.1 then a++[ed t]else a)) (fun a=>.inl (a,())) (fun i a=>a.length≤i) (by omega)
  (fun i x a hi hx ha=>by
   refine⟨fun m' h' => ?_,fun r h'=>(by cases h')⟩
   cases h'
   constructor
   ·rw[Cn,AM,AP,Aoi hi]
    simp only[Ag hx,AM]
    rw[AQ (by omega),Ar,BK (by simp only[Aot,ApA];omega)]
    cases h4:x.2.2.2.1
    ·simp
    ·by_cases h5:k≤x.2.2.1
     ·simp[h5,ed,A1]
     ·simp[h5]
   ·split
    ·rw[Aos];simp;omega
    ·omega)
  (fun a _=>by rw[Cn,AM,AP,Aog (by omega)]) [] (Aop _)
 have e':AU Cn many (k,[],ts,AK ts,(0:Int),())=_:=e
 simp only[e']
 rw[A2 (fun(t:Tie) (a:List Edge)=>if t.2.2.2.1=true∧k≤t.2.2.1 then a++[ed t]else a),AP3 k ts [] [] rfl]
 rfl
theorem Acd(n:Int)(ts:List Tie)(hs:ts.length≤400)(k:Int):R4 ((n,(ts,())),k,())=some (trk ts k,()):=by
 rw[ABs,Oi]
 have e:=Bx (step:=ES) (fun i (a:List Edge)=>(k,n,ts,a,(i:Int),())) ts (fun t a=>.inl (if t.2.2.2.1=true∧k≤t.2.2.1 then a++[ed t]else a)) (fun a=>.inl (a,())) (fun i a=>a.length≤i) (by omega)
  (fun i x a hi hx ha=>by
   refine⟨fun m' h' => ?_,fun r h'=>(by cases h')⟩
   cases h'
   constructor
   ·rw[ES,AM,AP,Aoi hi]
    simp only[Ag hx,AM]
    rw[AQ (by omega),Ar,BK (by simp only[Aot,ApA];omega)]
    cases h4:x.2.2.2.1
    ·simp
    ·by_cases h5:k≤x.2.2.1
     ·simp[h5,ed,A1]
     ·simp[h5]
   ·split
    ·rw[Aos];simp;omega
    ·omega)
  (fun a _=>by rw[ES,AM,AP,Aog (by omega)]) [] (Aop _)
 have e':AU ES many (k,n,ts,[],(0:Int),())=_:=e
 simp only[e']
 rw[A2 (fun(t:Tie) (a:List Edge)=>if t.2.2.2.1=true∧k≤t.2.2.1 then a++[ed t]else a),AP3 k ts [] [] rfl]
 rfl
theorem Agh{N:Nat}{ts:List Tie}(h:oks N ts):trs ts ts.length=trk ts 0:=by
 rw[ALR]
 unfold trk
 congr 1
 refine List.filter_congr fun t ht => ?_
 have:=((ANO N ts).1 h).1 t ht
 rw[Aoi this.2.2.2.1,Bool.and_true]
theorem RG2.fo0{N:Nat}{ts:List Tie}(h:RG2 N ts):Fo N (trk ts 0):=by rw[← Agh h.oks];exact h.fo
theorem RG2.inK{N:Nat}{ts:List Tie}(h:RG2 N ts)(k:Int):∀ e∈trk ts k,In (N:Int) e.1∧In (N:Int) e.2.1:=fun e he=>h.inE e (Akl ts k e he)
theorem RG2.Anl{N:Nat}{ts:List Tie}(h:RG2 N ts)(k:Int):(trk ts k).length≤400:=Ap0 (Akm ts k) h.ht
theorem RG2.Aob{N:Nat}{ts:List Tie}(h:RG2 N ts)(k:Int):∃ zs,Lh (((N:Int),(ts,())),k,())=some (((N:Int),(zs,())),0,())∧FC (N:Int) zs (trk ts k):=by
 have hl:=h.Anl k
 have h1:=h.h1
 have hN:=h.hN
 rcases(Ab0 (N:Int) (trk ts k) ⟨by omega,by omega⟩ (by omega)).symm with⟨hno,_⟩|⟨_,zs,e,hF⟩
 ·exact absurd (h.inK k) hno
 refine⟨zs,?_,hF⟩
 rw[Lg,Hj]
 simp only[h.lr,Aov,AS3 (N:Int) ts h.ht k,e]
theorem RG2.AoT{N:Nat}{ts:List Tie}(h:RG2 N ts)(k:Int):∃ out,Hm ((N:Int),trk ts k,())=some (out,())∧Yj (N:Int) (trk ts k) out:=by
 have:=h.Anl k
 have h1:=h.h1
 have hN:=h.hN
 exact Gm (N:Int) (trk ts k) ⟨by omega,by omega⟩ (by omega) (h.inK k)
end Go.Pev.Pl
end
section
namespace Go.Pev.Pl
open Tok
def Am1(ts:List Tie):Prop:=∀ e∈ts.map ed,Con (trk ts 0) e.1 e.2.1
def AoS(ts:List Tie):Prop:=∀ t∈ts,t.2.2.2.1=false→Con (trk ts t.2.2.1) t.1 t.2.1
def Am2(N:Nat)(ts:List Tie):Prop:=∀ k:Nat,(k:Int)≤I0 N→∀ v:Nat,v<N→csz N (trk ts k) v≤max 1 (N/2 ^ k)
theorem RG2.tie{N:Nat}{ts:List Tie}(h:RG2 N ts){t:Tie}(ht:t∈ts):In (N:Int) t.1∧In (N:Int) t.2.1∧t.1<t.2.1∧0≤t.2.2.1∧t.2.2.1≤I0 N:=by
 have h1:=((ANO N ts).1 h.oks).1 t ht
 have h2:=h.inE (ed t) (Ao1.2 ⟨t,ht,rfl⟩)
 exact⟨h2.1,h2.2,h1.2.1,h1.2.2.2.1,h1.2.2.2.2⟩
end Go.Pev.Pl
end
section
namespace Go.Pev.Pl
open Tok
def AQD(N:Nat):Nat:=(I0 N).toNat
theorem ALd{N:Nat}(hN:N≤64):I0 N=(AQD N:Int):=by
 have:=Yl hN
 unfold AQD
 omega
theorem RG2.snd{N:Nat}{ts:List Tie}(h:RG2 N ts)(hs:Am1 ts∧AoS ts∧Am2 N ts):Snd N (AQD N:Int) ts:=by
 refine⟨fun x hx => ?_,fun x hx=>AjJ (h.inE _ (Ao1.2 ⟨x,hx,rfl⟩)),h.fo0,hs.2.1,fun k hk v hv=>hs.2.2 k (by rw[ALd h.hN];exact hk) v hv⟩
 rw[← ALd h.hN]
 exact(h.tie hx).2.2.2
theorem Snd.parts{N:Nat}{ts:List Tie}(h:RG2 N ts)(hs:Snd N (AQD N:Int) ts):Am1 ts∧AoS ts∧Am2 N ts:=by
 refine⟨fun e he=>(hs.span _ _).1 (.edge e he),hs.lie,fun k hk v hv=>hs.halv k (by rw[← ALd h.hN];exact hk) v hv⟩
end Go.Pev.Pl
end
section
namespace Go.Pev.Pl
open Tok
theorem Akq{N:Nat}(hN:N≤64):N/2 ^ AQD N≤1:=by
 have:((List.range 65).all fun k=>decide (k/2 ^ AQD k≤1))=true:=by kernel_rfl
 exact Aqp (Ao2.1 this N (by simp;omega))
theorem RG2.below{N:Nat}{ts:List Tie}(h:RG2 N ts)(hs:Snd N (AQD N:Int) ts){t:Tie}(ht:t∈ts):t.2.2.1<(AQD N:Int):=
 hs.below (Akq h.hN) ht (by have:=(h.tie ht).2.2.1;omega)
end Go.Pev.Pl
end
section
namespace Go.Pev.Pl
open Tok
end Go.Pev.Pl
end
section
namespace Go.Pev.Pl
open Tok
end Go.Pev.Pl
end
section
namespace Go.Pev.Pl
open Tok
end Go.Pev.Pl
end
section
namespace Go.Pev.Pl
open Tok
end Go.Pev.Pl
end
section
namespace Go.Pev.Pl
open Tok
end Go.Pev.Pl
end
section
namespace Go.Pev.Pl
section
variable {N top:Nat} {ts w:List Tie} (hp:w.Perm ts) (hi:∀ x∈ts,InE N (ed x)) (hl:∀ t∈ts,0≤t.2.2.1∧t.2.2.1≤(top:Int)) (hfo:Fo N (trk ts 0)) (hlie:∀ x∈ts,x.2.2.2.1=false→Con (trk ts x.2.2.1) x.1 x.2.1)
include hp hi
include hl hfo hlie
end
end Go.Pev.Pl
end
section
namespace Go.Pev.Pl
open Tok
theorem Aoc(x:Tie):(x.1,(x.2.1,(x.2.2.1,(x.2.2.2.1,()))))=x:=rfl
end Go.Pev.Pl
end
section
namespace Go.Pev.Pl
open Tok
def bef(x y:Tie):Prop:=y.2.2.1<x.2.2.1∨(x.2.2.1=y.2.2.1∧ahead x y)
theorem bef.trans{x y z:Tie}(h:bef x y)(h':bef y z):bef x z:=by
 unfold bef ahead at *
 omega
def Mrg(u v w:List Tie):Prop:=w.Perm (u++v)∧w.Pairwise bef
end Go.Pev.Pl
end
section
namespace Go.Pev.Pl
open Tok
noncomputable section
end
theorem Mrg.append{u1 u2 v1 v2 w1 w2:List Tie}(h1:Mrg u1 v1 w1)(h2:Mrg u2 v2 w2)(hu:(u1++u2).Pairwise bef)(hv:(v1++v2).Pairwise bef)(c1:∀ x∈u1,∀ y∈v2,bef x y)(c2:∀ y∈v1,∀ x∈u2,bef y x):Mrg (u1++u2) (v1++v2) (w1++w2):=by
 rw[ArP]at hu hv
 refine⟨?_,?_⟩
 ·refine(h1.1.append h2.1).trans ?_
  rw[Apu,Apu]
  refine List.Perm.append_left _ ?_
  rw[← Apu,← Apu]
  exact List.Perm.append_right _ AqR
 ·rw[ArP]
  refine⟨h1.2,h2.2,fun x hx y hy => ?_⟩
  have hx:=Aom.1 (h1.1.mem_iff.1 hx)
  have hy:=Aom.1 (h2.1.mem_iff.1 hy)
  rcases hx with hx|hx<;>rcases hy with hy|hy
  ·exact hu.2.2 x hx y hy
  ·exact c1 x hx y hy
  ·exact c2 x hx y hy
  ·exact hv.2.2 x hx y hy
end Go.Pev.Pl
end
section
namespace Go.Pev.Pl
open Tok
end Go.Pev.Pl
end
section
namespace Go.Pev.Pl
open Tok
end Go.Pev.Pl
end
section
namespace Go.Pev.Pl
open Tok
def lvl(ts:List Tie)(k:Int):List Tie:=ts.filter fun t=>decide (t.2.2.1=k)
end Go.Pev.Pl
end
section
namespace Go.Pev.Pl
open Tok
section
variable (n:Int) (ts:List Tie)
end
end Go.Pev.Pl
end
section
namespace Go.Pev.Pl
open Tok
def mid(f:Int→Int)(xs:List Int)(i:Nat):List Int:=(xs.take i).map f++xs.drop i
def lb(at0:List Int)(v:Int):Int:=at0.getD v.toNat 0
end Go.Pev.Pl
end
section
namespace Go.Pev.Pl
open Tok
end Go.Pev.Pl
end
section
namespace Go.Pev.Pl
section
variable {α β:Type} [DecidableEq α]
theorem AYX(es:List (α×β))(k:α)(v:β)(j:α):AS (Ah es k v) j=if j=k then some v else AS es j:=by
 induction es with
 |nil=>
  simp only[Ah,AS]
  by_cases h:j=k
  ·rw[Aoq h,Aoq h.symm]
  ·rw[Aor h,Aor (ApN h)]
 |cons e es ih=>
  obtain⟨a,x⟩:=e
  by_cases h1:a=k
  ·subst h1
   simp only[Ah,AS,ApL]
   by_cases h:j=a
   ·rw[Aoq h,Aoq h.symm]
   ·rw[Aor h,Aor (ApN h),Aor (ApN h)]
  ·simp only[Ah,AS,h1,Ao3,ih]
   by_cases h:a=j
   ·subst h
    rw[Aoq rfl,Aor h1,Aoq rfl]
   ·rw[Aor h,Aor h]
end
end Go.Pev.Pl
end
section
namespace Go.Pev.Pl
open Tok
end Go.Pev.Pl
end
section
namespace Go.Pev.Pl
open Tok
end Go.Pev.Pl
end
section
namespace Go.Pev.Pl
open Tok
end Go.Pev.Pl
end
section
namespace Go.Pev.Pl
open Tok
section
variable (n:Int) (a2 a3:Bool) (a4 a5 top:Int)
end
end Go.Pev.Pl
end
section
namespace Go.Pev.Pl
section
variable {α:Type} (z:α)
end
end Go.Pev.Pl
end
section
namespace Go.Pev.Pl
open Tok
end Go.Pev.Pl
end
section
namespace Go.Pev.Pl
open Tok
end Go.Pev.Pl
end
section
namespace Go.Pev.Pl
open Tok
end Go.Pev.Pl
end
section
namespace Go.Pev.Pl
open Tok
theorem AAi{n:Int}(l:List Edge)(hs:l.length<1073741824)(ha:∀ e∈l,In n e.1∧In n e.2.1):
  ∀ (m i c1 c2:Nat) (rings:List (List Int)) (t1 t2:List Bool),i+m=l.length→t1.length=i→t2.length=i→FC n rings (l.take i)→m<c1→m<c2 →
  ∃ zs b1 b2,Ab Ea c1 (l,n,rings,(0:Int),t1,(i:Int),())=some (.inl (n,zs,(0:Int),b1,()))∧Ab Bv c2 (n,rings,(0:Int),t2,l,(l.length:Int),(i:Int),())=some (.inl (n,zs,(0:Int),b2,()))∧FC n zs l:=by
 intro m
 induction m with
 |zero=>
  intro i c1 c2 rings t1 t2 hi ht1 ht2 h hc1 hc2
  obtain⟨c1,rfl⟩:∃ c,c1=c+1:=⟨c1-1,by omega⟩
  obtain⟨c2,rfl⟩:∃ c,c2=c+1:=⟨c2-1,by omega⟩
  rw[Apq (by omega)]at h
  refine⟨rings,t1,t2,?_,?_,h⟩
  ·rw[Ab,Ea,AM,AP,Aog (by omega)]
  ·rw[Ab,Bv,AP,Aog (by omega)]
 |succ m ih=>
  intro i c1 c2 rings t1 t2 hi ht1 ht2 h hc1 hc2
  obtain⟨c1,rfl⟩:∃ c,c1=c+1:=⟨c1-1,by omega⟩
  obtain⟨c2,rfl⟩:∃ c,c2=c+1:=⟨c2-1,by omega⟩
  have hi':i<l.length:=by omega
  have hx:l[i]? = some l[i]:=Aon hi'
  obtain⟨iu,iv⟩:=ha _ (Apy hi')
  obtain⟨zs,q,e1,e2,_⟩:=AcH h iu iv
  obtain⟨zs',q',f1,f2,_⟩:=AaD (n:=n) (rings:=rings) l[i].1 l[i].2.1 h.fr.dom
  rw[e1]at f1
  cases f1
  rw[← Aqh hi']at e2
  obtain⟨zs2,b1,b2,g1,g2,g3⟩:=ih (i+1) c1 c2 zs (A1 t1 [ieq q 0]) (A1 t2 [ieq q 0]) (by omega) (by simp[DC,ht1]) (by simp[DC,ht2]) e2 (by omega) (by omega)
  refine⟨zs2,b1,b2,?_,?_,g3⟩
  ·rw[Ab,Ea,AM,AP,Aoi hi']
   simp only[Ag hx,f2]
   rw[AQ (by omega),BK (by simp only[AM,Aot,ApA];omega)]
   exact g1
  ·rw[Ab,Bv,AP,Aoi hi']
   simp only[Ag hx,e1]
   rw[AQ (by omega),BK (by simp only[AM,Aot,ApA];omega)]
   exact g2
theorem Amc{N:Nat}(h1:1≤N)(hN:N≤64)(l:List Edge)(hs:l.length<1073741824)(ha:∀ e∈l,In (N:Int) e.1∧In (N:Int) e.2.1):
  ∃ zs,fof ((N:Int),l,())=some (((N:Int),(zs,())),0,())∧Ain ((N:Int),l,())=some (((N:Int),(zs,())),0,())∧FC (N:Int) zs l:=by
 have hF:=AG3 h1 hN
 have hD:=hF.fr.dom
 have hRF:=MO.2 hF.fr
 obtain⟨zs,b1,b2,e1,e2,h2⟩:=AAi l hs ha l.length 0 many many (BT N) [] [] (by omega) rfl rfl (by simpa using hF) (by simp only[many];omega) (by simp only[many];omega)
 refine⟨zs,?_,?_,h2⟩
 ·have hth:Q9 (((N:Int),(BT N,())),l.flatMap fun e=>[e.1,e.2.1],())=some (0,()):=by
   have hfl:=AT3 l
   rw[AFZ _ _ _ hD (by omega),AT4,AUi,Aoq hRF]
   split
   ·rfl
   ·rename_i hc
    exact absurd (Ao2.2 fun e he=>Aoi (ha e he)) hc
  have hm:HV (N:Int)=((N:Int),BT N,0,()):=by
   unfold HV
   rw[Aoq (show Sz (N:Int)from⟨by omega,by omega⟩),Apb]
  have e2':Ab Bv many ((N:Int),BT N,(0:Int),[],l,(l.length:Int),(0:Int),())=_:=e2
  rw[AZI,ATt]
  simp only[AJT,hm,Bf,Aov]
  rw[XZ,N0,N4,IZ]
  simp only[AFu l hs,hth,Bf,Aov,Av,AM,e2']
 ·have hall:(l.all fun e=>decide (In (N:Int) e.1)&&decide (In (N:Int) e.2.1))=true:=by
   rw[Ao2]
   intro e he
   obtain⟨h1,h2⟩:=ha e he
   simp[h1,h2]
  have e1':AU Ea many (l,(N:Int),BT N,(0:Int),[],(0:Int),())=_:=(Av _ _ _).trans e1
  have hE:AUi (N:Int) (BT N) true=0:=by
   unfold AUi
   simp[hRF]
  have hL:Sm (((N:Int),(BT N,())),l,())=some (((N:Int),(zs,())),b1,0,()):=by
   rw[AEz,O7]
   simp only[AQO (N:Int) (BT N) l hD (by omega),hall]
   rw[hE]
   simp only[PB,Aov,e1']
  have hm:W4 ((N:Int),())=some ((N:Int),BT N,0,()):=by
   rw[AYM]
   unfold HV
   rw[Aoq (show Sz (N:Int)from⟨by omega,by omega⟩),Apb]
  rw[AbS,ANR]
  simp only[hm,PB,Aov,hL]
theorem RG2.both{N:Nat}{ts:List Tie}(h:RG2 N ts)(k:Int):∃ zs,Lh (((N:Int),(ts,())),k,())=some (((N:Int),(zs,())),0,())∧Nz (((N:Int),(ts,())),k,())=some (((N:Int),(zs,())),0,())∧FC (N:Int) zs (trk ts k):=by
 have hl:=h.Anl k
 obtain⟨zs,e1,e2,hF⟩:=Amc h.h1 h.hN (trk ts k) (by omega) (h.inK k)
 refine⟨zs,?_,?_,hF⟩
 ·rw[Lg,Hj]
  simp only[h.lr,Aov,AS3 (N:Int) ts h.ht k,e1]
 ·rw[Zb,L5]
  simp only[h.r21,Aov,Acd (N:Int) ts h.ht k,e2]
end Go.Pev.Pl
end
section
namespace Go.Pev.Pl
open Tok
section
variable (n:Int) (ts:List Tie)
theorem ATE(k:Int)(hr:Ld ((n,(ts,())),())=some (false,())):Lh ((n,(ts,())),k,())=some ((0,([],())),1,()):=by
 rw[Lg,Hj]
 simp only[hr,ApR]
end
end Go.Pev.Pl
end
section
namespace Go.Pev.Pl
open Tok
end Go.Pev.Pl
end
section
namespace Go.Pev.Pl
open Tok
end Go.Pev.Pl
end
section
namespace Go.Pev.Pl
open Tok
end Go.Pev.Pl
end
section
namespace Go.Pev.Pl
open Tok
theorem AeP(n:Int)(rings:List (List Int))(v:Int)(hD:Dom rings):Aip ((n,(rings,())),v,())=some (if RF n rings∧In n v then plc rings v else -1,()):=by
 rw[AbT,ANS]
 simp only[IQ,Ex n rings hD.1 hD.2,NN n rings v hD.1 (fun l hl=>(hD.2 l hl).1)]
 by_cases h1:In n v
 ·by_cases h2:RF n rings<;>simp[h1,h2]
 ·by_cases h2:RF n rings<;>simp[h1,h2]
section
variable (a0:Int) (a1:List Tie) (a2 a3 a4:Int) (a5:List (List Int)) (a6:Int) (a7:List (List Int)) (p q:List Edge)
end
end Go.Pev.Pl
end
section
namespace Go.Pev.Pl
open Tok
end Go.Pev.Pl
end
section
namespace Go.Pev.Pl
theorem ABF{α β:Type}:∀ m:List (α×β),List.zip (List.map Prod.fst m) (List.map Prod.snd m)=m
 |[]=>rfl
 |(a,b)::m=>by simp only[ApH,ArD,ABF m]
theorem KV{β:Type}(k:Int):∀ m:List (Int×List β),Ac (m.map Prod.snd) (C2 (m.map Prod.fst) k) []=(AS m k).getD []
 |[]=>by simp[C2,Ac,AS]
 |(a,b)::m=>by
  have ih:=KV k m
  simp only[ApH,C2,AS]
  by_cases h:a=k
  ·simp[h,Ac]
  ·simp only[h,Ao3]
   rw[← ih]
   simp[Ac]
theorem AQ0{β:Type}(k:Int)(v:β):∀ m:List (Int×β),List.zip (MA (m.map Prod.fst) (C2 (m.map Prod.fst) k) k) (MA (m.map Prod.snd) (C2 (m.map Prod.fst) k) v)=Ah m k v
 |[]=>by simp[C2,MA,Ah]
 |(a,b)::m=>by
  have ih:=AQ0 k v m
  simp only[ApH,C2,Ah]
  by_cases h:a=k
  ·simp[h,MA,ABF]
  ·simp only[h,Ao3]
   rw[← ih]
   have q:∀ {α:Type} (x y:α) (xs:List α) (i:Nat),MA (x::xs) (i+1) y=x::MA xs i y:=by
    intro α x y xs i
    simp only[MA,Aot,Nat.add_lt_add_iff_right,List.set_cons_succ,ApE]
    split<;>rfl
   rw[q,q,ArD]
def AIL(k:Int)(t:Tie):Bool := !t.2.2.2.1&&decide (t.2.2.1=k)
def Se(ts:List Tie)(k:Int):List Edge:=(ts.filter (AIL k)).map ed
def EB(x:Int)(e:Edge):Bool:=decide (e.1=x∨e.2.1=x)
abbrev RM:=List (Int×List (Int×Int×Unit))
def HR(m:RM)(x:Int):List (Int×Int×Unit):=(AS m x).getD []
def AUp(m:RM)(x:Int)(e:Edge):RM:=Ah m x (HR m x++[e])
def AaN(m:RM)(e:Edge):RM:=AUp (AUp m e.1 e) e.2.1 e
theorem Ot(m:RM)(x:Int)(e:Edge)(y:Int):HR (AUp m x e) y=if y=x then HR m x++[e]else HR m y:=by
 unfold HR AUp
 rw[Dz]
 by_cases h:y=x<;>simp[h,HR]
theorem AdW(m:RM)(e:Edge)(h:e.1≠e.2.1)(y:Int):HR (AaN m e) y=HR m y++if EB y e=true then [e]else []:=by
 unfold AaN
 rw[Ot,Ot,Ot]
 unfold EB
 by_cases h1:y=e.1
 ·subst h1
  rw[Aor h,Aoq rfl,Aoq (by simp)]
 ·by_cases h2:y=e.2.1
  ·subst h2
   rw[Aoq rfl,Aor h1,Aoq (by simp)]
  ·rw[Aor h2,Aor h1,Aor (by simp;omega),Apw]
theorem ACz(m:RM)(x:Int)(e:Edge)(n:Nat)(h:∀ y,(HR m y).length≤n):∀ y,(HR (AUp m x e) y).length≤n+1:=by
 intro y
 rw[Ot]
 have:=h x
 have:=h y
 split<;>simp<;>omega
def ASg(k:Int)(m:RM)(t:Tie):RM:=if AIL k t=true then AaN m (ed t)else m
theorem AeE(k:Int)(y:Int):∀ (ts:List Tie) (m:RM),(∀ t∈ts,t.1<t.2.1)→HR (ts.foldl (ASg k) m) y=HR m y++(Se ts k).filter (EB y):=by
 intro ts
 induction ts with
 |nil=>intro m _;simp[Se]
 |cons t ts ih=>
  intro m h
  rw[ApY,ih _ fun t ht=>h t (Ao7 _ ht)]
  unfold ASg Se
  rw[Ap4]
  by_cases hb:AIL k t=true
  ·rw[Aoq hb,Aoq hb,AdW _ _ (by have:=h t List.mem_cons_self;show t.1≠t.2.1;omega),ApH,Ap4]
   by_cases hy:EB y (ed t)=true
   ·rw[Aoq hy,Aoq hy];simp
   ·rw[Aor hy,Aor hy];simp
  ·rw[Aor hb,Aor hb]
theorem AhY(k n:Int)(tks:List Int)(ofm:List (Int×Int))(m:RM)(u v l:Int)(b:Bool)(ts:List Tie)(d i l' k':Int)(b':Bool)(c:Nat)(hc:∀ y,(HR m y).length≤c)(hs:c<1073741824):
  AU Gd many (k,n,tks,ofm,m,u,v,l,b,ts,d,i,l',k',b',([u,v]:List Int),(0:Int),())=some (.inl (k,n,tks,ofm,AaN m (u,(v,())),ts,d,i,l',k',b',())):=by
 obtain⟨q,hm⟩:∃ q,many=q+3:=⟨many-3,by simp only[many]⟩
 have i0:idx [u,v] (0:Int)=some u:=by rw[idx_eq];rfl
 have i1:idx [u,v] (1:Int)=some v:=by rw[idx_eq];rfl
 have w1:IntKind.wrap .i64 ((0:Int)+1)=1:=by rw[Ai (by omega)];rfl
 have w2:IntKind.wrap .i64 ((1:Int)+1)=2:=by rw[Ai (by omega)];rfl
 have c0:ilt (0:Int) 2=true:=by rw[Af];rfl
 have c1:ilt (1:Int) 2=true:=by rw[Af];rfl
 have c2:ilt (2:Int) 2=false:=by rw[Af];rfl
 have d0:Ac [u,v] 0 (0:Int)=u:=rfl
 have d1:Ac [u,v] 1 (0:Int)=v:=rfl
 have fl:∀ (m:RM) (x:Int) (e:Edge),(HR m x).length≤c+1→fits ((AK ((AS m x).getD []))+(AK ([e]:List Edge)))=true:=by
  intro m x e h
  apply BK
  simp only[AM,ApX]
  simp only[HR]at h
  omega
 have q0:=ACz m u (u,(v,())) c hc
 have st:∀ (m:RM) (j x:Int),(HR m x).length≤c+1→ilt j 2=true→idx [u,v] j=some x→Gd (k,n,tks,ofm,m,u,v,l,b,ts,d,i,l',k',b',([u,v]:List Int),j,())=some (.inl (k,n,tks,ofm,AUp m x (u,(v,())),u,v,l,b,ts,d,i,l',k',b',([u,v]:List Int),IntKind.wrap .i64 (j+1),())):=by
  intro m j x h1 h2 h3
  simp only[Gd,d0,d1,h2,h3,KV,AQ0,Bf,Apo,DC,fl m x (u,(v,())) h1]
  rfl
 have en:Gd (k,n,tks,ofm,AaN m (u,(v,())),u,v,l,b,ts,d,i,l',k',b',([u,v]:List Int),(2:Int),())=some (.inr (.inl (k,n,tks,ofm,AaN m (u,(v,())),ts,d,i,l',k',b',()))):=by
  simp only[Gd,c2,ABF]
 rw[Av,hm,Ab,st m 0 u (Nat.le_succ_of_le (hc u)) c0 i0,w1]
 show Ab Gd (q+2) _=_
 rw[Ab,st _ 1 v (q0 v) c1 i1,w2]
 show Ab Gd (q+1) _=_
 rw[Ab]
 have ea:AUp (AUp m u (u,(v,()))) v (u,(v,()))=AaN m (u,(v,())):=rfl
 rw[ea,en]
theorem AdH(k n:Int)(tks:List Int)(ofm:List (Int×Int))(ts:List Tie)(hs:ts.length≤400):
  AU I4 many (k,n,tks,ofm,([]:RM),ts,AK ts,(0:Int),())=some (.inl (n,tks,ofm,ts.foldl (ASg k) [],())):=by
 have e:=Bx (step:=I4) (fun i (m:RM)=>(k,n,tks,ofm,m,ts,AK ts,(i:Int),())) ts (fun t m=>.inl (ASg k m t)) (fun m=>.inl (n,tks,ofm,m,())) (fun i m=>∀ y,(HR m y).length≤2*i) (by omega)
  (fun i x m hi hx hm=>by
   refine⟨fun m' h' => ?_,fun r h'=>(by cases h')⟩
   cases h'
   constructor
   ·rw[I4,AM,AP,Aoi hi]
    simp only[Ag hx,AM,ABF]
    rw[AQ (by omega)]
    unfold ASg AIL
    cases h4:x.2.2.2.1
    ·simp only[Au]
     by_cases h5:x.2.2.1=k
     ·rw[Aoi h5]
      simp only[Aov,ApR,Aq1,ApL]
      rw[AhY k n tks ofm m x.1 x.2.1 x.2.2.1 false ts _ _ _ _ _ (2*i) hm (by omega)]
      simp only[ABF]
      rw[AQ (by omega)]
      rfl
     ·rw[Aog h5]
      simp
    ·simp
   ·unfold ASg
    split
    ·intro y
     have:=ACz _ x.2.1 (ed x) (2*i+1) (ACz m x.1 (ed x) (2*i) hm) y
     exact this
    ·intro y
     have:=hm y
     omega)
  (fun m _=>by rw[I4,AM,AP,Aog (by omega)];simp only[ABF]) [] (fun y=>by simp[HR,AS])
 have e':AU I4 many (k,n,tks,ofm,([]:RM),ts,AK ts,(0:Int),())=_:=e
 rw[e',A2 (fun(t:Tie) (m:RM)=>ASg k m t)]
def ofF(m:List (Int×Int))(x:Int):List (Int×Int):=Ah m x 1
theorem Alq(y:Int):∀ (xs:List Int) (m:List (Int×Int)),(AS (xs.foldl ofF m) y).getD 0=if y∈xs then 1 else(AS m y).getD 0:=by
 intro xs
 induction xs with
 |nil=>intro m;simp
 |cons x xs ih=>
  intro m
  rw[ApY,ih]
  unfold ofF
  rw[Dz]
  by_cases h:y∈xs
  ·simp[h]
  ·by_cases h2:y=x<;>simp[h,h2]
theorem AdG(k n:Int)(ts:List Tie)(n':Int)(tks:List Int)(hs:tks.length≤1000):
  AU I5 many (k,n,ts,n',tks,([]:List (Int×Int)),([]:RM),tks,AK tks,(0:Int),())=some (.inl (k,n,ts,n',tks,tks.foldl ofF [],([]:RM),())):=by
 have e:=Bx (step:=I5) (fun i (m:List (Int×Int))=>(k,n,ts,n',tks,m,([]:RM),tks,AK tks,(i:Int),())) tks (fun x m=>.inl (ofF m x)) (fun m=>.inl (k,n,ts,n',tks,m,([]:RM),())) (fun _ _=>True) (by omega)
  (fun i x m hi hx hm=>by
   refine⟨fun m' h' => ?_,fun r h'=>(by cases h')⟩
   cases h'
   refine⟨?_,trivial⟩
   rw[I5,AM,AP,Aoi hi]
   simp only[Ag hx,AM,AqU,List.zip_nil_left]
   rw[AQ (by omega)]
   rfl)
  (fun m _=>by rw[I5,AM,AP,Aog (by omega)];rfl) [] trivial
 have e':AU I5 many (k,n,ts,n',tks,([]:List (Int×Int)),([]:RM),tks,AK tks,(0:Int),())=_:=e
 rw[e',A2 (fun(x:Int) (m:List (Int×Int))=>ofF m x)]
structure TR(N:Nat)(ts:List Tie)(v k:Int)(tks:List Int)(ofm:List (Int×Int))(outm:RM):Prop where
 rg:RG (N:Int) tks
 mem:v∈tks
 of:∀ x,(AS ofm x).getD 0=if x∈tks then 1 else 0
 row:∀ x,HR outm x=(Se ts k).filter (EB x)
 con:∀ u,In (N:Int) u→(u∈tks↔Con (trk ts k) v u)
theorem AhX{N:Nat}{ts:List Tie}(h:RG2 N ts)(v k:Int)(hv:0≤v∧v<(N:Int)):
  ∃ tks ofm outm,seen (((N:Int),(ts,())),v,k,())=some (.inr (.inl ((N:Int),tks,ofm,outm,0,())))∧QJ (((N:Int),(ts,())),v,k,())=some (tks,())∧TR N ts v k tks ofm outm:=by
 obtain⟨zs,e1,e2,hF⟩:=h.both k
 have iv:In (N:Int) v:=AjI h.h1 h.hN hv
 have hD:=hF.fr.dom
 have hRF:=(MO.2 hF.fr)
 obtain⟨i,A,hp,hi,hvA,hil⟩:=NM (hF.fr.cov v iv)
 have hA:A∈zs:=Aox hi
 have hrg:=hF.fr.rg A hA
 have hlen:A.length≤1000:=hrg.1.1
 refine⟨A,A.foldl ofF [],ts.foldl (ASg k) [],?_,?_,hrg,hvA,?_,?_,?_⟩
 ·rw[AAs,Vs]
  simp only[e1,Bf,Aov]
  rw[Af,Aog (show ¬ v<0 by omega),Ar,Aog (show ¬ (N:Int)≤v by omega)]
  simp only[Aks _ _ _ hD,Aoq (show RF (N:Int) zs∧In (N:Int) v from⟨hRF,iv⟩),hp,Ag hi,List.zip_nil_left,AqU]
  rw[AdG k (N:Int) ts (N:Int) A hlen]
  simp only[AqU,List.zip_nil_left]
  rw[AdH k (N:Int) A _ ts h.ht]
  simp only[ABF]
 ·rw[AJR,R7]
  simp only[e2,AeP _ _ _ hD,Aoq (show RF (N:Int) zs∧In (N:Int) v from⟨hRF,iv⟩),hp,Ag hi]
  rw[Af,Aog (by omega)]
 ·intro x
  rw[Alq]
  rfl
 ·intro x
  rw[AeE k x ts [] fun t ht=>(h.tie ht).2.2.1]
  simp[HR,AS]
 ·intro u iu
  rw[← hF.sam v u iv iu]
  constructor
  ·exact fun hu=>⟨A,hA,hvA,hu⟩
  ·rintro⟨B,hB,hvB,huB⟩
   obtain⟨j,hj⟩:=ArQ hB
   have:=hF.fr.uniq hi hj iv.2.2.2 hvA hvB
   subst this
   rw[hi]at hj
   cases hj
   exact huB
theorem AdJ{N:Nat}{ts:List Tie}(h:RG2 N ts)(v k:Int)(hv:¬ (0≤v∧v<(N:Int))):
  seen (((N:Int),(ts,())),v,k,())=some (.inl (10,()))∧HX (((N:Int),(ts,())),v,())=some (10,()):=by
 obtain⟨zs,e1,e2,hF⟩:=h.both k
 rw[AAs,Vs,MK,Ho]
 simp only[e1,h.r21,Bf,Aov,Af,Ar]
 by_cases h1:v<0
 ·rw[Aoi h1]
  exact⟨rfl,rfl⟩
 ·rw[Aog h1,Aoi (show(N:Int)≤v by omega)]
  exact⟨rfl,rfl⟩
theorem AkQ{N:Nat}{ts:List Tie}(h:RG2 N ts)(v:Int)(hv:0≤v∧v<(N:Int)):HX (((N:Int),(ts,())),v,())=some (0,()):=by
 rw[MK,Ho]
 simp only[h.r21,Aov,Af,Ar]
 rw[Aog (show ¬ v<0 by omega),Aog (show ¬ (N:Int)≤v by omega)]
theorem Aha{n:Int}{ts:List Tie}(v k:Int)(hr:FF ((n,(ts,())),())=some (false,()))(hl:Ld ((n,(ts,())),())=some (false,())):
  seen ((n,(ts,())),v,k,())=some (.inl (1,()))∧HX ((n,(ts,())),v,())=some (1,()):=by
 have h1:ieq (1:Int) 0=false:=by rw[Au];rfl
 rw[AAs,Vs,MK,Ho]
 simp only[ATE _ _ k hl,hr,h1,ApR]
 trivial
end Go.Pev.Pl
end
section
namespace Go.Pev.Pl.SE
open Go.Sort
theorem Xr{x y:Int×Int×Unit}(_:ok x)(_:ok y):∃ c,BQ (x,y,())=some (c,())∧ilt c (0:Int)=lt x y:=by
 rw[AQf,AAr]
 simp only[Zh,or_val,Af,lt]
 refine⟨_,rfl,?_⟩
 apply Aqj.2
 by_cases h1:x.1<y.1
 ·simp[h1]
 ·by_cases h2:y.1<x.1
  ·have h3:¬ x.1=y.1:=by omega
   simp[h1,h2,h3]
  ·have h3:x.1=y.1:=by omega
   by_cases h4:x.2.1<y.2.1
   ·simp[h3,h4]
   ·by_cases h5:y.2.1<x.2.1
    ·simp[h3,h4,h5]
    ·simp[h3,h4,h5]
noncomputable def S:SG.SP (Int×Int×Unit):=⟨((0:Int),((0:Int),())),BQ,ok,okz,Wn,lt,swo,fun h1 h2=>Xr h1 h2⟩
theorem ND(xs:List (Int×Int×Unit))(h:xs.length<4294967296):∃ ys,AQY (xs,())=some (ys,())∧ys.Perm xs∧ys.Pairwise fun x y=>lt y x=false:=SG.ND S xs h fun _ _=>trivial
end Go.Pev.Pl.SE
namespace Go.Pev.Pl
def ZS(N:Nat)(L:List Edge)(x:Int):Bool:=decide (x<(N:Int))&&L.any (EB x)
theorem AFj{α:Type}(P:α→Bool):∀ L:List α,decide (0<(L.filter P).length)=L.any P
 |[]=>rfl
 |x::L=>by
  rw[Ap4,Arq,← AFj P L]
  by_cases h:P x=true<;>simp[h]
section
variable {N:Nat} {ts:List Tie} {v k:Int} {tks:List Int} {ofm:List (Int×Int)} {outm:RM}
theorem AYI(h:TR N ts v k tks ofm outm)(x:Int):H5 ((N:Int),tks,ofm,outm,x,())=some ((N:Int),tks,ofm,outm,ZS N (Se ts k) x,()):=by
 rw[Yr,LG]
 have hr:=h.row x
 unfold HR at hr
 simp only[hr,AM]
 unfold ZS
 rw[Af,Af,← AFj]
 by_cases h1:x<(N:Int)<;>simp[h1]
end
abbrev MS:=List (Edge×Int)×List Edge
def ASp(m:List (Edge×Int))(x:Edge):Int:=(AS m x).getD 0
def AeZ(a:MS)(x:Edge):MS:=(Ah a.1 x (ASp a.1 x+1),if x∈a.2 then a.2 else a.2++[x])
structure MI2(s:Nat)(a:MS):Prop where
 len:a.2.length≤s
 bnd:∀ x,0≤ASp a.1 x∧ASp a.1 x≤(s:Int)
 zero:∀ x,ASp a.1 x=0↔x∉a.2
 nd:a.2.Nodup
theorem MI2.step{s:Nat}{a:MS}(h:MI2 s a)(x:Edge):MI2 (s+1) (AeZ a x):=by
 have hg:∀ y,ASp (AeZ a x).1 y=if y=x then ASp a.1 x+1 else ASp a.1 y:=by
  intro y
  unfold AeZ ASp
  simp only
  rw[AYX]
  split<;>rfl
 refine⟨?_,fun y => ?_,fun y => ?_,?_⟩
 ·have:=h.len
  unfold AeZ
  simp only
  split<;>simp<;>omega
 ·rw[hg]
  have:=h.bnd x
  have:=h.bnd y
  split<;>omega
 ·rw[hg]
  unfold AeZ
  simp only
  have b:=h.bnd x
  by_cases hy:y=x
  ·subst hy
   rw[Aoq rfl]
   by_cases hm:y∈a.2
   ·rw[Aoq hm]
    constructor
    ·intro q;omega
    ·intro q;exact absurd hm q
   ·rw[Aor hm]
    constructor
    ·intro q;omega
    ·intro q;exact absurd (by simp) q
  ·rw[Aor hy,h.zero]
   split
   ·exact Iff.rfl
   ·simp[hy]
 ·unfold AeZ
  simp only
  split
  ·exact h.nd
  ·rename_i hm
   rw[AqZ]
   refine⟨h.nd,by simp,fun p hp q hq => ?_⟩
   rw[ApB]at hq
   rintro rfl
   exact hm (hq▸hp)
theorem MI2.mono{s s':Nat}{a:MS}(h:MI2 s a)(hs:s≤s'):MI2 s' a:=⟨by have:=h.len;omega,fun x=>by have:=h.bnd x;omega,h.zero,h.nd⟩
end Go.Pev.Pl
end
section
namespace Go.Pev.Pl
theorem ASd(t:Tie)(k:Int):Kc (t,k,())=some (AIL k t,()):=by
 rw[Sd,JB]
 unfold AIL
 simp only[Au]
 cases t.2.2.2.1<;>rfl
theorem AJS(x k:Int):∀ ts:List Tie,(ts.any fun t=>AIL k t&&(decide (t.1=x)||decide (t.2.1=x)))=(Se ts k).any (EB x)
 |[]=>rfl
 |t::ts=>by
  have ih:=AJS x k ts
  unfold Se at *
  rw[Arq,ih,Ap4]
  by_cases h:AIL k t=true
  ·rw[Aoq h,ApH,Arq,h]
   unfold EB
   by_cases h1:t.1=x<;>by_cases h2:t.2.1=x<;>simp[ed,h1,h2]
  ·rw[Aor h]
   simp[h]
theorem ANi(N:Nat)(ts:List Tie)(hs:ts.length≤400)(x k:Int):Nd (((N:Int),(ts,())),x,k,())=some ((Se ts k).any (EB x),()):=by
 have e:=Pz (step:=Df) (fun i=>(x,k,(N:Int),ts,(i:Int),())) ts (fun t=>AIL k t&&(decide (t.1=x)||decide (t.2.1=x))) (fun _=>.inl (true,())) (.inr (.inl ())) (by omega)
  (fun i t hi hx=>by
   rw[Df,AM,AP,Aoi hi]
   simp only[Ag hx,Aoc,ASd,Au]
   rw[AQ (by omega)]
   cases AIL k t
   ·rfl
   ·by_cases h1:t.1=x
    ·simp[h1]
    ·by_cases h2:t.2.1=x<;>simp[h1,h2])
  (by rw[Df,AM,AP,Aog (by omega)])
 rw[ZR,Lc]
 have e':AU Df many (x,k,(N:Int),ts,(0:Int),())=_:=e
 simp only[e',AJS]
 cases (Se ts k).any (EB x)<;>rfl
end Go.Pev.Pl
end
section
namespace Go.Pev.Pl
section
variable {N:Nat} {ts:List Tie} {v k:Int} {tks:List Int} {ofm:List (Int×Int)} {outm:RM}
end
end Go.Pev.Pl
end
section
namespace Go.Pev.Pl
theorem APH:Jb ()=some (true,()):=by
 rw[show Jb () = @Jb idI ()from AqD (fun i=>@Jb i ()) AEt]
 kernel_rfl
theorem ATl(n:Int)(ts:List Tie):PD ((n,(ts,())),())=some (true,())∨(PD ((n,(ts,())),())=some (false,())∧ts.length≤30∧n≤12):=by
 rw[AFX,PC]
 simp only[AM,Af]
 by_cases h1:(30:Int)<ts.length
 ·rw[Aoi h1];exact .inl rfl
 ·rw[Aog h1]
  by_cases h2:(12:Int)<n
  ·rw[Aoi h2];exact .inl rfl
  ·rw[Aog h2];exact .inr ⟨rfl,by omega,by omega⟩
theorem AhN(n:Int)(ts:List Tie)(hl:ts.length≤400)(v k:Int):
  (∃ e:Int,(e=1∨(e=10∧∃ N:Nat,n=(N:Int)∧RG2 N ts∧¬ (0≤v∧v<(N:Int))))∧seen ((n,(ts,())),v,k,())=some (.inl (e,()))∧HX ((n,(ts,())),v,())=some (e,())) ∨
  ∃ (N:Nat) (tks:List Int) (ofm:List (Int×Int)) (outm:RM),n=(N:Int)∧RG2 N ts∧(0≤v∧v<(N:Int))∧seen ((n,(ts,())),v,k,())=some (.inr (.inl ((N:Int),tks,ofm,outm,0,())))∧QJ ((n,(ts,())),v,k,())=some (tks,())∧TR N ts v k tks ofm outm:=by
 rcases Adh n ts (by omega)with⟨r1,r⟩|⟨N,rfl,h⟩
 ·obtain⟨q1,q2⟩:=Aha v k r1 r
  exact .inl ⟨1,.inl rfl,q1,q2⟩
 ·by_cases hv:0≤v∧v<(N:Int)
  ·obtain⟨tks,ofm,outm,h1,h2,h3⟩:=AhX h v k hv
   exact .inr ⟨N,tks,ofm,outm,rfl,h,hv,h1,h2,h3⟩
  ·obtain⟨q1,q2⟩:=AdJ h v k hv
   exact .inl ⟨10,.inr ⟨rfl,N,rfl,h,hv⟩,q1,q2⟩
theorem Ajx{e:Int}(h:e=1∨e=10):ieq e 0=false:=by
 rw[Au,Aog]
 omega
section
variable {n:Int} {ts:List Tie} {v k e:Int}
end
abbrev GT:=(Int×(List (Int×Int×Int×Bool×Unit))×Unit)
section
variable {N:Nat} {ts:List Tie} {v k:Int} {tks:List Int} {ofm:List (Int×Int)} {outm:RM}
end
end Go.Pev.Pl
end
section
namespace Go.Pev.Pl
theorem AbZ:∀ x:Nat,0<x→∃ k m,x=2 ^ k*(2*m+1):=by
 intro x
 induction x using Nat.strongRecOn with
 |_ x ih=>
  intro hx
  by_cases h:x % 2=1
  ·exact⟨0,x/2,by rw[Nat.pow_zero];omega⟩
  ·obtain⟨k,m,e⟩:=ih (x/2) (by omega) (by omega)
   refine⟨k+1,m,?_⟩
   rw[Nat.pow_succ,Nat.mul_comm (2 ^ k) 2,Nat.mul_assoc,← e]
   omega
theorem Sl(k m j:Nat):(2 ^ k*(2*m+1)).testBit j=if j<k then false else if j=k then true else m.testBit (j-k-1):=by
 have:=Nat.testBit_two_pow_mul_add (2*m+1) (Nat.two_pow_pos k) j
 rw[Ap5]at this
 rw[this]
 by_cases h1:j<k
 ·rw[Aoq h1,Aoq h1,Nat.zero_testBit]
 ·rw[Aor h1,Aor h1]
  by_cases h2:j=k
  ·subst h2
   rw[Aoq rfl,AqP,Nat.testBit_zero]
   simp
  ·rw[Aor h2]
   obtain⟨d,hd⟩:∃ d,j-k=d+1:=⟨j-k-1,by omega⟩
   rw[hd,Nat.testBit_succ,show(2*m+1)/2=m by omega]
   rfl
theorem Aeu(k m j:Nat):(2 ^ k*(2*m+1)-1).testBit j=if j<k then true else if j=k then false else m.testBit (j-k-1):=by
 have hp:=Nat.two_pow_pos k
 have e:2 ^ k*(2*m+1)-1=2 ^ k*(2*m)+(2 ^ k-1):=by rw[Nat.mul_add,Aqu];omega
 rw[e,Nat.testBit_two_pow_mul_add (2*m) (by omega) j]
 by_cases h1:j<k
 ·rw[Aoq h1,Aoq h1,Nat.testBit_two_pow_sub_one]
  simpa using h1
 ·rw[Aor h1,Aor h1]
  by_cases h2:j=k
  ·subst h2
   rw[Aoq rfl,AqP,Nat.testBit_zero]
   simp
  ·rw[Aor h2]
   obtain⟨d,hd⟩:∃ d,j-k=d+1:=⟨j-k-1,by omega⟩
   rw[hd,Nat.testBit_succ,show(2*m)/2=m by omega]
   rfl
theorem Alz{k m:Nat}(h:2 ^ k*(2*m+1)<2 ^ 32):2 ^ k*(2*m+1) &&& (2 ^ 32-2 ^ k*(2*m+1))=2 ^ k:=by
 have hp:=Nat.two_pow_pos k
 have hpos:0<2 ^ k*(2*m+1):=Nat.mul_pos hp (by omega)
 have hk:k<32:=by
  have:2 ^ k*1≤2 ^ k*(2*m+1):=Nat.mul_le_mul_left _ (by omega)
  exact(Nat.pow_lt_pow_iff_right (a:=2) (by omega)).1 (by omega)
 apply Nat.eq_of_testBit_eq
 intro j
 have e:2 ^ 32-2 ^ k*(2*m+1)=2 ^ 32-((2 ^ k*(2*m+1)-1)+1):=by omega
 rw[Nat.testBit_and,e,Nat.testBit_two_pow_sub_succ (by omega),Sl,Aeu,Nat.testBit_two_pow]
 by_cases h1:j<k
 ·rw[Aoq h1];simp;omega
 ·rw[Aor h1,Aor h1]
  by_cases h2:j=k
  ·subst h2
   simp[hk]
  ·rw[Aor h2,Aor h2]
   rw[Aog (show ¬ k=j by omega)]
   cases m.testBit (j-k-1)<;>simp
def hgt(x:Nat):Nat:=(((List.range 7).find? fun j=>x.testBit j).map (· + 1)).getD 8
theorem Abq(k m:Nat):hgt (2 ^ k*(2*m+1))=min (k+1) 8:=by
 unfold hgt
 by_cases h:k<7
 ·have:(List.range 7).find? (fun j=>(2 ^ k*(2*m+1)).testBit j)=some k:=by
   rw[Arf]
   refine⟨by rw[Sl,Aor (by omega),Aoq rfl],by rw[Apa];exact h,fun j hj => ?_⟩
   rw[Sl,Aoq hj]
   rfl
  rw[this]
  simp only[AqQ,ApF]
  omega
 ·have:(List.range 7).find? (fun j=>(2 ^ k*(2*m+1)).testBit j)=none:=by
   rw[List.find?_eq_none]
   intro j hj
   rw[Apa]at hj
   rw[Sl,Aoq (by omega)]
   simp
  rw[this]
  simp only[Option.map_none,Option.getD_none]
  omega
theorem AFU:hgt 0=8:=by decide
theorem Abp(x:Nat):1≤hgt x∧hgt x≤8:=by
 rcases Ap1 x with rfl|h
 ·rw[AFU];omega
 ·obtain⟨k,m,rfl⟩:=AbZ x h
  rw[Abq];omega
theorem AnA:((List.range 32).all fun k=>decide (ATp[(2 ^ k*125613361) % 4294967296/134217728]? = some ((k:Nat):Int)∧(2 ^ k*125613361) % 4294967296/134217728<32))=true:=by decide +kernel
theorem AgP(x:Nat)(hx:x<4294967296):AU4 ((x:Int),())=some (if x=0 then 32 else((hgt x-1:Nat):Int),())∨∃ k:Nat,AU4 ((x:Int),())=some ((k:Int),())∧k≤32∧min (k+1) 8=hgt x:=by
 right
 rw[Aaf,ALH,Au]
 by_cases h0:x=0
 ·subst h0
  rw[Aoi (show((0:Nat):Int)=0 from rfl),AFU]
  exact⟨32,rfl,by omega,by omega⟩
 ·rw[Aog (by omega)]
  obtain⟨k,m,rfl⟩:=AbZ x (by omega)
  have hp:=Nat.two_pow_pos k
  have hk:k<32:=by
   have:2 ^ k*1≤2 ^ k*(2*m+1):=Nat.mul_le_mul_left _ (by omega)
   exact(Nat.pow_lt_pow_iff_right (a:=2) (by omega)).1 (by omega)
  have ha:=Alz (k:=k) (m:=m) (by omega)
  rw[Abq]
  generalize 2 ^ k*(2*m+1)=x at *
  have e1:IntKind.wrap .u32 (0-(x:Int))=((4294967296-x:Nat):Int):=by
   rw[IntKind.wrap_u32];omega
  have e2:(BitVec.ofInt (IntKind.bits .u32) (x:Int) &&& BitVec.ofInt (IntKind.bits .u32) ((4294967296-x:Nat):Int)).toNat=2 ^ k:=by
   show(BitVec.ofInt 32 (x:Int) &&& BitVec.ofInt 32 ((4294967296-x:Nat):Int)).toNat=2 ^ k
   rw[BitVec.toNat_and,Arh,Arh]
   have q1:((x:Int) % ((2 ^ 32:Nat):Int)).toNat=x:=by omega
   have q2:(((4294967296-x:Nat):Int) % ((2 ^ 32:Nat):Int)).toNat=4294967296-x:=by omega
   rw[q1,q2]
   exact ha
  have hk32:2 ^ k≤2 ^ 31:=Nat.pow_le_pow_right (by omega) (by omega)
  rw[e1,e2,IntWalk.u32_in ((2 ^ k:Nat):Int) ⟨by omega,by omega⟩]
  have e3:IntKind.wrap .u32 (((2 ^ k:Nat):Int)*125613361)=((2 ^ k*125613361 % 4294967296:Nat):Int):=by
   rw[IntKind.wrap_u32];omega
  have e4:shr? .u32 ((2 ^ k*125613361 % 4294967296:Nat):Int) (27:Int)=some ((2 ^ k*125613361 % 4294967296/134217728:Nat):Int):=by
   rw[ACQ,AAG,Aor (by omega),show min (27:Int).toNat (IntKind.bits .u32)=27 from rfl,ArV _ (by decide)]
   rfl
  rw[e3]
  simp only[e4]
  have ht:=Ao2.1 AnA k (by rw[Apa];exact hk)
  rw[Aqx]at ht
  obtain⟨t1,t2⟩:=ht
  generalize 2 ^ k*125613361 % 4294967296/134217728=q at *
  simp only[Ar,Af]
  have hl:AK ATp=32:=rfl
  rw[hl,Aoi (show(0:Int)≤(q:Int) by omega),Aoi (show(q:Int)<32 by omega)]
  simp only[Apo,PF t1]
  rw[Ai (by omega)]
  exact⟨k,rfl,by omega,rfl⟩
theorem AUR(x:Nat)(hx:x<4294967296):Td ((x:Int),())=some ((hgt x:Int),()):=by
 rw[AGP,PI]
 obtain⟨k,e,h1,h2⟩:∃ k:Nat,AU4 ((x:Int),())=some ((k:Int),())∧k≤32∧min (k+1) 8=hgt x:=by
  rcases AgP x hx with e|h
  ·by_cases h0:x=0
   ·rw[Aoq h0]at e
    subst h0
    exact⟨32,e,by omega,by rw[AFU];omega⟩
   ·rw[Aor h0]at e
    have:=Abp x
    exact⟨hgt x-1,e,by omega,by omega⟩
  ·exact h
 simp only[e]
 rw[AQ (by omega),AmG,← h2]
 congr 2
 omega
theorem Af9(x j:Nat)(hx:x<4294967296)(hj:j≤31):AUf ((x:Int),(j:Int),())=some (if x.testBit j then 1 else 0,()):=by
 rw[AUe,AA5,Af,Af,Aog (by omega),Aog (by omega),IntWalk.u64_in _ (by omega)]
 have e4:shr? .u32 (x:Int) (j:Int)=some ((x/2 ^ j:Nat):Int):=by
  rw[ACQ,AAG,Aor (by omega),Apb,show min j (IntKind.bits .u32)=j from Aps (by show j≤32;omega),ArV _ (Int.pow_nonneg (by omega))]
  rfl
 rw[e4]
 have hq:x/2 ^ j≤x:=Nat.div_le_self _ _
 have e2:(BitVec.ofInt (IntKind.bits .u32) ((x/2 ^ j:Nat):Int) &&& BitVec.ofInt (IntKind.bits .u32) (1:Int)).toNat=if x.testBit j then 1 else 0:=by
  show(BitVec.ofInt 32 ((x/2 ^ j:Nat):Int) &&& BitVec.ofInt 32 (1:Int)).toNat=_
  rw[BitVec.toNat_and,Arh,Arh]
  have q1:(((x/2 ^ j:Nat):Int) % ((2 ^ 32:Nat):Int)).toNat=x/2 ^ j:=by
   rw[← Int.natCast_emod,Apb]
   exact Apt (by omega)
  have q2:((1:Int) % ((2 ^ 32:Nat):Int)).toNat=1:=rfl
  rw[q1,q2,Nat.and_one_is_mod]
  have:x.testBit j=decide (x/2 ^ j % 2=1):=Nat.testBit_eq_decide_div_mod_eq
  rw[this]
  by_cases h:x/2 ^ j % 2=1
  ·simp[h]
  ·simp only[h,Ao9]
   have:x/2 ^ j % 2=0:=by omega
   simp[this]
 simp only[e2]
 by_cases h:x.testBit j=true
 ·simp only[h,ApL]
  rfl
 ·simp only[h]
  rfl
theorem AN9(x:Nat)(hx:x<4294967296):Ny ((x:Int),())=some ((hgt x:Int),()):=by
 rw[ZZ,L3]
 have hm:10<many:=by simp only[many];omega
 have step:∀ i:Nat,i<7→CB ((x:Int),((i+1:Nat):Int),())=if x.testBit i then some (.inr (.inl (((i+1:Nat):Int),())))else some (.inl ((x:Int),((i+1+1:Nat):Int),())):=by
  intro i hi
  rw[CB,Af,Aoi (by omega),BC (by omega),ArE,Af9 x i hx (by omega),AQ (by omega)]
  by_cases h:x.testBit i=true
  ·simp only[h,ApL,Au]
   rfl
  ·simp only[h,Au]
   rfl
 have last:CB ((x:Int),((7+1:Nat):Int),())=some (.inr (.inl ((8:Int),()))):=by
  rw[CB,Af,Aog (by omega)]
  rfl
 rcases AQr (step:=CB) (fun i=>((x:Int),((i+1:Nat):Int),())) 7 (fun i=>x.testBit i) (fun i=>.inl (((i+1:Nat):Int),())) (.inl (8,())) (by omega) step last with⟨k,hk,hP,hF,e⟩|⟨hP,e⟩
 ·have e':AU CB many ((x:Int),(1:Int),())=_:=e
  simp only[e']
  have:(List.range 7).find? (fun j=>x.testBit j)=some k:=by
   rw[Arf]
   exact⟨hP,by rw[Apa];exact hk,fun j hj=>by rw[hF j hj];rfl⟩
  unfold hgt
  rw[this]
  rfl
 ·have e':AU CB many ((x:Int),(1:Int),())=_:=e
  simp only[e']
  have:(List.range 7).find? (fun j=>x.testBit j)=none:=by
   rw[List.find?_eq_none]
   intro j hj
   rw[Apa]at hj
   rw[hP j hj]
   simp
  unfold hgt
  rw[this]
  rfl
end Go.Pev.Pl
end
section
namespace Go.Pev.Pl
theorem AQw{σ ρ:Type}{step:σ→Option (σ⊕ρ)}(st:Nat→σ)(N:Nat)(r:ρ)(hN:N<9223372036854775808)(h:∀ i,i<N→step (st i)=some (.inl (st (i+1))))(hr:step (st N)=some (.inr r)):AU step many (st 0)=some r:=by
 have key:∀ (m i n:Nat),i+m=N→m<n→Ab step n (st i)=some r:=by
  intro m
  induction m with
  |zero=>
   intro i n hi hn
   obtain⟨n,rfl⟩:∃ k,n=k+1:=⟨n-1,by omega⟩
   have:i=N:=by omega
   subst this
   rw[Ab,hr]
  |succ m ih=>
   intro i n hi hn
   obtain⟨n,rfl⟩:∃ k,n=k+1:=⟨n-1,by omega⟩
   rw[Ab,h i (by omega)]
   exact ih (i+1) n (by omega) (by omega)
 rw[Av]
 exact key N 0 many (by omega) (by simp only[many];omega)
theorem foldI{α:Type}(f:Nat→α→α)(I:Nat→α→Prop):∀ (m:Nat) (a:α),(∀ k a,k<m→I k a→I (k+1) (f k a))→I 0 a→I m ((List.range m).foldl (fun a k=>f k a) a):=by
 intro m
 induction m with
 |zero=>intro a _ h;exact h
 |succ m ih=>
  intro a hs h0
  rw[Ap3,List.foldl_append]
  exact hs m _ (by omega) (ih a (fun k a hk=>hs k a (by omega)) h0)
theorem Jo{m i x:Nat}(h:(List.range m)[i]? = some x):x=i∧i<m:=by
 obtain⟨h1,h2⟩:=Apn.1 h
 rw[Ao0]at h1
 rw[List.getElem_range]at h2
 exact⟨h2.symm,h1⟩
theorem AFx{α:Type}(n:Nat)(x:α):D6 n x=List.replicate n x:=rfl
noncomputable def htF(script:List Int)(t:Int):Int:=if t<0 then 1 else match RV (script,t,())with
 |some (x,_)=>(hgt x.toNat:Int)
 |none=>1
def U32(l:List Int):Prop:=∀ x∈l,0≤x∧x≤4294967295
theorem Afn(s:List Int)(t:Int):AkP (s,t,())=RV (s,t,()):=by
 rw[Ab9,AO7,Xq,OD]<;>rfl
theorem AGH{s:List Int}(hs:U32 s){t:Int}(ht:0≤t):∃ x:Nat,RV (s,t,())=some ((x:Int),())∧x<4294967296:=by
 obtain⟨t,rfl⟩:=Aou ht
 rw[Xq,OD,Af,Aog (by omega),AM,Au]
 by_cases h0:s.length=0
 ·rw[Aoi (by omega)]
  exact⟨0,rfl,by omega⟩
 ·rw[Aog (by omega)]
  simp only[FG (show 0<s.length by omega)]
  have hm:t % s.length<s.length:=AqX _ (by omega)
  have hx:s[t % s.length]? = some s[t % s.length]:=Aon hm
  have hb:=hs _ (Apy hm)
  simp only[Ag hx]
  generalize s[t % s.length]=x at *
  obtain⟨x,rfl⟩:=Aou hb.1
  exact⟨x,rfl,by omega⟩
theorem AmH{s:List Int}(hs:U32 s)(t:Int):1≤htF s t∧htF s t≤8:=by
 unfold htF
 by_cases h:t<0
 ·rw[Aoq h];omega
 ·rw[Aor h]
  obtain⟨x,e,_⟩:=AGH hs (show 0≤t by omega)
  simp only[e]
  have:=Abp (x:Int).toNat
  omega
theorem ASz(f:Int→Int):∀ (xs a:List Int),xs.foldl (fun a x=>a++[f x]) a=a++xs.map f:=by
 intro xs
 induction xs with
 |nil=>intro a;simp
 |cons x xs ih=>intro a;rw[ApY,ih];simp
theorem AHf{s:List Int}(hs:U32 s)(toks:List Int)(hl:toks.length≤1000):KO (toks,s,())=some (toks.map (htF s),()):=by
 have e:=Bx (step:=Cv) (fun i (a:List Int)=>(s,a,toks,AK toks,(i:Int),())) toks (fun x a=>.inl (a++[htF s x])) (fun a=>.inl (a,())) (fun i a=>a.length≤i) (by omega)
  (fun i x a hi hx ha=>by
   refine⟨fun m' h' => ?_,fun r h'=>(by cases h')⟩
   cases h'
   constructor
   ·rw[Cv,AM,AP,Aoi hi]
    simp only[Ag hx,AM]
    rw[AQ (by omega),Af]
    unfold htF
    by_cases h:x<0
    ·rw[Aoi h,Aoq h]
     simp only
     rw[BK (by simp only[ApX];omega)]
     rfl
    ·rw[Aog h,Aor h]
     obtain⟨y,ey,hy⟩:=AGH hs (show 0≤x by omega)
     simp only[ey,AUR y hy,Apb]
     rw[BK (by simp only[ApX];omega)]
     rfl
   ·simp;omega)
  (fun a _=>by rw[Cv,AM,AP,Aog (by omega)]) [] (Aop _)
 rw[Rz,I3]
 have e':AU Cv many (s,([]:List Int),toks,AK toks,(0:Int),())=_:=e
 simp only[e']
 rw[A2 (fun(x:Int) (a:List Int)=>a++[htF s x]),ASz]
 rfl
theorem AIb{s:List Int}(hs:U32 s)(toks:List Int)(hl:toks.length≤1000):Kl (toks,s,())=some (toks.map (htF s),()):=by
 have e:=Bx (step:=DA) (fun i (a:List Int)=>(toks,s,a,(i:Int),())) toks (fun x a=>.inl (a++[htF s x])) (fun a=>.inl (a,())) (fun i a=>a.length≤i) (by omega)
  (fun i x a hi hx ha=>by
   refine⟨fun m' h' => ?_,fun r h'=>(by cases h')⟩
   cases h'
   constructor
   ·rw[DA,AM,AP,Aoi hi]
    simp only[Ag hx,AM,Afn]
    rw[AQ (by omega),Ar]
    unfold htF
    by_cases h:x<0
    ·rw[Aog (by omega),Aoq h]
     simp only
     rw[BK (by simp only[ApX];omega)]
     rfl
    ·rw[Aoi (by omega),Aor h]
     obtain⟨y,ey,hy⟩:=AGH hs (show 0≤x by omega)
     simp only[ey,AN9 y hy,Apb]
     rw[BK (by simp only[ApX];omega)]
     rfl
   ·simp;omega)
  (fun a _=>by rw[DA,AM,AP,Aog (by omega)]) [] (Aop _)
 rw[S7,JO]
 have e':AU DA many (toks,s,([]:List Int),(0:Int),())=_:=e
 simp only[e']
 rw[A2 (fun(x:Int) (a:List Int)=>a++[htF s x]),ASz]
 rfl
structure HO(H:List Int)(n:Nat):Prop where
 len:H.length=n
 pos:0<n
 top:n≤1000
 rng:∀ h∈H,1≤h∧h≤8
theorem HO.at{H:List Int}{n:Nat}(h:HO H n){i:Nat}(hi:i<n):1≤H.getD i 0∧H.getD i 0≤8∧idx H (i:Int)=some (H.getD i 0):=by
 have hl:=h.len
 refine⟨?_,?_,By 0 (by omega)⟩ <;>
 ·have hm:H.getD i 0∈H:=by
   rw[Aoj,Aon (by omega)]
   exact Apy _
  have:=h.rng _ hm
  omega
def kst(H:List Int)(n i h:Nat):Nat:=(((List.range n).find? fun k=>decide ((h:Int)<H.getD ((i+(k+1)) % n) 0)).map (· + 1)).getD 1
def nxL(H:List Int)(n i:Nat):List Int:=(List.range (H.getD i 0).toNat).map fun h=>(((i+kst H n i h) % n:Nat):Int)
def NX(H:List Int)(n:Nat):List (List Int):=(List.range n).map (nxL H n)
theorem Ni{H:List Int}{n i h:Nat}(hn:0<n)(hi:i<n)(hh:(h:Int)<H.getD i 0):
  1≤kst H n i h∧kst H n i h≤n∧(h:Int)<H.getD ((i+kst H n i h) % n) 0∧∀ k,1≤k→k<kst H n i h→H.getD ((i+k) % n) 0≤(h:Int):=by
 unfold kst
 cases hf:(List.range n).find? (fun k=>decide ((h:Int)<H.getD ((i+(k+1)) % n) 0))with
 |none=>
  exfalso
  rw[List.find?_eq_none]at hf
  have:=hf (n-1) (by rw[Apa];omega)
  rw[show i+(n-1+1)=i+n by omega,Nat.add_mod_right,Apt hi]at this
  exact this (Aoi hh)
 |some k=>
  rw[Arf]at hf
  obtain⟨h1,h2,h3⟩:=hf
  rw[Apa]at h2
  rw[Aqx]at h1
  simp only[AqQ,ApF]
  refine⟨by omega,by omega,h1,fun j j1 j2 => ?_⟩
  have:=h3 (j-1) (by omega)
  rw[show i+(j-1+1)=i+j by omega]at this
  simpa using this
theorem AkJ{H:List Int}{n:Nat}(ho:HO H n)(d2 d3:List Int)(d4:List (List Int))(d6:List Int){i h:Nat}(hi:i<n)(hh:(h:Int)<H.getD i 0):
  AU El many (H,(n:Int),d2,d3,d4,(i:Int),d6,(h:Int),(1:Int),())=some (.inl (H,(n:Int),d2,d3,d4,(i:Int),d6,(h:Int),(kst H n i h:Int),())):=by
 obtain⟨k1,k2,k3,k4⟩:=Ni ho.pos hi hh
 have ht:=ho.top
 have hp:=ho.pos
 have:=AQw (step:=El) (fun k=>(H,(n:Int),d2,d3,d4,(i:Int),d6,(h:Int),((k+1:Nat):Int),())) (kst H n i h-1) (.inl (H,(n:Int),d2,d3,d4,(i:Int),d6,(h:Int),(kst H n i h:Int),())) (by omega)
  (fun k hk=>by
   unfold El
   dsimp only
   rw[wrap_add (by omega),FG hp]
   simp only[(ho.at (AqX (i+(k+1)) hp)).2.2]
   rw[Ar,Aoi (k4 (k+1) (by omega) (by omega)),AQ (by omega)])
  (by
   rw[show kst H n i h-1+1=kst H n i h by omega]
   unfold El
   dsimp only
   rw[wrap_add (by omega),FG hp]
   simp only[(ho.at (AqX (i+kst H n i h) hp)).2.2]
   rw[Ar,Aog (by omega)])
 exact this
theorem AkK{H:List Int}{n:Nat}(ho:HO H n)(d2 d3:List Int)(d4:List (List Int)){i:Nat}(hi:i<n):
  AU Dn many (H,(n:Int),d2,d3,d4,(i:Int),([]:List Int),(0:Int),())=some (.inl (H,(n:Int),d2,d3,d4,(i:Int),nxL H n i,())):=by
 obtain⟨a1,a2,a3⟩:=ho.at hi
 have ht:=ho.top
 have hp:=ho.pos
 obtain⟨m,hm⟩:=Aou (show 0≤H.getD i 0 by omega)
 have e:=Bx (step:=Dn) (fun h (a:List Int)=>(H,(n:Int),d2,d3,d4,(i:Int),a,(h:Int),())) (List.range m) (fun h a=>.inl (a++[(((i+kst H n i h) % n:Nat):Int)])) (fun a=>.inl (H,(n:Int),d2,d3,d4,(i:Int),a,())) (fun j a=>a.length≤j) (by rw[Ao0];omega)
  (fun j x a hj hx ha=>by
   refine⟨fun m' h' => ?_,fun r h'=>(by cases h')⟩
   cases h'
   obtain⟨rfl,hjm⟩:=Jo hx
   have hh:(x:Int)<H.getD i 0:=by omega
   obtain⟨k1,k2,_⟩:=Ni hp hi hh
   constructor
   ·unfold Dn
    dsimp only
    simp only[a3]
    rw[Af,Aoi hh]
    simp only[AkJ ho d2 d3 d4 a hi hh]
    rw[wrap_add (by omega),FG hp]
    simp only
    rw[BK (by simp only[AM,ApX];omega),AQ (by omega)]
    rfl
   ·simp;omega)
  (fun a _=>by
   rw[Ao0]
   unfold Dn
   dsimp only
   simp only[a3]
   rw[Af,Aog (by omega)]) [] (Aop _)
 have e':AU Dn many (H,(n:Int),d2,d3,d4,(i:Int),([]:List Int),(0:Int),())=_:=e
 rw[e',A2 (fun(h:Nat) (a:List Int)=>a++[(((i+kst H n i h) % n:Nat):Int)])]
 have hf:∀ (xs:List Nat) (a:List Int),xs.foldl (fun a h=>a++[(((i+kst H n i h) % n:Nat):Int)]) a=a++xs.map fun h=>(((i+kst H n i h) % n:Nat):Int):=by
  intro xs
  induction xs with
  |nil=>intro a;simp
  |cons x xs ih=>intro a;rw[ApY,ih];simp
 rw[hf]
 unfold nxL
 rw[hm]
 rfl
theorem Zj{toks H:List Int}{n:Nat}(hr:Rt toks)(hn:toks.length=n)(ho:HO H n):PM (toks,H,())=some (toks,H,NX H n,0,()):=by
 have ht:=ho.top
 have hp:=ho.pos
 have hl:=ho.len
 have hd:HS (toks,())=some (true,()):=by rw[I8];simp[hr]
 rw[AGi,PL,hd]
 simp only[Aov,AM,hn,hl,Au]
 rw[Aog (by omega)]
 simp only[Aow,Aov]
 have e0:=AQw (step:=En) (fun k=>(toks,H,(n:Int),(k:Int),())) n (.inr (.inl (toks,H,(n:Int),()))) (by omega)
  (fun k hk=>by
   obtain⟨a1,a2,a3⟩:=ho.at hk
   unfold En
   dsimp only
   rw[AP,Aoi hk]
   simp only[a3,Af]
   rw[Aog (by omega),Aog (by omega),AQ (by omega)])
  (by unfold En;dsimp only;rw[AP,Aog (by omega)])
 have e0':AU En many (toks,H,(n:Int),(0:Int),())=_:=e0
 simp only[e0',ApA,hn,hl]
 rw[BK (by omega)]
 simp only[]
 have d1:A1 ([]:List Int) toks=toks:=by simp[A1]
 have d2:A1 ([]:List Int) H=H:=by simp[A1]
 simp only[d1,d2]
 have e:=Bx (step:=Em) (fun i (a:List (List Int))=>(H,(n:Int),toks,H,a,(i:Int),())) (List.range n) (fun i a=>.inl (a++[nxL H n i])) (fun a=>.inl (toks,H,a,())) (fun j a=>a.length≤j) (by rw[Ao0];omega)
  (fun j x a hj hx ha=>by
   refine⟨fun m' h' => ?_,fun r h'=>(by cases h')⟩
   cases h'
   obtain⟨rfl,hjm⟩:=Jo hx
   constructor
   ·unfold Em
    dsimp only
    rw[AP,Aoi hjm]
    simp only[AkK ho toks H a hjm]
    rw[BK (by simp only[AM,ApX];omega),AQ (by omega)]
    rfl
   ·simp;omega)
  (fun a _=>by
   rw[Ao0]
   unfold Em
   dsimp only
   rw[AP,Aog (by omega)]) [] (Aop _)
 have e':AU Em many (H,(n:Int),toks,H,([]:List (List Int)),(0:Int),())=_:=e
 simp only[e']
 rw[A2 (fun(i:Nat) (a:List (List Int))=>a++[nxL H n i])]
 have hf:∀ (xs:List Nat) (a:List (List Int)),xs.foldl (fun a i=>a++[nxL H n i]) a=a++xs.map (nxL H n):=by
  intro xs
  induction xs with
  |nil=>intro a;simp
  |cons x xs ih=>intro a;rw[ApY,ih];simp
 rw[hf]
 rfl
end Go.Pev.Pl
end
section
namespace Go.Pev.Pl
def psn(n k:Nat):Nat:=n-1-k % n
theorem ARI{n k j:Nat}(hn:0<n)(hj:j≤k)(hjn:j≤n):psn n (k-j)=(psn n k+j) % n:=by
 unfold psn
 have hm:k % n<n:=AqX _ hn
 obtain⟨q,hq⟩:∃ q,k=n*q+k % n:=⟨k/n,(Nat.div_add_mod k n).symm⟩
 generalize k % n=r at *
 by_cases h:j≤r
 ·have e:(k-j) % n=r-j:=by
   rw[hq,show n*q+r-j=r-j+n*q by omega,Nat.add_mul_mod_self_left,Apt (by omega)]
  rw[e,Apt (by omega)]
  omega
 ·have hq1:1≤q:=by
   apply Apj
   intro hh
   have:q=0:=by omega
   subst this
   rw[Nat.mul_zero]at hq
   omega
  obtain⟨p,rfl⟩:∃ p,q=p+1:=⟨q-1,by omega⟩
  have e:(k-j) % n=n+r-j:=by
   rw[hq,Nat.mul_add,Aqu,show n*p+n+r-j=n+r-j+n*p by omega,Nat.add_mul_mod_self_left]
   by_cases h2:n+r-j=n
   ·omega
   ·exact Apt (by omega)
  rw[e]
  by_cases h3:j=n
  ·subst h3
   rw[Nat.add_mod_right,Apt (by omega)]
   omega
  ·rw[show n-1-r+j=n+(j-r-1) by omega,Nat.add_mod_left,Apt (by omega)]
   omega
theorem Ahz{n k:Nat}(hn:0<n):psn n k<n:=by unfold psn;omega
def AdF(B:List Int)(i:Nat)(m:Nat):List Int:=(List.range m).foldl (fun B h=>B.set h (i:Int)) B
theorem AJc(B:List Int)(i m:Nat)(hm:m≤B.length):(AdF B i m).length=B.length∧∀ h,(AdF B i m).getD h 0=if h<m then(i:Int)else B.getD h 0:=by
 have:=foldI (fun h (B:List Int)=>B.set h (i:Int)) (fun k C=>C.length=B.length∧∀ h,C.getD h 0=if h<k then(i:Int)else B.getD h 0) m B (fun k C hk hC=>by
  obtain⟨c1,c2⟩:=hC
  refine⟨by rw[Apf];exact c1,fun h => ?_⟩
  rw[Aoj,AqM]
  by_cases e:k=h
  ·subst e
   rw[Aoq rfl,Aoq (by omega),Aoq (by omega)]
   rfl
  ·rw[Aor e,← Aoj,c2]
   by_cases h2:h<k
   ·rw[Aoq h2,Aoq (by omega)]
   ·rw[Aor h2,Aor (by omega)]) ⟨rfl,fun h=>by simp⟩
 exact this
theorem Amr(H:List Int)(n:Int)(T T2:List Int)(M:List (List Int))(B:List Int)(hB:B.length=8)(i:Nat)(d7 d8:Int)(m:Nat)(hm:m≤8):
  AU Cw many (H,n,T,T2,M,B,(i:Int),d7,d8,(m:Int),(0:Int),())=some (.inl (H,n,T,T2,M,AdF B i m,d7,d8,())):=by
 have e:=Bx (step:=Cw) (fun h (B:List Int)=>(H,n,T,T2,M,B,(i:Int),d7,d8,(m:Int),(h:Int),())) (List.range m) (fun h B=>.inl (B.set h (i:Int))) (fun B=>.inl (H,n,T,T2,M,B,d7,d8,())) (fun j B=>B.length=8) (by rw[Ao0];omega)
  (fun j x B hj hx hB=>by
   refine⟨fun m' h' => ?_,fun r h'=>(by cases h')⟩
   cases h'
   obtain⟨rfl,hjm⟩:=Jo hx
   constructor
   ·unfold Cw
    dsimp only
    rw[AP,Aoi hjm,Ar,Aoi (by omega),Af,Aoi (by omega),AM,hB,Af,Aoi (by omega),N5,AQ (by omega)]
    rfl
   ·rw[Apf];exact hB)
  (fun B _=>by
   rw[Ao0]
   unfold Cw
   dsimp only
   rw[AP,Aog (by omega)]) B hB
 have e':AU Cw many (H,n,T,T2,M,B,(i:Int),d7,d8,(m:Int),(0:Int),())=_:=e
 rw[e',A2 (fun(h:Nat) (B:List Int)=>B.set h (i:Int))]
 rfl
abbrev TS:=List (List Int)×List Int
def hAt(H:List Int)(i:Nat):Nat:=(H.getD i 0).toNat
def twF(H:List Int)(n k:Nat)(a:TS):TS:=(if n≤k then a.1.set (psn n k) (a.2.take (hAt H (psn n k)))else a.1,AdF a.2 (psn n k) (hAt H (psn n k)))
structure TI2(H:List Int)(n k:Nat)(a:TS):Prop where
 lenM:a.1.length=n
 lenB:a.2.length=8
 near:∀ h j,1≤j→j≤k→h<hAt H (psn n (k-j))→(∀ j',1≤j'→j'<j→hAt H (psn n (k-j'))≤h)→a.2.getD h 0=((psn n (k-j):Nat):Int)
 rows:∀ k',n≤k'→k'<k→a.1.getD (psn n k') []=nxL H n (psn n k')
theorem HO.hAt{H:List Int}{n:Nat}(ho:HO H n){i:Nat}(hi:i<n):1≤hAt H i∧hAt H i≤8∧H.getD i 0=(hAt H i:Int):=by
 obtain⟨a1,a2,_⟩:=ho.at hi
 unfold Go.Pev.Pl.hAt
 omega
theorem TI2.step{H:List Int}{n k:Nat}(ho:HO H n)(hk:k<2*n){a:TS}(h:TI2 H n k a):TI2 H n (k+1) (twF H n k a):=by
 have hp:=ho.pos
 have hi:=Ahz (k:=k) hp
 obtain⟨q1,q2,q3⟩:=ho.hAt hi
 have hlB:=h.lenB
 obtain⟨s1,s2⟩:=AJc a.2 (psn n k) (hAt H (psn n k)) (by omega)
 refine⟨?_,?_,?_,?_⟩
 ·unfold twF
  simp only
  split
  ·rw[Apf];exact h.lenM
  ·exact h.lenM
 ·show(AdF a.2 _ _).length=8
  rw[s1];exact h.lenB
 ·intro x j j1 j2 hx hall
  show(AdF a.2 (psn n k) (hAt H (psn n k))).getD x 0=_
  rw[s2]
  by_cases hj:j=1
  ·subst hj
   rw[ArE]at hx ⊢
   rw[Aoq hx]
  ·have h1:=hall 1 (by omega) (by omega)
   rw[ArE]at h1
   rw[Aor (by omega)]
   have e:∀ z,1≤z→k+1-z=k-(z-1):=fun z hz=>by omega
   rw[e j j1]at hx ⊢
   refine h.near x (j-1) (by omega) (by omega) hx fun j' p1 p2 => ?_
   have:=hall (j'+1) (by omega) (by omega)
   rw[e (j'+1) (by omega),ArE]at this
   exact this
 ·intro k' h1 h2
  by_cases e:k'=k
  ·subst e
   unfold twF
   simp only
   rw[Aoq h1,Aoj,AqM,Aoq rfl,Aoq (by rw[h.lenM];exact hi)]
   simp only[ApF]
   apply AqY
   intro x
   unfold nxL
   rw[ApU,ApV]
   by_cases hx:x<hAt H (psn n k')
   ·rw[Aoq hx]
    have hxl:(List.range (H.getD (psn n k') 0).toNat)[x]? = some x:=by
     rw[Aqs]
     exact hx
    rw[hxl]
    have hxB:a.2[x]? = some (a.2.getD x 0):=by
     rw[Aoj,Aon (by omega)]
     rfl
    rw[hxB]
    obtain⟨k1,k2,k3,k4⟩:=Ni (H:=H) (h:=x) hp hi (by omega)
    simp only[AqQ]
    generalize kst H n (psn n k') x=d at *
    have hb:=ARI (k:=k') (j:=d) hp (by omega) k2
    have:=h.near x d k1 (by omega) (by
     rw[hb]
     have:=(ho.hAt (AqX (psn n k'+d) hp)).2.2
     omega) fun j' p1 p2=>by
     rw[ARI (k:=k') (j:=j') hp (by omega) (by omega)]
     have:=k4 j' p1 p2
     have:=(ho.hAt (AqX (psn n k'+j') hp)).2.2
     omega
    rw[this,hb]
   ·rw[Aor hx]
    have hxl:(List.range (H.getD (psn n k') 0).toNat)[x]? = none:=by
     rw[ApD]
     rw[Ao0]
     unfold Go.Pev.Pl.hAt at hx
     omega
    rw[hxl]
    rfl
  ·have hne:psn n k≠psn n k':=by
    unfold psn
    have e1:k % n=k-n:=by rw[Ard (by omega),Apt (by omega)]
    have e2:k' % n=k'-n:=by rw[Ard (by omega),Apt (by omega)]
    omega
   unfold twF
   simp only
   rw[Aoq (by omega),Aoj,ApM hne,← Aoj]
   exact h.rows k' h1 (by omega)
theorem Akj{H:List Int}{n:Nat}(ho:HO H n):((List.range (2*n)).foldl (fun a k=>twF H n k a) (List.replicate n [],List.replicate 8 0)).1=NX H n:=by
 have hp:=ho.pos
 have hT:=foldI (twF H n) (TI2 H n) (2*n) (List.replicate n [],List.replicate 8 0) (fun k a hk h=>h.step ho hk) ⟨by simp,by simp,fun h j j1 j2=>by omega,fun k' h1 h2=>by omega⟩
 generalize (List.range (2*n)).foldl (fun a k=>twF H n k a) (List.replicate n [],List.replicate 8 0)=a at *
 have hlen:=hT.lenM
 refine CX ([]:List Int) ?_ fun i hi => ?_
 ·unfold NX
  rw[Apl,Ao0]
  exact hlen
 ·have hi':i<n:=by omega
  have:=hT.rows (2*n-1-i) (by omega) (by omega)
  have e:psn n (2*n-1-i)=i:=by
   unfold psn
   rw[Ard (by omega),Apt (by omega)]
   omega
  rw[e]at this
  rw[this]
  unfold NX
  rw[Aoj,ApV,Aqs hi']
  rfl
theorem AjR(x:Int):ABS (x,())=some (decide (1≤x∧x≤8),()):=by
 rw[AI8,Rw,Ar,Ar]
 by_cases h1:1≤x
 ·by_cases h2:x≤8<;>simp[h1,h2]
 ·simp[h1]
theorem AAW{H:List Int}{n:Nat}(ho:HO H n):FZ (H,())=some (false,()):=by
 have hl:=ho.len
 have ht:=ho.top
 have e:=AQw (step:=CJ) (fun k=>(H,(n:Int),(k:Int),())) n (.inr (.inl ())) (by omega)
  (fun k hk=>by
   obtain⟨a1,a2,a3⟩:=ho.at hk
   unfold CJ
   dsimp only
   rw[AP,Aoi hk]
   simp only[a3,AjR]
   rw[Aoi (show 1≤H.getD k 0∧H.getD k 0≤8 from⟨a1,a2⟩),AQ (by omega)]
   rfl)
  (by unfold CJ;dsimp only;rw[AP,Aog (by omega)])
 rw[Mq,FY,Nq,Gi,AM,hl]
 have e':AU CJ many (H,(n:Int),(0:Int),())=_:=e
 simp only[e',Ar]
 rfl
theorem Yk{toks H:List Int}{n:Nat}(hr:Rt toks)(hn:toks.length=n)(ho:HO H n):Oh (toks,H,())=some (toks,H,NX H n,0,()):=by
 have ht:=ho.top
 have hp:=ho.pos
 have hl:=ho.len
 have hd:LM (toks,())=some (true,()):=by rw[LL];simp[hr]
 rw[ABY,Of]
 simp only[AM,hn,hl,Au]
 rw[Aog (by omega)]
 simp only[Aow,Aov,hd,AAW ho,RW (show toks.length≤4294967296 by omega),RW (show H.length≤4294967296 by omega)]
 have hfi:DM (n:Int)=true:=(D5 _).2 (by omega)
 rw[hfi,Cg,Aoi (Aop n),Ia,AFx,AFx,AI5 (by omega)]
 simp only[Apo]
 have e:=Bx (step:=ER) (fun k (a:TS)=>(H,(n:Int),toks,H,a.1,a.2,((2*n:Nat):Int),(k:Int),())) (List.range (2*n)) (fun k a=>.inl (twF H n k a)) (fun a=>.inl (toks,H,a.1,())) (fun k a=>a.1.length=n∧a.2.length=8) (by rw[Ao0];omega)
  (fun k x a hk hx ha=>by
   refine⟨fun m' h' => ?_,fun r h'=>(by cases h')⟩
   cases h'
   obtain⟨rfl,hkm⟩:=Jo hx
   obtain⟨la,lb⟩:=ha
   have hi:=Ahz (k:=x) hp
   obtain⟨q1,q2,q3⟩:=ho.hAt hi
   have hi3:=(ho.at hi).2.2
   constructor
   ·unfold ER
    dsimp only
    rw[AP,Aoi hkm,FG hp]
    have hm:x % n<n:=AqX _ hp
    have hw:IntKind.wrap .i64 ((IntKind.wrap .i64 ((n:Int)-(1:Int)))-((x % n:Nat):Int))=((psn n x:Nat):Int):=by
     rw[BC (by omega),DX (by omega)]
     rfl
    simp only[hw,hi3,q3]
    rw[Cg]
    by_cases hnk:n≤x
    ·rw[Aoi hnk]
     have hsub:=QL (xs:=a.2) (h:=hAt H (psn n x)) (by omega)
     have hlen2:(a.2.take (hAt H (psn n x))).length=hAt H (psn n x):=by rw[Ao8];omega
     have hix:∃ z,idx a.1 ((psn n x:Nat):Int)=some z:=AjQ (by omega)
     obtain⟨z,hz⟩:=hix
     simp only[hsub,AM,hlen2,Ia,DS,Aqk,RW (show(a.2.take (hAt H (psn n x))).length≤4294967296 by omega),hz,N5]
     rw[Amr H (n:Int) toks H _ a.2 lb (psn n x) _ _ _ q2]
     simp only
     rw[AQ (by omega)]
     unfold twF
     rw[Aoq hnk]
     rfl
    ·rw[Aog hnk]
     simp only
     rw[Amr H (n:Int) toks H _ a.2 lb (psn n x) _ _ _ q2]
     simp only
     rw[AQ (by omega)]
     unfold twF
     rw[Aor hnk]
   ·obtain⟨s1,_⟩:=AJc a.2 (psn n x) (hAt H (psn n x)) (by omega)
    refine⟨?_,s1.trans lb⟩
    unfold twF
    simp only
    split
    ·rw[Apf];exact la
    ·exact la)
  (fun a _=>by
   rw[Ao0]
   unfold ER
   dsimp only
   rw[AP,Aog (by omega)]) (List.replicate n [],List.replicate 8 0) ⟨by simp,by simp⟩
 have e':AU ER many (H,(n:Int),toks,H,List.replicate n ([]:List Int),List.replicate 8 (0:Int),((2*n:Nat):Int),(0:Int),())=_:=e
 simp only[e']
 rw[A2 (fun(k:Nat) (a:TS)=>twF H n k a),Akj ho]
end Go.Pev.Pl
end
section
namespace Go.Pev.Pl
theorem Qa(xs:List Int)(hs:xs.length≤4294967296):RI (xs,xs,())=some (true,()):=by
 rw[AKd,TF]
 simp only[Bf,Aov]
 have e:=AQw (step:=GK) (fun k=>(xs,xs,(xs.length:Int),(k:Int),())) xs.length (.inr (.inl ())) (by omega)
  (fun k hk=>by
   unfold GK
   dsimp only
   rw[AP,Aoi hk]
   simp only[By 0 hk,Bf,Aov]
   rw[AQ (by omega)])
  (by unfold GK;dsimp only;rw[AP,Aog (by omega)])
 have e':AU GK many (xs,xs,AK xs,(0:Int),())=_:=e
 simp only[e']
theorem AdR(xs:List (List Int))(hs:xs.length≤4294967296)(hi:∀ x∈xs,x.length≤4294967296):TJ (xs,xs,())=some (true,()):=by
 rw[AFr,PE]
 simp only[Bf,Aov]
 have e:=AQw (step:=Ed) (fun k=>(xs,xs,(xs.length:Int),(k:Int),())) xs.length (.inr (.inl ())) (by omega)
  (fun k hk=>by
   have hx:xs[k]? = some xs[k]:=Aon hk
   unfold Ed
   dsimp only
   rw[AP,Aoi hk]
   simp only[Ag hx,Qa _ (hi _ (Apy hk)),Aov]
   rw[AQ (by omega)])
  (by unfold Ed;dsimp only;rw[AP,Aog (by omega)])
 have e':AU Ed many (xs,xs,AK xs,(0:Int),())=_:=e
 simp only[e']
theorem AG1(H:List Int)(n:Nat):(NX H n).length=n:=by unfold NX;simp
theorem AG2(H:List Int){n i:Nat}(hi:i<n):(NX H n)[i]? = some (nxL H n i):=by
 unfold NX
 rw[ApV,Aqs hi]
 rfl
theorem Akc{H:List Int}{n:Nat}(ho:HO H n){x:List Int}(hx:x∈NX H n):x.length≤8:=by
 unfold NX at hx
 obtain⟨i,hi,rfl⟩:=Ao1.1 hx
 rw[Apa]at hi
 have:=ho.hAt hi
 unfold nxL
 rw[Apl,Ao0]
 unfold hAt at this
 omega
theorem Yv{toks H:List Int}{n:Nat}(hn:toks.length=n)(ho:HO H n):Qb ((toks,(H,(NX H n,()))),(toks,(H,(NX H n,()))),())=some (true,()):=by
 have ht:=ho.top
 have hl:=ho.len
 have h1:=Ln toks toks (by omega)
 have h2:=Ln H H (by omega)
 have h3:=JD (NX H n) (NX H n) (by rw[AG1];omega) (fun x hx=>by have:=Akc ho hx;omega)
 rw[Aoi rfl]at h1 h2 h3
 rw[Vu,NJ]
 simp only[h1,h2,h3]
theorem APm{toks H:List Int}{n:Nat}(hn:toks.length=n)(ho:HO H n):ABN ((toks,(H,(NX H n,()))),(toks,(H,(NX H n,()))),())=some (true,()):=by
 have ht:=ho.top
 have hl:=ho.len
 rw[AI6,Rs]
 simp only[Qa toks (by omega),Qa H (by omega),AdR (NX H n) (by rw[AG1];omega) (fun x hx=>by have:=Akc ho hx;omega)]
theorem AU6{toks H:List Int}{n:Nat}(hr:Rt toks)(hn:toks.length=n)(ho:HO H n):Ru ((toks,(H,(NX H n,()))),())=some (true,()):=by
 rw[ABO,Oe]
 simp only[Yk hr hn ho,Bf,APm hn ho]
theorem AWb{toks H:List Int}{n:Nat}(hr:Rt toks)(hn:toks.length=n)(ho:HO H n):SO ((toks,(H,(NX H n,()))),())=some (true,()):=by
 rw[ADA,Ow]
 simp only[Zj hr hn ho,Bf,Yv hn ho]
structure WO(w:List Int)(n:Nat):Prop where
 len:w.length=n
 rng:∀ x∈w,0≤x∧x≤1
theorem WO.at{w:List Int}{n:Nat}(h:WO w n)(i:Nat):0≤w.getD i 0∧w.getD i 0≤1:=by
 rw[Aoj]
 cases hx:w[i]? with
 |none=>simp
 |some x=>exact h.rng x (Aox hx)
def pre(w:List Int):Nat→Int
 |0=>0
 |j+1=>pre w j+w.getD j 0
def LC(w:List Int)(n i:Nat):Nat→Int
 |0=>0
 |d+1=>LC w n i d+w.getD ((i+d) % n) 0
theorem SU{w:List Int}{n:Nat}(h:WO w n):∀ j,0≤pre w j∧pre w j≤(j:Int)
 |0=>by simp[pre]
 |j+1=>by
  have:=SU h j
  have:=h.at j
  rw[pre]
  omega
theorem AQR{w:List Int}{n:Nat}(h:WO w n)(i:Nat):∀ d,0≤LC w n i d∧LC w n i d≤(d:Int)
 |0=>by simp[LC]
 |d+1=>by
  have:=AQR h i d
  have:=h.at ((i+d) % n)
  rw[LC]
  omega
theorem AhA(w:List Int){n i:Nat}(hi:i<n):∀ d,d≤n→LC w n i d=if i+d≤n then pre w (i+d)-pre w i else pre w n-pre w i+pre w (i+d-n):=by
 intro d
 induction d with
 |zero=>intro _;rw[Aoq (by omega)];simp[LC]
 |succ d ih=>
  intro hd
  rw[LC,ih (by omega),II (by omega)]
  by_cases h1:i+d<n
  ·rw[Aoq (by omega),Aoq h1,Aoq (by omega),← ArU,pre]
   omega
  ·by_cases h2:i+d=n
   ·rw[Aoq (by omega),Aor h1,Aor (by omega),show i+(d+1)-n=0+1 by omega,show i+d-n=0 by omega,h2]
    simp only[pre]
    omega
   ·rw[Aor (by omega),Aor h1,Aor (by omega),show i+(d+1)-n=i+d-n+1 by omega,pre]
    omega
def AUz(w:List Int)(n i:Nat)(to:Nat):Int:=if to≤i then pre w to-pre w i+pre w n else pre w to-pre w i
theorem AgN(w:List Int){n i d:Nat}(hi:i<n)(h1:1≤d)(hd:d≤n):AUz w n i ((i+d) % n)=LC w n i d:=by
 rw[AhA w hi d hd,II (by omega)]
 unfold AUz
 by_cases q1:i+d<n
 ·rw[Aoq q1,Aor (by omega),Aoq (by omega)]
 ·rw[Aor q1]
  by_cases q2:i+d=n
  ·rw[Aoq (by omega),Aoq (by omega),show i+d-n=0 by omega,q2,pre]
   omega
  ·rw[Aoq (by omega),Aor (by omega)]
   omega
def smL(w H:List Int)(n i:Nat):List Int:=(List.range (hAt H i)).map fun h=>LC w n i (kst H n i h)
def SM(w H:List Int)(n:Nat):List (List Int):=(List.range n).map (smL w H n)
theorem AnC{w toks H:List Int}{n:Nat}(hw:WO w n)(ho:HO H n)(d5:List (List Int))(d7:List Int){i h:Nat}(hi:i<n)(hh:h<hAt H i):
  AU Ei many (w,toks,H,NX H n,(n:Int),d5,(i:Int),d7,(h:Int),w.getD i 0,(((i+1) % n:Nat):Int),())=some (.inl (w,toks,H,NX H n,(n:Int),d5,(i:Int),d7,(h:Int),LC w n i (kst H n i h),())):=by
 have hp:=ho.pos
 have ht:=ho.top
 have hl:=hw.len
 obtain⟨q1,q2,q3⟩:=ho.hAt hi
 obtain⟨k1,k2,k3,k4⟩:=Ni (H:=H) (h:=h) hp hi (by omega)
 have hrow:idx (nxL H n i) (h:Int)=some (((i+kst H n i h) % n:Nat):Int):=by
  rw[AA0]
  unfold nxL
  rw[ApV,Aqs (by unfold hAt at hh;exact hh)]
  rfl
 generalize kst H n i h=d at *
 have key:=AQw (step:=Ei) (fun k=>(w,toks,H,NX H n,(n:Int),d5,(i:Int),d7,(h:Int),LC w n i (k+1),(((i+(k+1)) % n:Nat):Int),())) (d-1) (.inl (w,toks,H,NX H n,(n:Int),d5,(i:Int),d7,(h:Int),LC w n i d,())) (by omega)
  (fun k hk=>by
   have hm1:(i+(k+1)) % n<n:=AqX _ hp
   have hne:(i+(k+1)) % n≠(i+d) % n:=by
    rw[II (by omega),II (by omega)]
    split<;>split<;>omega
   have hs:=AQR hw i (k+1)
   have hwk:=hw.at ((i+(k+1)) % n)
   unfold Ei
   dsimp only
   simp only[Ag (AG2 H hi),hrow,AN4]
   rw[Aog hne]
   simp only[ApR,By (xs:=w) 0 (show(i+(k+1)) % n<w.length by omega)]
   rw[AQ (by omega),FG hp]
   simp only
   rw[Ai (by omega),Nat.mod_add_mod]
   rfl)
  (by
   rw[show d-1+1=d by omega]
   unfold Ei
   dsimp only
   simp only[Ag (AG2 H hi),hrow,Bf]
   rfl)
 have e0:LC w n i (0+1)=w.getD i 0:=by
  simp only[LC,Ap5,Apt hi]
  omega
 rw[e0,Aph]at key
 exact key
theorem AnD{w toks H:List Int}{n:Nat}(hw:WO w n)(ho:HO H n)(d5:List (List Int)){i:Nat}(hi:i<n):
  AU Dm many (w,toks,H,NX H n,(n:Int),d5,(i:Int),([]:List Int),(0:Int),())=some (.inl (w,toks,H,NX H n,(n:Int),d5,(i:Int),smL w H n i,())):=by
 have hp:=ho.pos
 have ht:=ho.top
 have hl:=hw.len
 obtain⟨q1,q2,q3⟩:=ho.hAt hi
 have hlen:(nxL H n i).length=hAt H i:=by unfold nxL hAt;simp
 have e:=Bx (step:=Dm) (fun h (a:List Int)=>(w,toks,H,NX H n,(n:Int),d5,(i:Int),a,(h:Int),())) (List.range (hAt H i)) (fun h a=>.inl (a++[LC w n i (kst H n i h)])) (fun a=>.inl (w,toks,H,NX H n,(n:Int),d5,(i:Int),a,())) (fun j a=>a.length≤j) (by rw[Ao0];omega)
  (fun j x a hj hx ha=>by
   refine⟨fun m' h' => ?_,fun r h'=>(by cases h')⟩
   cases h'
   obtain⟨rfl,hjm⟩:=Jo hx
   constructor
   ·unfold Dm
    dsimp only
    simp only[Ag (AG2 H hi),AM,hlen]
    rw[AP,Aoi hjm]
    simp only[By (xs:=w) 0 (show i<w.length by omega)]
    rw[AQ (by omega),FG hp]
    simp only[AnC hw ho d5 a hi hjm]
    rw[BK (by simp only[ApX];omega),AQ (by omega)]
    rfl
   ·simp;omega)
  (fun a _=>by
   rw[Ao0]
   unfold Dm
   dsimp only
   simp only[Ag (AG2 H hi),AM,hlen]
   rw[AP,Aog (by omega)]) [] (Aop _)
 have e':AU Dm many (w,toks,H,NX H n,(n:Int),d5,(i:Int),([]:List Int),(0:Int),())=_:=e
 rw[e',A2 (fun(h:Nat) (a:List Int)=>a++[LC w n i (kst H n i h)])]
 have hf:∀ (xs:List Nat) (a:List Int),xs.foldl (fun a h=>a++[LC w n i (kst H n i h)]) a=a++xs.map fun h=>LC w n i (kst H n i h):=by
  intro xs
  induction xs with
  |nil=>intro a;simp
  |cons x xs ih=>intro a;rw[ApY,ih];simp
 rw[hf]
 rfl
theorem AUV{w toks H:List Int}{n:Nat}(hr:Rt toks)(hn:toks.length=n)(hw:WO w n)(ho:HO H n):Te ((toks,(H,(NX H n,()))),w,())=some (SM w H n,0,()):=by
 have hp:=ho.pos
 have ht:=ho.top
 have hl:=hw.len
 rw[AGZ,PK]
 simp only[AWb hr hn ho,Aov,AM,hn,hl,Bf]
 have e0:=AQw (step:=Ek) (fun k=>(w,toks,H,NX H n,(n:Int),(k:Int),())) n (.inr (.inl (w,toks,H,NX H n,(n:Int),()))) (by omega)
  (fun k hk=>by
   have hb:=hw.at k
   have hm:ASv (w.getD k 0,())=some (true,()):=by
    rw[ASu,AAx,Ar,Ar,Aoi (by omega),Aoi (by omega)]
   unfold Ek
   dsimp only
   rw[AP,Aoi hk]
   simp only[By (xs:=w) 0 (show k<w.length by omega),hm,Aov]
   rw[AQ (by omega)])
  (by unfold Ek;dsimp only;rw[AP,Aog (by omega)])
 have e0':AU Ek many (w,toks,H,NX H n,(n:Int),(0:Int),())=_:=e0
 simp only[e0']
 have e:=Bx (step:=Ej) (fun i (a:List (List Int))=>(w,toks,H,NX H n,(n:Int),a,(i:Int),())) (List.range n) (fun i a=>.inl (a++[smL w H n i])) (fun a=>.inl (a,())) (fun j a=>a.length≤j) (by rw[Ao0];omega)
  (fun j x a hj hx ha=>by
   refine⟨fun m' h' => ?_,fun r h'=>(by cases h')⟩
   cases h'
   obtain⟨rfl,hjm⟩:=Jo hx
   constructor
   ·unfold Ej
    dsimp only
    rw[AP,Aoi hjm]
    simp only[AnD hw ho a hjm]
    rw[BK (by simp only[AM,ApX];omega),AQ (by omega)]
    rfl
   ·simp;omega)
  (fun a _=>by
   rw[Ao0]
   unfold Ej
   dsimp only
   rw[AP,Aog (by omega)]) [] (Aop _)
 have e':AU Ej many (w,toks,H,NX H n,(n:Int),([]:List (List Int)),(0:Int),())=_:=e
 simp only[e']
 rw[A2 (fun(i:Nat) (a:List (List Int))=>a++[smL w H n i])]
 have hf:∀ (xs:List Nat) (a:List (List Int)),xs.foldl (fun a i=>a++[smL w H n i]) a=a++xs.map (smL w H n):=by
  intro xs
  induction xs with
  |nil=>intro a;simp
  |cons x xs ih=>intro a;rw[ApY,ih];simp
 rw[hf]
 rfl
def SV(w:List Int)(n:Nat):List Int:=(List.range (n+1)).map (pre w)
theorem IB(w:List Int){n j:Nat}(h:j≤n):(SV w n)[j]? = some (pre w j):=by
 unfold SV
 rw[ApV,Aqs (by omega)]
 rfl
theorem Ah0(w:List Int)(n:Nat):(SV w n).length=n+1:=by unfold SV;simp
theorem AoG{w:List Int}{n:Nat}(hw:WO w n)(hn:n≤1000)(T H:List Int)(M:List (List Int))(z:Int):
  AU Ev many (T,H,M,z,List.replicate (n+1) (0:Int),w,(n:Int),(0:Int),())=some (.inl (T,H,M,z,SV w n,())):=by
 have hl:=hw.len
 have e:=Bx (step:=Ev) (fun i (A:List Int)=>(T,H,M,z,A,w,(n:Int),(i:Int),())) (List.range n) (fun k A=>.inl (A.set (k+1) (A.getD k 0+w.getD k 0))) (fun A=>.inl (T,H,M,z,A,())) (fun k A=>A.length=n+1∧∀ j,A.getD j 0=if j≤k then pre w j else 0) (by rw[Ao0];omega)
  (fun k x A hk hx hA=>by
   refine⟨fun m' h' => ?_,fun r h'=>(by cases h')⟩
   cases h'
   obtain⟨rfl,hkm⟩:=Jo hx
   obtain⟨a1,a2⟩:=hA
   have p1:=SU hw x
   have p2:=hw.at x
   have a3:=a2 x
   rw[Aoq (Aop x)]at a3
   constructor
   ·unfold Ev
    dsimp only
    rw[AP,Aoi hkm,AQ (by omega)]
    simp only[By (xs:=w) 0 (show x<w.length by omega),By (xs:=A) 0 (show x<A.length by omega),By (xs:=A) 0 (show x+1<A.length by omega),Ib,N5]
    rw[a3,Ai (by omega)]
   ·refine⟨by rw[Apf];exact a1,fun j => ?_⟩
    rw[Aoj,AqM]
    by_cases hj:x+1=j
    ·subst hj
     rw[Aoq rfl,Aoq (by omega),Aoq (Aop _),a3]
     rfl
    ·rw[Aor hj,← Aoj,a2]
     by_cases h2:j≤x
     ·rw[Aoq h2,Aoq (by omega)]
     ·rw[Aor h2,Aor (by omega)])
  (fun A _=>by
   rw[Ao0]
   unfold Ev
   dsimp only
   rw[AP,Aog (by omega)]) (List.replicate (n+1) 0) ⟨by simp,fun j=>by
    by_cases h:j≤0
    ·rw[Aoq h,show j=0 by omega,pre]
     simp
    ·rw[Aor h,Aoj,AqE]
     split<;>rfl⟩
 have hT:=foldI (fun k (A:List Int)=>A.set (k+1) (A.getD k 0+w.getD k 0)) (fun k A=>A.length=n+1∧∀ j,A.getD j 0=if j≤k then pre w j else 0) n (List.replicate (n+1) 0) (fun x A hkm hA=>by
  obtain⟨a1,a2⟩:=hA
  have a3:=a2 x
  rw[Aoq (Aop x)]at a3
  refine⟨by rw[Apf];exact a1,fun j => ?_⟩
  rw[Aoj,AqM]
  by_cases hj:x+1=j
  ·subst hj
   rw[Aoq rfl,Aoq (by omega),Aoq (Aop _),a3]
   rfl
  ·rw[Aor hj,← Aoj,a2]
   by_cases h2:j≤x
   ·rw[Aoq h2,Aoq (by omega)]
   ·rw[Aor h2,Aor (by omega)]) ⟨by simp,fun j=>by
    by_cases h:j≤0
    ·rw[Aoq h,show j=0 by omega,pre]
     simp
    ·rw[Aor h,Aoj,AqE]
     split<;>rfl⟩
 have e':AU Ev many (T,H,M,z,List.replicate (n+1) (0:Int),w,(n:Int),(0:Int),())=_:=e
 rw[e',A2 (fun(k:Nat) (A:List Int)=>A.set (k+1) (A.getD k 0+w.getD k 0))]
 have:(List.range n).foldl (fun A k=>A.set (k+1) (A.getD k 0+w.getD k 0)) (List.replicate (n+1) 0)=SV w n:=by
  refine CX 0 ?_ fun j hj => ?_
  ·rw[hT.1,Ah0]
  ·rw[hT.1]at hj
   rw[hT.2 j,Aoq (by omega),Aoj,IB w (by omega)]
   rfl
 rw[this]
def AQ3(w:List Int)(n i:Nat)(M:List (List Int))(to:Nat):List (List Int):=M.set i (M.getD i []++[AUz w n i to])
theorem AdX(w:List Int)(n i:Nat):∀ (l:List Nat) (M:List (List Int)),i<M.length→l.foldl (AQ3 w n i) M=M.set i (M.getD i []++l.map (AUz w n i)):=by
 intro l
 induction l with
 |nil=>
  intro M hi
  rw[List.foldl_nil,AqU,Apw]
  refine CX ([]:List Int) (by simp) fun j hj => ?_
  rw[Aoj (l:=M.set _ _),AqM]
  by_cases h:i=j
  ·subst h;rw[Aoq rfl,Aoq hi];rfl
  ·rw[Aor h,← Aoj]
 |cons x l ih=>
  intro M hi
  rw[ApY,ih _ (by unfold AQ3;rw[Apf];exact hi)]
  unfold AQ3
  rw[List.set_set,Aoj (l:=M.set _ _),AqM,Aoq rfl,Aoq hi]
  simp
def nxN(H:List Int)(n i:Nat):List Nat:=(List.range (hAt H i)).map fun h=>(i+kst H n i h) % n
theorem AAw(H:List Int)(n i:Nat):nxL H n i=(nxN H n i).map fun(k:Nat)=>(k:Int):=by
 unfold nxL nxN hAt
 rw[List.map_map]
 rfl
theorem Anf{H:List Int}{n i:Nat}(hn:0<n):∀ x∈nxN H n i,x<n:=by
 intro x hx
 obtain⟨h,_,rfl⟩:=Ao1.1 hx
 exact AqX _ hn
theorem AoE{w H:List Int}{n:Nat}(hw:WO w n)(ho:HO H n)(M:List (List Int))(hM:M.length=n)(hE:∀ x∈M,x.length≤8)(hz:∀ i,M.getD i []=[]∨True)(d4:List (List Int))(d5:Int){i:Nat}(hi:i<n)(h0:M.getD i []=[]):
  AU Et many ((n:Int),SV w n,M,(i:Int),d4,d5,(i:Int),nxL H n i,AK (nxL H n i),(0:Int),())=some (.inl ((n:Int),SV w n,M.set i ((nxN H n i).map (AUz w n i)),d4,d5,(i:Int),())):=by
 have hp:=ho.pos
 have ht:=ho.top
 obtain⟨q1,q2,q3⟩:=ho.hAt hi
 have hlen:(nxN H n i).length=hAt H i:=by unfold nxN;simp
 have e:=Bx (step:=Et) (fun h (M:List (List Int))=>((n:Int),SV w n,M,(i:Int),d4,d5,(i:Int),nxL H n i,AK (nxL H n i),(h:Int),())) (nxN H n i) (fun to M=>.inl (AQ3 w n i M to)) (fun M=>.inl ((n:Int),SV w n,M,d4,d5,(i:Int),())) (fun j M=>M.length=n∧(M.getD i []).length≤j) (by omega)
  (fun j to M hj hx hM=>by
   refine⟨fun m' h' => ?_,fun r h'=>(by cases h')⟩
   cases h'
   obtain⟨m1,m2⟩:=hM
   have hto:=Anf hp to (Aox hx)
   have hxi:(nxL H n i)[j]? = some (to:Int):=by rw[AAw,ApV,hx];rfl
   have p1:=SU hw to
   have p2:=SU hw i
   have p3:=SU hw n
   constructor
   ·unfold Et
    dsimp only
    rw[AM,AAw,Apl,AP,Aoi hj,← AAw]
    simp only[Ag hxi,Ag (IB w (show to≤n by omega)),Ag (IB w (show i≤n by omega)),Ag (IB w (Aop n)),By (xs:=M) ([]:List Int) (show i<M.length by omega)]
    simp only[PF (IB w (show to≤n by omega)),PF (IB w (show i≤n by omega)),PF (IB w (Aop n)),Ib,N5,Bf,Apo]
    rw[Cg,Ai (n:=pre w to-pre w i) (by omega),Ai (n:=pre w to-pre w i+pre w n) (by omega),AQ (by omega)]
    have hfit:∀ z:Int,fits (AK (M.getD i [])+AK [z])=true:=fun z=>BK (by simp only[AM,ApX];omega)
    have hix:∀ z:List Int,∃ y,idx (M.set i z) (i:Int)=some y:=fun z=>AjQ (by rw[Apf];omega)
    unfold AQ3 AUz
    by_cases hc:to≤i
    ·obtain⟨y,hy⟩:=hix (A1 (M.getD i []) [pre w to-pre w i+pre w n])
     rw[Aoi hc,Aoq hc]
     simp only[hfit,hy]
     rfl
    ·obtain⟨y,hy⟩:=hix (A1 (M.getD i []) [pre w to-pre w i])
     rw[Aog hc,Aor hc]
     simp only[hfit,hy]
     rfl
   ·unfold AQ3
    refine⟨by rw[Apf];exact m1,?_⟩
    rw[Aoj (l:=M.set _ _),AqM,Aoq rfl,Aoq (by omega)]
    simp only[ApF,Aos,ApX]
    omega)
  (fun M _=>by
   unfold Et
   dsimp only
   rw[AM,AAw,Apl,AP,Aog (by omega)]) M ⟨hM,by rw[h0];simp⟩
 have e':AU Et many ((n:Int),SV w n,M,(i:Int),d4,d5,(i:Int),nxL H n i,AK (nxL H n i),(0:Int),())=_:=e
 rw[e',A2 (fun(to:Nat) (M:List (List Int))=>AQ3 w n i M to)]
 have:=AdX w n i (nxN H n i) M (by omega)
 rw[h0,ApI]at this
 have h2:(nxN H n i).foldl (fun M to=>AQ3 w n i M to) M=_:=this
 rw[h2]
theorem Ahl(w:List Int){H:List Int}{n i:Nat}(ho:HO H n)(hi:i<n):(nxN H n i).map (AUz w n i)=smL w H n i:=by
 unfold nxN smL
 rw[List.map_map]
 refine List.map_congr_left fun h hh => ?_
 rw[Apa]at hh
 obtain⟨_,_,q3⟩:=ho.hAt hi
 obtain⟨k1,k2,_⟩:=Ni (H:=H) (h:=h) ho.pos hi (by omega)
 exact AgN w hi k1 k2
theorem AoF{w H:List Int}{n:Nat}(hw:WO w n)(ho:HO H n):
  AU Eu many ((n:Int),SV w n,List.replicate n ([]:List Int),NX H n,AK (NX H n),(0:Int),())=some (.inl (SM w H n,())):=by
 have hp:=ho.pos
 have ht:=ho.top
 have inv0:(List.replicate n ([]:List Int)).length=n∧(∀ x∈List.replicate n ([]:List Int),x.length≤8)∧(∀ k',k'<0→(List.replicate n ([]:List Int)).getD k' []=smL w H n k')∧∀ k',0≤k'→(List.replicate n ([]:List Int)).getD k' []=[]:=by
  refine⟨by simp,fun x hx => ?_,fun k' h=>by omega,fun k' _ => ?_⟩
  ·rw[List.mem_replicate]at hx
   rw[hx.2];simp
  ·rw[Aoj,AqE]
   split<;>rfl
 have hlenS:∀ i,i<n→(smL w H n i).length≤8:=fun i hi=>by
  have:=ho.hAt hi
  unfold smL
  rw[Apl,Ao0]
  omega
 have stepI:∀ (k:Nat) (M:List (List Int)),k<n→(M.length=n∧(∀ x∈M,x.length≤8)∧(∀ k',k'<k→M.getD k' []=smL w H n k')∧∀ k',k≤k'→M.getD k' []=[]) →
   ((M.set k (smL w H n k)).length=n∧(∀ x∈M.set k (smL w H n k),x.length≤8)∧(∀ k',k'<k+1→(M.set k (smL w H n k)).getD k' []=smL w H n k')∧∀ k',k+1≤k'→(M.set k (smL w H n k)).getD k' []=[]):=by
  intro k M hk ⟨m1,m2,m3,m4⟩
  refine⟨by rw[Apf];exact m1,fun x hx => ?_,fun k' h => ?_,fun k' h => ?_⟩
  ·rcases ArX hx with h|rfl
   ·exact m2 x h
   ·exact hlenS k hk
  ·rw[Aoj,AqM]
   by_cases e:k=k'
   ·subst e;rw[Aoq rfl,Aoq (by omega)];rfl
   ·rw[Aor e,← Aoj];exact m3 k' (by omega)
  ·rw[Aoj,AqM,Aor (by omega),← Aoj]
   exact m4 k' (by omega)
 have e:=Bx (step:=Eu) (fun i (M:List (List Int))=>((n:Int),SV w n,M,NX H n,AK (NX H n),(i:Int),())) (List.range n) (fun k M=>.inl (M.set k (smL w H n k))) (fun M=>.inl (M,())) (fun k M=>M.length=n∧(∀ x∈M,x.length≤8)∧(∀ k',k'<k→M.getD k' []=smL w H n k')∧∀ k',k≤k'→M.getD k' []=[]) (by rw[Ao0];omega)
  (fun k x M hk hx hM=>by
   refine⟨fun m' h' => ?_,fun r h'=>(by cases h')⟩
   cases h'
   obtain⟨rfl,hkm⟩:=Jo hx
   refine⟨?_,stepI x M hkm hM⟩
   obtain⟨m1,m2,m3,m4⟩:=hM
   unfold Eu
   dsimp only
   rw[AM,AG1,AP,Aoi hkm]
   simp only[Ag (AG2 H hkm)]
   rw[AoE hw ho M m1 m2 (fun _=>.inr trivial) (NX H n) (n:Int) hkm (m4 x (Aop x)),Ahl w ho hkm]
   simp only
   rw[AQ (by omega)])
  (fun M _=>by
   rw[Ao0]
   unfold Eu
   dsimp only
   rw[AM,AG1,AP,Aog (by omega)]) (List.replicate n []) inv0
 have hT:=foldI (fun k (M:List (List Int))=>M.set k (smL w H n k)) (fun k M=>M.length=n∧(∀ x∈M,x.length≤8)∧(∀ k',k'<k→M.getD k' []=smL w H n k')∧∀ k',k≤k'→M.getD k' []=[]) n (List.replicate n []) stepI inv0
 have e':AU Eu many ((n:Int),SV w n,List.replicate n ([]:List Int),NX H n,AK (NX H n),(0:Int),())=_:=e
 rw[e',A2 (fun(k:Nat) (M:List (List Int))=>M.set k (smL w H n k))]
 have:(List.range n).foldl (fun M k=>M.set k (smL w H n k)) (List.replicate n [])=SM w H n:=by
  obtain⟨t1,_,t3,_⟩:=hT
  refine CX ([]:List Int) ?_ fun j hj => ?_
  ·rw[t1];unfold SM;simp
  ·rw[t1]at hj
   rw[t3 j hj]
   unfold SM
   rw[Aoj,ApV,Aqs hj]
   rfl
 rw[this]
theorem AAX{w:List Int}{n:Nat}(hw:WO w n)(ht:n≤1000):Fb (w,())=some (false,()):=by
 have hl:=hw.len
 have e:=AQw (step:=CK) (fun k=>(w,(n:Int),(k:Int),())) n (.inr (.inl ())) (by omega)
  (fun k hk=>by
   have:=hw.at k
   unfold CK
   dsimp only
   rw[AP,Aoi hk]
   simp only[By (xs:=w) 0 (show k<w.length by omega),Af]
   rw[Aog (by omega),Aog (by omega),AQ (by omega)])
  (by unfold CK;dsimp only;rw[AP,Aog (by omega)])
 rw[Mr,Fa,Nt,Gj,AM,hl]
 have e':AU CK many (w,(n:Int),(0:Int),())=_:=e
 simp only[e',Ar]
 rfl
theorem AWJ{w toks H:List Int}{n:Nat}(hr:Rt toks)(hn:toks.length=n)(hw:WO w n)(ho:HO H n):ACd ((toks,(H,(NX H n,()))),w,())=some (SM w H n,0,()):=by
 have hp:=ho.pos
 have ht:=ho.top
 have hl:=hw.len
 have f1:DM ((n+1:Nat):Int)=true:=(D5 _).2 (by omega)
 have f2:DM (n:Int)=true:=(D5 _).2 (by omega)
 have hN:=AG1 H n
 rw[AJj,SF]
 simp only[AM,hn,hl,Bf,Aov,AU6 hr hn ho,AAX hw ht]
 rw[AQ (by omega)]
 simp only[f1,Cg,Aop,Aow,Apo,Ia,AFx,AoG hw ht]
 have e1:=AoF hw ho
 rw[AM]at e1
 simp only[f2,e1,Apo]
end Go.Pev.Pl
end
