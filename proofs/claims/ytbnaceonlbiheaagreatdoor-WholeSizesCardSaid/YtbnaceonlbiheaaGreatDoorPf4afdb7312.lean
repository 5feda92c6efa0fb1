/- A part of the proofs of this seat: NKC T19a NKD T22a T21a T23a T23b T24a PlnC NKE NKF NKG NKH NU24a NU24b NU24c NU24d NU23a NU23b NU23c NU23d NU23e T24b NU24f NU24g NU24h NU24i NU24j NU24k NU24l NU24m NU24n PlnD NU21a NU21b NSIg NU23f NU23g PlnE NU23h NU23i NU23n CU26al T05a T05b T05c CU26a CU26b CU26c CU26d CU26e CU26f T26a CU26g CU26h CBW22v CU26i CU26j CU26k CU26l CU26m EW22g EW22h EW22i EW22j EW22k EW22l EW22m EW22n EW22o EW22p EW22q EW22r EW22t EW22u EW22v CSTf EW22w MS27u MS27a MS27b MS27c MS27r MS27s MS27v MS27x QU29g QU29h QU29i QU29j QU29k NU21c NU21d NU21e NU21f W28a W28b W28c W28d W28e W28g W28f GWP26 GWP. -/
import Derived.Test.YtbnaceonlbiheaaGreatDoorP2635f78df0
import Derived.KernelRfl
import Derived.IntWalk
import Derived.Test.YtbnaceonlbiheaaGreatDoorProg
set_option linter.unusedVariables false
set_option linter.unusedSimpArgs false
set_option linter.unusedSectionVars false
set_option maxRecDepth 100000
section
section
namespace Go.Pev.Pl.SG
open Go.Sort
variable {α β:Type} {S:SP α β}
theorem qB(hi first:Nat):∀ (k a:Nat) (d:Array (EL S)) (n:Nat),hi-a=k->a<=hi->first+hi<=d.size->d.size<4294967296->(hi=0\/a<hi)->k<n ->
  BC (Pd S.z S.c S.t) n ((rep d),(hi:Int),(first:Int),(a:Int),())=some (.inl ((rep (siftDown ltX hi first a d)),())) \/
  BC (Pd S.z S.c S.t) n ((rep d),(hi:Int),(first:Int),(a:Int),())=some (.inr (.inl ((rep (siftDown ltX hi first a d)),()))):=by
 intro k;induction k using Nat.strongRecOn with
  |_ k b=>
   intro a d n l m o p q r;obtain⟨n,rfl⟩:∃ k,n=k+1:=⟨n-1,by omega⟩
   rw[siftDown];simp (disch:=omega) only[BC,Pd,af,A8,wrap_add,Dt,A7];by_cases f:hi<=2*a+1;grind;have s:first+a<d.size:=by omega
   have u:first+(2*a+1)<d.size:=by omega
   simp only[f,AR8,ge_iff_le,AR3,dite_false];simp (disch:=omega) only[Bp,CL,DO,EB];by_cases g:2*a+1+1<hi;have v:first+(2*a+2)<d.size:=by omega
   have h:2*a+1+1=2*a+2:=by omega
   have i:first+(2*a+1)+1=first+(2*a+2):=by omega
   have j:2*a+2<hi:=by omega
   simp only[h,i,j,ARx];simp (disch:=omega) only[Bp,CL,DO,EB,Jc];cases w:ltX d[first+(2*a+1)]! d[first+(2*a+2)]!;simp only[Bool.and_false,AR0,AR3];cases e:ltX d[first+a]! d[first+(2*a+1)]!;simp;simp only[ARp,AR0,AR3];rw[Bp (by grind)];simp only[J8];exact b (hi-(2*a+1)) (by omega) (2*a+1) _ n rfl (by omega) (by rw[size_swp];omega) (by rw[size_swp];omega) (by omega) (by omega);simp only[AS4,ASR];cases e:ltX d[first+a]! d[first+(2*a+2)]!;simp;simp only[ARp,AR0,AR3,dite_true];rw[Bp (by grind)];simp only[J8];exact b (hi-(2*a+2)) (by omega) (2*a+2) _ n rfl (by omega) (by rw[size_swp];omega) (by rw[size_swp];omega) (by omega) (by omega);simp only[g,AR8,Bool.false_and,AR0,AR3,Jc];cases e:ltX d[first+a]! d[first+(2*a+1)]!;simp;simp only[ARp,AR0,AR3];rw[Bp (by grind)];simp only[J8];exact b (hi-(2*a+1)) (by omega) (2*a+1) _ n rfl (by omega) (by rw[size_swp];omega) (by rw[size_swp];omega) (by omega) (by omega)
theorem bW(d:Array (EL S))(a hi first:Nat)(b:first+hi<=d.size)(e:d.size<4294967296)(f:hi=0/\a=0\/a<hi):(Sl S.z S.c S.t) ((rep d),(a:Int),(hi:Int),(first:Int),())=some ((rep (siftDown ltX hi first a d)),()):=by
 have g:d.size<many:=by simp only[many];omega
 rw[AEw,Kx];simp only[Bj];rcases qB hi first (hi-a) a d many rfl (by omega) b e (by omega) (by omega)with h|h<;>rw[h]
theorem Et(lt:(EL S)->(EL S)->Bool)(hi first:Nat):∀ (k a:Nat) (d:Array (EL S)),hi-a=k->(siftDown lt hi first a d).size=d.size:=by
 intro k;induction k using Nat.strongRecOn with
  |_ k b=>intro a d c;rw[siftDown];split;rfl;split;split;rfl;split;rw[b (hi-(2*a+2)) (by omega) _ _ rfl,size_swp];rfl;split;rfl;rw[b (hi-(2*a+1)) (by omega) _ _ rfl,size_swp]
theorem mf(hi first:Nat):∀ (k:Nat) (d:Array (EL S)) (n:Nat),(hi=0/\k<=1\/k<=hi)->first+hi<=d.size->d.size<4294967296->k<n ->
  BC (QZ S.z S.c S.t) n ((rep d),(first:Int),(0:Int),(hi:Int),(k:Int)-1,())=some (.inl ((rep (heapBuild ltX hi first k d)),(first:Int),(0:Int),(hi:Int),())):=by
 intro k;induction k with
  |zero=>
   intro d n e a b f;obtain⟨n,rfl⟩:∃ k,n=k+1:=⟨n-1,by omega⟩
   rw[BC,QZ,Bf,ARj (by omega)];rfl
  |succ k g=>
   intro d n e a b f;obtain⟨n,rfl⟩:∃ k,n=k+1:=⟨n-1,by omega⟩
   have h:((k+1:Nat):Int)-1=(k:Int):=by omega
   rw[BC,QZ,h,Bf,ARk (by omega)];simp only[bW d k hi first a b (by omega)];rw[BK (by omega)];exact g _ n (by omega) (by rw[Et _ _ _ _ _ _ rfl];omega) (by rw[Et _ _ _ _ _ _ rfl];omega) (by omega)
theorem L6(lt:(EL S)->(EL S)->Bool)(hi first:Nat):∀ (k:Nat) (d:Array (EL S)),(heapBuild lt hi first k d).size=d.size:=by
 intro k;induction k with
  |zero=>intro d;rfl
  |succ k a=>intro d;rw[heapBuild,a,Et _ _ _ _ _ _ rfl]
theorem ABt(first:Nat):∀ (k:Nat) (d:Array (EL S)) (n:Nat),first+k<=d.size->d.size<4294967296->k<n ->
  BC (QY S.z S.c S.t) n ((rep d),(first:Int),(0:Int),(k:Int)-1,())=some (.inl ((rep (heapPop ltX first k d)),())):=by
 intro k;induction k with
  |zero=>
   intro d n a b e;obtain⟨n,rfl⟩:∃ k,n=k+1:=⟨n-1,by omega⟩
   rw[BC,QY,Bf,ARj (by omega)];rfl
  |succ k f=>
   intro d n a b e;obtain⟨n,rfl⟩:∃ k,n=k+1:=⟨n-1,by omega⟩
   have g:((k+1:Nat):Int)-1=(k:Int):=by omega
   have h:first<d.size:=by omega
   have i:first+k<d.size:=by omega
   rw[BC,QY,g,Bf,ARk (by omega)];simp (disch:=omega) only[wrap_add,Bp,CL,Jc];rw[Bp (by grind)];simp only[J8];have:=bW (swp d first (first+k)) 0 k first (by rw[size_swp];omega) (by rw[size_swp];omega) (by omega)
   simp only[Int.natCast_zero]at this;simp only[this];rw[BK (by omega)];exact f _ n (by rw[Et _ _ _ _ _ _ rfl,size_swp];omega) (by rw[Et _ _ _ _ _ _ rfl,size_swp];omega) (by omega)
theorem ABs(d:Array (EL S))(a b:Nat)(f:a<b)(i:b<=d.size)(g:d.size<4294967296):(YR S.z S.c S.t) ((rep d),(a:Int),(b:Int),())=some ((rep (heapSort ltX d a b)),()):=by
 have j:4294967296<many:=by simp only[many];omega
 rw[AHs,LN];simp (disch:=omega) only[ED,Br,AQv,Bj];have e:(((b-a-1)/2:Nat):Int)=(((b-a-1)/2+1:Nat):Int)-1:=by omega
 rw[e,mf (b-a) a _ d many (by omega) (by omega) g (by omega)];have h:(((b-a-1:Nat)):Int)=((b-a:Nat):Int)-1:=by omega
 simp (disch:=omega) only[Br,h];rw[ABt a (b-a) _ many (by rw[L6];omega) (by rw[L6];omega) (by omega)];rfl
end Go.Pev.Pl.SG
end
section
namespace Go.Pev.Pl.SG
open Go.Sort
variable {α β:Type} {S:SP α β}
theorem zg:∀ (k i j:Nat) (d:Array (EL S)) (n:Nat),j-i=k->(j<d.size)->d.size<4294967296->k<n ->
  BC (ee S.z S.c S.t) n ((rep d),(i:Int),(j:Int),())=some (.inl ((rep (reverseLoop i j d)),())):=by
 intro k;induction k using Nat.strongRecOn with
  |_ k b=>
   intro i j d n e a f g;obtain⟨n,rfl⟩:∃ k,n=k+1:=⟨n-1,by omega⟩
   rw[reverseLoop,BC,ee];simp only[A7];by_cases h:i<j;have hi:i<d.size:=by omega
   simp only[h,ARx,ASR,Bp a,Bp hi,CL hi,CL a,Jc];rw[Bp (by grind)];simp (disch:=omega) only[J8,A8,Br];exact b (j-1-(i+1)) (by omega) (i+1) (j-1) _ n rfl (by rw[size_swp];omega) (by rw[size_swp];omega) (by omega);grind
theorem AFV(d:Array (EL S))(a b:Nat)(e:a<b)(g:b<=d.size)(f:d.size<4294967296):(qd S.z S.c S.t) ((rep d),(a:Int),(b:Int),())=some ((rep (reverseRange d a b)),()):=by
 have h:4294967296<many:=by simp only[many];omega
 rw[AK6,OO];simp (disch:=omega) only[Br,Bj];rw[zg (b-1-a) a (b-1) d many rfl (by omega) f (by omega)];rfl
theorem Ep{d:Array (EL S)}{i j:Nat}(hi:i<d.size)(a:j<d.size):idx (Ba (rep d) (A3 (i:Int)) (A5 (rep d) (A3 (j:Int)) S.z)) (j:Int)=some ((d.setIfInBounds i d[j]!)[j]!).val /\
  Ba (Ba (rep d) (A3 (i:Int)) (A5 (rep d) (A3 (j:Int)) S.z)) (A3 (j:Int)) (A5 (rep d) (A3 (i:Int)) S.z)=(rep (swp d i j)):=by rw[CL hi,CL a,Jc,Jc];exact⟨Bp (by grind),rfl⟩
theorem eU(step:List α×Int×Int×Int×Unit->Option ((List α×Int×Int×Int×Unit)⊕(List α×Int×Int×Int×Unit)⊕Unit))(p:(EL S)->Bool)(d:Array (EL S))(a j:Nat)(e:d.size<4294967296)(f:j<d.size)
  (h:∀ i:Nat,i<=d.size->step ((rep d),(a:Int),(i:Int),(j:Int),())=if i<=j/\p d[i]! then some (.inl ((rep d),(a:Int),((i+1:Nat):Int),(j:Int),()))else some (.inr (.inl ((rep d),(a:Int),(i:Int),(j:Int),())))) :
  ∀ (k i n:Nat),j+1-i=k->i<=d.size->k<n->BC step n ((rep d),(a:Int),(i:Int),(j:Int),())=some (.inl ((rep d),(a:Int),((scanUp p d j i:Nat):Int),(j:Int),())):=by
 intro k;induction k using Nat.strongRecOn with
  |_ k c=>
   intro i n g hi l;obtain⟨n,rfl⟩:∃ k,n=k+1:=⟨n-1,by omega⟩
   rw[scanUp,BC,h i hi];by_cases b:i<=j/\p d[i]! = true;rw[ARt b,ARt (by grind)];exact c (j+1-(i+1)) (by omega) (i+1) n rfl (by omega) (by omega);rw[ARv b,ARv (by grind)]
theorem RY(step:List α×Int×Int×Int×Unit->Option ((List α×Int×Int×Int×Unit)⊕(List α×Int×Int×Int×Unit)⊕Unit))(p:(EL S)->Bool)(d:Array (EL S))(a i:Nat)(hi:1<=i)
  (h:∀ j:Nat,j<d.size->step ((rep d),(a:Int),(i:Int),(j:Int),())=if i<=j/\p d[j]! then some (.inl ((rep d),(a:Int),(i:Int),((j-1:Nat):Int),()))else some (.inr (.inl ((rep d),(a:Int),(i:Int),(j:Int),())))) :
  ∀ (j n:Nat),j<d.size->j<n->BC step n ((rep d),(a:Int),(i:Int),(j:Int),())=some (.inl ((rep d),(a:Int),(i:Int),((scanDown p d i j:Nat):Int),())):=by
 intro j;induction j with
  |zero=>
   intro n b c;obtain⟨n,rfl⟩:∃ k,n=k+1:=⟨n-1,by omega⟩
   rw[BC,h 0 b,ARv (by omega)];rfl
  |succ j e=>
   intro n b c;obtain⟨n,rfl⟩:∃ k,n=k+1:=⟨n-1,by omega⟩
   rw[scanDown,BC,h (j+1) b];grind
section
variable (d:Array (EL S)) (a i j:Nat) (hs:d.size<4294967296) (ha:a<d.size) (hj:j<d.size)
include hs ha hj
theorem lp(hi:i<=d.size):(Xy S.z S.c S.t) ((rep d),(a:Int),(i:Int),(j:Int),())=if i<=j/\(fun x=>ltX x d[a]!) d[i]! = true then some (.inl ((rep d),(a:Int),((i+1:Nat):Int),(j:Int),()))else some (.inr (.inl ((rep d),(a:Int),(i:Int),(j:Int),()))):=by
 rw[Xy];simp only[Dt];by_cases h:i<=j;have b:i<d.size:=by omega
 simp (disch:=omega) only[h,ARx,Bp,CL,DO,EB,A8,AT5];cases ltX d[i]! d[a]!<;>simp;simp only[h,AR8,AT4,AR3]
theorem ll(hi:i<=d.size):(Xv S.z S.c S.t) ((rep d),(a:Int),(i:Int),(j:Int),())=if i<=j/\(fun x=>ltX x d[a]!) d[i]! = true then some (.inl ((rep d),(a:Int),((i+1:Nat):Int),(j:Int),()))else some (.inr (.inl ((rep d),(a:Int),(i:Int),(j:Int),()))):=by
 rw[Xv];simp only[Dt];by_cases h:i<=j;have b:i<d.size:=by omega
 simp (disch:=omega) only[h,ARx,Bp,CL,DO,EB,A8,AT5];cases ltX d[i]! d[a]!<;>simp;simp only[h,AR8,AT4,AR3]
theorem ln(hi:1<=i):(Xx S.z S.c S.t) ((rep d),(a:Int),(i:Int),(j:Int),())=if i<=j/\(fun x => !ltX x d[a]!) d[j]! = true then some (.inl ((rep d),(a:Int),(i:Int),((j-1:Nat):Int),()))else some (.inr (.inl ((rep d),(a:Int),(i:Int),(j:Int),()))):=by rw[Xx];simp only[Dt];by_cases h:i<=j;simp (disch:=omega) only[h,ARx,Bp,CL,DO,EB,Br,AT5];cases ltX d[j]! d[a]!<;>simp;simp only[h,AR8,AT4,AR3]
theorem lj(hi:1<=i):(Xu S.z S.c S.t) ((rep d),(a:Int),(i:Int),(j:Int),())=if i<=j/\(fun x => !ltX x d[a]!) d[j]! = true then some (.inl ((rep d),(a:Int),(i:Int),((j-1:Nat):Int),()))else some (.inr (.inl ((rep d),(a:Int),(i:Int),(j:Int),()))):=by rw[Xu];simp only[Dt];by_cases h:i<=j;simp (disch:=omega) only[h,ARx,Bp,CL,DO,EB,Br,AT5];cases ltX d[j]! d[a]!<;>simp;simp only[h,AR8,AT4,AR3]
theorem Zx(hi:i<=d.size):(OW S.z S.c S.t) ((rep d),(a:Int),(i:Int),(j:Int),())=if i<=j/\(fun x => !ltX d[a]! x) d[i]! = true then some (.inl ((rep d),(a:Int),((i+1:Nat):Int),(j:Int),()))else some (.inr (.inl ((rep d),(a:Int),(i:Int),(j:Int),()))):=by
 rw[OW];simp only[Dt];by_cases h:i<=j;have b:i<d.size:=by omega
 simp (disch:=omega) only[h,ARx,Bp,CL,DO,EB,A8,AT5];cases ltX d[a]! d[i]!<;>simp;simp only[h,AR8,AT4,AR3]
theorem Zw(hi:1<=i):(OV S.z S.c S.t) ((rep d),(a:Int),(i:Int),(j:Int),())=if i<=j/\(fun x=>ltX d[a]! x) d[j]! = true then some (.inl ((rep d),(a:Int),(i:Int),((j-1:Nat):Int),()))else some (.inr (.inl ((rep d),(a:Int),(i:Int),(j:Int),()))):=by rw[OV];simp only[Dt];by_cases h:i<=j;simp (disch:=omega) only[h,ARx,Bp,CL,DO,EB,Br,AT5];grind;grind
end
theorem L8(p:(EL S)->Bool)(d:Array (EL S))(j i:Nat)(a:j<d.size)(hi:i<=d.size):scanUp p d j i<=d.size:=by
 suffices h:∀ (k i:Nat),j+1-i=k->i<=d.size->scanUp p d j i<=d.size from h _ i rfl hi
 intro k;induction k using Nat.strongRecOn with
  |_ k b=>intro i c hi;rw[scanUp];split;all_goals grind
theorem rh(a:Nat):∀ (k i j:Nat) (d:Array (EL S)) (n:Nat),j+1-i=k->a<d.size->1<=i->i<=d.size->j<d.size->d.size<4294967296->k<n ->
  BC (Xw S.z S.c S.t) n ((rep d),(a:Int),(i:Int),(j:Int),())=some (.inl ((rep (partLoop ltX a i j d).2),(a:Int),(((partLoop ltX a i j d).1:Nat):Int),()))/\(partLoop ltX a i j d).1<=j/\(partLoop ltX a i j d).2.size=d.size:=by
 intro k;induction k using Nat.strongRecOn with
  |_ k ih=>
   intro i j d n hk ha hi hi' hj hs hn;have hm:4294967296<many:=by simp only[many];omega
   obtain⟨n,rfl⟩:∃ k,n=k+1:=⟨n-1,by omega⟩
   rw[partLoop_eq,BC,Xw];have u1:=scanUp_ge (fun x=>ltX x d[a]!) d j i;have u2:=L8 (fun x=>ltX x d[a]!) d j i hj hi';rw[Bj,eU _ (fun x=>ltX x d[a]!) d a j hs hj (fun i h=>ll d a i j hs ha hj h) _ i many rfl hi' (by omega)];generalize scanUp (fun x=>ltX x d[a]!) d j i=i2 at *;have v1:=scanDown_le (fun x => !ltX x d[a]!) d i2 j;simp only[Bj];rw[RY _ (fun x => !ltX x d[a]!) d a i2 (by omega) (fun j h=>lj d a i2 j hs ha h (by omega)) j many hj (by omega)];generalize scanDown (fun x => !ltX x d[a]!) d i2 j=j2 at *;simp only[A7];by_cases h:j2<i2;grind;have hi2:i2<d.size:=by omega
   have hj2:j2<d.size:=by omega
   simp only[h,AR8,gt_iff_lt,AR3,Bp hi2,Bp hj2,(Ep hi2 hj2).1,(Ep hi2 hj2).2];simp (disch:=omega) only[A8,Br];obtain⟨q1,q2,q3⟩:=ih (j2-1+1-(i2+1)) (by omega) (i2+1) (j2-1) (swp d i2 j2) n rfl (by rw[size_swp];omega) (by omega) (by rw[size_swp];omega) (by rw[size_swp];omega) (by rw[size_swp];omega) (by omega);exact⟨q1,by omega,by rw[q3,size_swp]⟩
theorem AAM(d:Array (EL S))(a b p:Nat)(ha:a<=p)(hp:p<b)(hb:b<=d.size)(hs:d.size<4294967296):
  (Ps S.z S.c S.t) ((rep d),(a:Int),(b:Int),(p:Int),())=some ((rep (partition ltX d a b p).2.2),(((partition ltX d a b p).1:Nat):Int),(partition ltX d a b p).2.1,()):=by
 have hm:4294967296<many:=by simp only[many];omega
 have ha':a<d.size:=by omega
 have hp':p<d.size:=by omega
 rw[AGp,K2,partition];simp only[Bp ha',Bp hp',(Ep ha' hp').1,(Ep ha' hp').2];have hs':=hs;rw[<- size_swp d a p]at ha' hs' hb;generalize swp d a p=d at *;simp (disch:=omega) only[A8,Br,Bj];have u1:=scanUp_ge (fun x=>ltX x d[a]!) d (b-1) (a+1);have u2:=L8 (fun x=>ltX x d[a]!) d (b-1) (a+1) (by omega) (by omega);rw[eU _ (fun x=>ltX x d[a]!) d a (b-1) hs' (by omega) (fun i h=>lp d a i (b-1) hs' ha' (by omega) h) _ (a+1) many rfl (by omega) (by omega)];generalize scanUp (fun x=>ltX x d[a]!) d (b-1) (a+1)=i2 at *;have v1:=scanDown_le (fun x => !ltX x d[a]!) d i2 (b-1);simp only[];rw[RY _ (fun x => !ltX x d[a]!) d a i2 (by omega) (fun j h=>ln d a i2 j hs' ha' h (by omega)) (b-1) many (by omega) (by omega)];generalize scanDown (fun x => !ltX x d[a]!) d i2 (b-1)=j2 at *;simp only[A7];have hj2:j2<d.size:=by omega
 by_cases h:j2<i2;simp only[h,ARx,gt_iff_lt,ASR,Bp ha',Bp hj2,(Ep hj2 ha').1,(Ep hj2 ha').2];have hi2:i2<d.size:=by omega
 simp only[h,AR8,gt_iff_lt,AR3,Bp hi2,Bp hj2,(Ep hi2 hj2).1,(Ep hi2 hj2).2];simp (disch:=omega) only[A8,Br];obtain⟨q1,q2,q3⟩:=rh a (j2-1+1-(i2+1)) (i2+1) (j2-1) (swp d i2 j2) many rfl (by rw[size_swp];omega) (by omega) (by rw[size_swp];omega) (by rw[size_swp];omega) (by rw[size_swp];omega) (by omega);simp only[q1];rw[size_swp]at q3;generalize partLoop ltX a (i2+1) (j2-1) (swp d i2 j2)=r at *;have h1:r.1<r.2.size:=by omega
 have h2:a<r.2.size:=by omega
 simp only[Bp h1,Bp h2,(Ep h1 h2).1,(Ep h1 h2).2]
theorem fL(a:Nat):∀ (k i j:Nat) (d:Array (EL S)) (n:Nat),j+1-i=k->a<d.size->1<=i->i<=d.size->j<d.size->d.size<4294967296->k<n ->
  BC (OX S.z S.c S.t) n ((rep d),(a:Int),(i:Int),(j:Int),())=some (.inl ((rep (partEqLoop ltX a i j d).2),(((partEqLoop ltX a i j d).1:Nat):Int),())):=by
 intro k;induction k using Nat.strongRecOn with
  |_ k ih=>
   intro i j d n hk ha hi hi' hj hs hn;have hm:4294967296<many:=by simp only[many];omega
   obtain⟨n,rfl⟩:∃ k,n=k+1:=⟨n-1,by omega⟩
   rw[partEqLoop_eq,BC,OX];have u1:=scanUp_ge (fun x => !ltX d[a]! x) d j i;have u2:=L8 (fun x => !ltX d[a]! x) d j i hj hi';rw[Bj,eU _ (fun x => !ltX d[a]! x) d a j hs hj (fun i h=>Zx d a i j hs ha hj h) _ i many rfl hi' (by omega)];generalize scanUp (fun x => !ltX d[a]! x) d j i=i2 at *;have v1:=scanDown_le (fun x=>ltX d[a]! x) d i2 j;simp only[Bj];rw[RY _ (fun x=>ltX d[a]! x) d a i2 (by omega) (fun j h=>Zw d a i2 j hs ha h (by omega)) j many hj (by omega)];generalize scanDown (fun x=>ltX d[a]! x) d i2 j=j2 at *;simp only[A7];by_cases h:j2<i2;grind;have hi2:i2<d.size:=by omega
   have hj2:j2<d.size:=by omega
   simp only[h,AR8,gt_iff_lt,AR3,Bp hi2,Bp hj2,(Ep hi2 hj2).1,(Ep hi2 hj2).2];simp (disch:=omega) only[A8,Br];exact ih (j2-1+1-(i2+1)) (by omega) (i2+1) (j2-1) (swp d i2 j2) n rfl (by rw[size_swp];omega) (by omega) (by rw[size_swp];omega) (by rw[size_swp];omega) (by rw[size_swp];omega) (by omega)
theorem lq(d:Array (EL S))(a b p:Nat)(ha:a<=p)(hp:p<b)(hb:b<=d.size)(hs:d.size<4294967296):
  (K3 S.z S.c S.t) ((rep d),(a:Int),(b:Int),(p:Int),())=some ((rep (partitionEqual ltX d a b p).2),(((partitionEqual ltX d a b p).1:Nat):Int),()):=by
 have hm:4294967296<many:=by simp only[many];omega
 have ha':a<d.size:=by omega
 have hp':p<d.size:=by omega
 rw[r7,GH,partitionEqual];simp only[Bp ha',Bp hp',(Ep ha' hp').1,(Ep ha' hp').2];have hs':=hs;rw[<- size_swp d a p]at ha' hs' hb;generalize swp d a p=d at *;simp (disch:=omega) only[A8,Br,Bj];rw[fL a _ (a+1) (b-1) d many rfl ha' (by omega) (by omega) (by omega) hs' (by omega)]
end Go.Pev.Pl.SG
end
section
namespace Go.Pev.Pl.SG
open Go.Sort
variable {α β:Type} {S:SP α β}
theorem Pe(d:Array (EL S))(b:Nat):∀ (k i:Nat),b-i=k->i<=b->i<=scanSorted ltX d b i/\scanSorted ltX d b i<=b:=by
 intro k;induction k using Nat.strongRecOn with
  |_ k a=>intro i c hi;rw[scanSorted];split;all_goals grind
theorem Zt(d:Array (EL S))(a b s:Nat)(f:b<=d.size)(g:d.size<4294967296):∀ (k i n:Nat),b-i=k->1<=i->i<=b->k<n ->
  BC (MG S.z S.c S.t) n ((rep d),(a:Int),(b:Int),(i:Int),(s:Int),())=some (.inl ((rep d),(a:Int),(b:Int),((scanSorted ltX d b i:Nat):Int),(s:Int),())):=by
 intro k;induction k using Nat.strongRecOn with
  |_ k e=>
   intro i n j l hi m;obtain⟨n,rfl⟩:∃ k,n=k+1:=⟨n-1,by omega⟩
   rw[scanSorted,BC,MG];simp only[A7];by_cases h:i<b;have o:i<d.size:=by omega
   have p:i-1<d.size:=by omega
   simp (disch:=omega) only[h,ARx,Br,A8,Bp,CL,DO,EB,Bool.true_and];cases q:ltX d[i]! d[i-1]!;simp only[ASF,ASR];exact e (b-(i+1)) (by omega) (i+1) n rfl (by omega) (by omega) (by omega);simp;grind
theorem Zv(a b i s:Nat):∀ (j:Nat) (d:Array (EL S)) (n:Nat),j<d.size->d.size<4294967296->j<n ->
  BC (JN S.z S.c S.t) n ((rep d),(a:Int),(b:Int),(i:Int),(s:Int),(j:Int),())=some (.inl ((rep (shiftDown ltX j d)),(a:Int),(b:Int),(i:Int),(s:Int),())):=by
 intro j;induction j with
  |zero=>
   intro d n f h l;obtain⟨n,rfl⟩:∃ k,n=k+1:=⟨n-1,by omega⟩
   rw[BC,JN,Bf,ARj (by omega)];rfl
  |succ j m=>
   intro d n f h l;obtain⟨n,rfl⟩:∃ k,n=k+1:=⟨n-1,by omega⟩
   have e:j<d.size:=by omega
   rw[shiftDown,BC,JN,Bf,ARk (by omega)];simp (disch:=omega) only[Br,Nat.add_sub_cancel,Bp,CL,DO,EB];cases o:ltX d[j+1]! d[j]!;simp;have g:=Ep f e;simp only[CL f,CL e]at g;simp only[ARp,AR0,AR3,g];exact m _ n (by rw[size_swp];omega) (by rw[size_swp];omega) (by omega)
theorem Sy(a b i s:Nat):∀ (k j:Nat) (d:Array (EL S)) (n:Nat),b-j=k->1<=j->b<=d.size->d.size<4294967296->k<n ->
  BC (JM S.z S.c S.t) n ((rep d),(a:Int),(b:Int),(i:Int),(s:Int),(j:Int),())=some (.inl ((rep (shiftUp ltX b j d)),(a:Int),(b:Int),(i:Int),(s:Int),())):=by
 intro k;induction k using Nat.strongRecOn with
  |_ k l=>
   intro j d n m o p q r;obtain⟨n,rfl⟩:∃ k,n=k+1:=⟨n-1,by omega⟩
   rw[shiftUp,BC,JM];simp only[A7];by_cases h:j<b;have e:j<d.size:=by omega
   have f:j-1<d.size:=by omega
   simp (disch:=omega) only[h,ARx,ASR,Br,A8,Bp,CL,DO,EB];cases u:ltX d[j]! d[j-1]!;simp;have g:=Ep e f;simp only[CL e,CL f]at g;simp only[ARp,AR0,AR3,g];exact l (b-(j+1)) (by omega) (j+1) _ n rfl (by omega) (by rw[size_swp];omega) (by rw[size_swp];omega) (by omega);grind
theorem XL:∀ (j:Nat) (d:Array (EL S)),(shiftDown ltX j d).size=d.size:=by
 intro j;induction j with
  |zero=>intro d;rfl
  |succ j a=>intro d;rw[shiftDown];split;rfl;rw[a,size_swp]
theorem Ha(b:Nat):∀ (k j:Nat) (d:Array (EL S)),b-j=k->(shiftUp ltX b j d).size=d.size:=by
 intro k;induction k using Nat.strongRecOn with
  |_ k a=>intro j d c;rw[shiftUp];split;split;rfl;rw[a (b-(j+1)) (by omega) (j+1) _ rfl,size_swp];rfl
theorem Zu(a b:Nat)(hab:a<b):∀ (k i s:Nat) (d:Array (EL S)) (n:Nat),s+k=5->a+1<=i->i<=b->b<=d.size->d.size<4294967296->k<n ->
  BC (EJ S.z S.c S.t) n ((rep d),(a:Int),(b:Int),(i:Int),(s:Int),())=some (.inl ((rep (partialIns ltX a b k i d).1),(partialIns ltX a b k i d).2,())) \/
  ((partialIns ltX a b k i d).2=false/\BC (EJ S.z S.c S.t) n ((rep d),(a:Int),(b:Int),(i:Int),(s:Int),())=some (.inr (.inl ((rep (partialIns ltX a b k i d).1),())))):=by
 intro k;induction k with
  |zero=>
   intro i s d n hk h1 hi hb hs hn;obtain⟨n,rfl⟩:∃ k,n=k+1:=⟨n-1,by omega⟩
   rw[BC,EJ,BP,ARj (by omega)];exact .inr ⟨rfl,rfl⟩
  |succ k ih=>
   intro i s d n hk h1 hi hb hs hn;have hm:4294967296<many:=by simp only[many];omega
   have es:w64 ((s:Int)+1)=((s+1:Nat):Int):=A8 (by omega);obtain⟨n,rfl⟩:∃ k,n=k+1:=⟨n-1,by omega⟩
   rw[BC,EJ,BP,ARk (by omega),partialIns];simp only[Bj,Zt d a b s hb hs (b-i) i many rfl (by omega) hi (by omega)];have hsc:=Pe d b _ i rfl hi;generalize scanSorted ltX d b i=i2 at *;simp only[VA];by_cases h2:i2=b;grind;simp (disch:=omega) only[h2,AR8,AR3,ED,BP,Bf];by_cases h3:b-a<50;grind;have i0:i2<d.size:=by omega
   have i1:i2-1<d.size:=by omega
   rw[ARv h3,ARj (by omega)];simp (disch:=omega) only[Br,A8,Bp i0,Bp i1,(Ep i0 i1).1,(Ep i0 i1).2];have hsz:=size_swp d i2 (i2-1);generalize swp d i2 (i2-1)=d2 at *;by_cases h4:i2-a≥2;rw[ARt h4,ARk (show(2:Int)<=((i2-a:Nat):Int) by omega)];simp only[Zv a b i2 s (i2-1) d2 many (by omega) (by omega) (by omega)];have hsz2:=XL (i2-1) d2;generalize shiftDown ltX (i2-1) d2=d3 at *;simp (disch:=omega) only[ED,A8];by_cases h5:b-i2≥2;rw[ARt h5,ARk (show(2:Int)<=((b-i2:Nat):Int) by omega)];simp only[Sy a b i2 s _ (i2+1) d3 many rfl (by omega) (by omega) (by omega) (by omega)];simp only[es];exact ih i2 (s+1) (shiftUp ltX b (i2+1) d3) n (by omega) (by omega) (by omega) (by rw[Ha b (b-(i2+1)) (i2+1) _ rfl];omega) (by rw[Ha b (b-(i2+1)) (i2+1) _ rfl];omega) (by omega);rw[ARv h5,ARj (show ¬ (2:Int)<=((b-i2:Nat):Int) by omega)];simp only[es];exact ih i2 (s+1) d3 n (by omega) (by omega) (by omega) (by omega) (by omega) (by omega);rw[ARv h4,ARj (show ¬ (2:Int)<=((i2-a:Nat):Int) by omega)];by_cases h5:b-i2≥2;rw[ARt h5,ARk (show(2:Int)<=((b-i2:Nat):Int) by omega)];simp only[Sy a b i2 s _ (i2+1) d2 many rfl (by omega) (by omega) (by omega) (by omega)];simp only[es];exact ih i2 (s+1) (shiftUp ltX b (i2+1) d2) n (by omega) (by omega) (by omega) (by rw[Ha b (b-(i2+1)) (i2+1) _ rfl];omega) (by rw[Ha b (b-(i2+1)) (i2+1) _ rfl];omega) (by omega);omega
theorem fK(d:Array (EL S))(a b:Nat)(e:a<b)(g:b<=d.size)(i:d.size<4294967296):
  (Ib S.z S.c S.t) ((rep d),(a:Int),(b:Int),())=some ((rep (partialInsertionSort ltX d a b).1),(partialInsertionSort ltX d a b).2,()):=by
 have k:4294967296<many:=by simp only[many];omega
 rw[lU,E6,partialInsertionSort];simp (disch:=omega) only[A8,Bj];have h:=Zu a b e 5 (a+1) 0 d many rfl (ARo _) (by omega) g i (by omega);rcases h with h|⟨j,h⟩
 have f:BC (EJ S.z S.c S.t) many ((rep d),(a:Int),(b:Int),((a+1:Nat):Int),(0:Int),())=_:=h;rw[f];have f:BC (EJ S.z S.c S.t) many ((rep d),(a:Int),(b:Int),((a+1:Nat):Int),(0:Int),())=_:=h;rw[f,j]
theorem MK(d:Array (EL S))(a b:Nat)(s:Int)(e:a<d.size)(f:b<d.size):
  ∃ g p q,(Hb S.z S.c S.t) ((rep d),(a:Int),(b:Int),s,())=some ((rep d),g,((p:Nat):Int),((q:Nat):Int),())/\(p=a/\q=b\/p=b/\q=a):=by rw[sH,GJ];simp only[Bp e,Bp f,CL e,CL f,DO,EB];cases ltX d[b]! d[a]!;all_goals grind
theorem MO(d:Array (EL S))(a b c:Nat)(s:Int)(e:a<d.size)(f:b<d.size)(g:c<d.size):
  ∃ h p,(He S.z S.c S.t) ((rep d),(a:Int),(b:Int),(c:Int),s,())=some ((rep d),h,((p:Nat):Int),())/\(p=a\/p=b\/p=c):=by rw[sU,GM];obtain⟨i,j,k,l,q⟩:=MK d a b s e f;simp only[l];obtain⟨m,n,r,o,u⟩:=MK d k c i (by omega) g;simp only[o];obtain⟨v,w,x,y,A⟩:=MK d j n m (by omega) (by omega);grind
theorem MP(d:Array (EL S))(a:Nat)(s:Int)(b:1<=a)(e:a+1<d.size)(g:d.size<4294967296):
  ∃ f p,(Hf S.z S.c S.t) ((rep d),(a:Int),s,())=some ((rep d),f,((p:Nat):Int),())/\a<=p+1/\p<=a+1:=by rw[sZ,GN];simp (disch:=omega) only[Br,A8];obtain⟨h,i,j,b⟩:=MO d (a-1) a (a+1) s (by omega) (by omega) e;grind
theorem qy(d:Array (EL S))(a b:Nat)(i:a+8<=b)(w:b<=d.size)(e:d.size<4294967296):
  ∃ p h,(OQ S.z S.c S.t) ((rep d),(a:Int),(b:Int),())=some ((rep d),((p:Nat):Int),h,())/\a<=p/\p<b:=by
 rw[z7,IY];simp (disch:=omega) only[ED,vk,xt,M',xr,wrap_add,Bf];rw[ARk (show(8:Int)<=((b-a:Nat):Int) by omega)];simp only[];by_cases h:50<=b-a;rw[ARk (show(50:Int)<=((b-a:Nat):Int) by omega)];simp only[];obtain⟨j,k,l,x⟩:=MP d (a+(b-a)/4*1) 0 (by omega) (by omega) e;simp only[l];obtain⟨m,n,o,y⟩:=MP d (a+(b-a)/4*2) j (by omega) (by omega) e;simp only[o];obtain⟨q,r,s,A⟩:=MP d (a+(b-a)/4*3) m (by omega) (by omega) e;simp only[s];obtain⟨f,u,g,v⟩:=MO d k n r q (by omega) (by omega) (by omega);grind
 ·rw[ARj (show ¬ (50:Int)<=((b-a:Nat):Int) by omega)];simp only[];obtain⟨f,u,g,v⟩:=MO d (a+(b-a)/4*1) (a+(b-a)/4*2) (a+(b-a)/4*3) 0 (by omega) (by omega) (by omega);simp only[g];cases ieq f 0;·cases ieq f 12;all_goals grind
  grind
end Go.Pev.Pl.SG
end
section
namespace Go.Pev.Pl
open Go.Sort
theorem ABU:(List.range 256).all (fun k=>match HM[k]? with
  |some v=>decide (0<=v)&&(decide (v<=8)&&decide (2 ^ v.toNat<=max 1 (2*k)))
  |none=>false)=true:=by decide +kernel
theorem ABV{k:Nat}(h:k<256):∃ v:Nat,idx HM (k:Int)=some (v:Int)/\v<=8/\2 ^ v<=max 1 (2*k):=by
 have:=AR1.1 ABU k (ASW.2 h);rw[idx_eq,YH,ARv (by omega),ASQ];cases e:HM[k]? with
  |none=>grind
  |some v=>rw[e]at this;simp only[ARl,ARm]at this;exact⟨v.toNat,by grind,by omega,this.2.2⟩
theorem eJ(n s:Nat)(h:s<=64):shr? .u64 (n:Int) (s:Int)=some ((n/2 ^ s:Nat):Int):=by rw[eK,yt,ARv (by omega),ASQ,show min s (IntKind.bits .u64)=s from AS7 h,Int.fdiv_eq_ediv_of_nonneg _ (Int.pow_nonneg (by omega))];rfl
theorem u8_in{n:Int}(h:0<=n/\n<=255):IntKind.wrap .u8 n=n:=IntWalk.u8_in n h
theorem u64_in{n:Int}(h:0<=n/\n<=18446744073709551615):IntKind.wrap .u64 n=n:=IntWalk.u64_in n h
theorem ABW(n:Nat)(k:n<4294967296):∃ v:Nat,wo ((n:Int),())=some ((v:Int),())/\v<=32/\2 ^ v<=max 1 (2*n):=by
 rw[mO,fV,Bf,ARj (by omega)];simp only[Bf];have a:∀ (s m:Nat),s<=24->m<256->m*2 ^ s<=n->(s=0\/1<=m)->∃ v:Nat,idx HM (m:Int)=some (v:Int)/\v<=8/\2 ^ (s+v)<=max 1 (2*n):=by
  intro s m l i j d;obtain⟨v,e,c,b⟩:=ABV i;refine⟨v,e,c,?_⟩;rcases d with rfl|d;grind;have f:2 ^ v<=2*m:=by omega
  have o:2 ^ (s+v)<=2*(m*2 ^ s):=by rw[Nat.pow_add,Nat.mul_comm (2 ^ s),<- Nat.mul_assoc];exact ASS _ f
  omega
 by_cases d:65536<=n;rw[ARk (show(65536:Int)<=(n:Int) by omega)];have g:shr? .u64 (n:Int) 16=some ((n/65536:Nat):Int):=eJ n 16 (by omega);simp only[g];by_cases f:256<=n/65536;rw[ARk (show(256:Int)<=((n/65536:Nat):Int) by omega)];have h:shr? .u64 ((n/65536:Nat):Int) 8=some ((n/65536/256:Nat):Int):=eJ _ 8 (by omega);obtain⟨v,e,c,b⟩:=a 24 (n/65536/256) (by omega) (by omega) (by omega) (by omega);simp only[h];rw[u8_in (by omega)];simp only[e];refine⟨24+v,?_,by omega,b⟩;rw[BK (n:=0+16) (by omega),BK (n:=(0:Int)+16+8) (by omega),BK (n:=(v:Int)) (by omega),BK (by omega)];congr 2;rw[ARj (show ¬ (256:Int)<=((n/65536:Nat):Int) by omega)];obtain⟨v,e,c,b⟩:=a 16 (n/65536) (by omega) (by omega) (by omega) (by omega);simp only[];rw[u8_in (by omega)];simp only[e];refine⟨16+v,?_,by omega,b⟩;rw[BK (n:=0+16) (by omega),BK (n:=(v:Int)) (by omega),BK (by omega)];congr 2;rw[ARj (show ¬ (65536:Int)<=(n:Int) by omega)];by_cases f:256<=n;have h:shr? .u64 (n:Int) 8=some ((n/256:Nat):Int):=eJ n 8 (by omega);obtain⟨v,e,c,b⟩:=a 8 (n/256) (by omega) (by omega) (by omega) (by omega);simp only[];rw[ARk (show(256:Int)<=(n:Int) by omega)];simp only[h];rw[u8_in (by omega)];simp only[e];refine⟨8+v,?_,by omega,b⟩;rw[BK (n:=0+8) (by omega),BK (n:=(v:Int)) (by omega),BK (by omega)];congr 2;obtain⟨v,e,c,b⟩:=a 0 n (by omega) (by omega) (by omega) (by omega);simp only[];rw[ARj (show ¬ (256:Int)<=(n:Int) by omega)];simp only[];rw[u8_in (by omega)];simp only[e];refine⟨0+v,?_,by omega,b⟩;rw[BK (n:=(v:Int)) (by omega),BK (by omega)];congr 2
theorem TN(n:Nat)(a:n<4294967296):∃ v:Nat,bitsLen ((n:Int),())=some ((v:Int),())/\v<=32/\2 ^ v<=max 1 (2*n):=by rw[Y',Sb];obtain⟨v,e,h⟩:=ABW n a;grind
theorem l9(n:Nat)(b:1<=n)(c:n<4294967296):∃ m:Nat,UW ((n:Int),())=some ((m:Int),())/\1<=m/\m<=2*n:=by
 rw[X3,Rj,u64_in (by omega)];obtain⟨v,e,a,d⟩:=TN n c;simp only[e];have f:shl? .u64 (1:Int) (v:Int)=some ((2 ^ v:Nat):Int):=by
  rw[eL,yu,ARv (by omega),ASQ,show min v (IntKind.bits .u64)=v from AS7 (by show v<=64;omega),Int.one_mul];have:2 ^ v<=2 ^ 32:=Nat.pow_le_pow_right (by omega) a;have b:1<=2 ^ v:=Nat.one_le_two_pow;have e:((2:Int) ^ v)=((2 ^ v:Nat):Int):=by simp
  rw[e,u64_in (by omega)]
 grind
theorem jH(r:Int):∃ a y,xorNext (r,())=some (a,y,()):=by rw[VS,RJ,eL,yu,ARv (by omega)];simp only[];rw[eK,yt,ARv (by omega)];simp only[];rw[eL,yu,ARv (by omega)];simp
theorem AGy(y:Int)(m:Nat)(b:1<=m)(c:m<18446744073709551616):∃ o:Nat,IntKind.wrap .u64 ((BitVec.ofInt (IntKind.bits .u64) y &&& BitVec.ofInt (IntKind.bits .u64) (IntKind.wrap .u64 ((m:Int)-1))).toNat)=(o:Int)/\o<m:=by
 rw[u64_in (n:=(m:Int)-1) (by omega),show(m:Int)-1=((m-1:Nat):Int) by omega,BitVec.toNat_and];have a:(BitVec.ofInt (IntKind.bits .u64) ((m-1:Nat):Int)).toNat=m-1:=by rw[BitVec.ofInt_natCast,BitVec.toNat_ofNat];exact AR9 (by show m-1<18446744073709551616;omega)
 rw[a];have d:(BitVec.ofInt (IntKind.bits .u64) y).toNat &&& (m-1)<=m-1:=Nat.and_le_right;exact⟨_,u64_in (by omega),by omega⟩
end Go.Pev.Pl
end
section
namespace Go.Pev.Pl.SG
open Go.Sort
variable {α β:Type} {S:SP α β}
theorem n6(a b:Nat)(m:Nat)(E:a+8<=b)(j:1<=m)(F:m<=2*(b-a)):∀ (k t:Nat) (d:Array (EL S)) (r:Int) (n:Nat),t+k=3->b<=d.size->d.size<4294967296->k<n ->
  ∃ f:Array (EL S),BC (Kc S.z S.c S.t) n ((rep d),(a:Int),((b-a:Nat):Int),r,(m:Int),((a+(b-a)/4*2-1+t:Nat):Int),())=some (.inl ((rep f),()))/\PermIn a b d f:=by
 intro k;induction k with
  |zero=>
   intro t d r n v s w x;obtain⟨n,rfl⟩:∃ k,n=k+1:=⟨n-1,by omega⟩
   rw[BC,Kc];simp (disch:=omega) only[vk,M',wrap_add,A8,Dt];rw[ARj (by omega)];exact⟨d,rfl,permIn_refl d a b⟩
  |succ k A=>
   intro t d r n v s w x;obtain⟨n,rfl⟩:∃ k,n=k+1:=⟨n-1,by omega⟩
   rw[BC,Kc];simp (disch:=omega) only[vk,M',wrap_add,A8,Dt];rw[ARk (show a+(b-a)/4*2-1+t<=a+(b-a)/4*2+1 by omega)];obtain⟨u,y,e⟩:=jH r;obtain⟨o,B,G⟩:=AGy y m j (by omega);simp only[e,B];rw[BK (n:=(o:Int)) (by omega)];simp only[Dt];have i:a+(b-a)/4*2-1+t<d.size:=by omega
   have fin:∀ q:Nat,a<=q->q<b->∃ f:Array (EL S),BC (Kc S.z S.c S.t) n ((rep (swp d (a+(b-a)/4*2-1+t) q)),(a:Int),((b-a:Nat):Int),u,(m:Int),((a+(b-a)/4*2-1+t+1:Nat):Int),())=some (.inl ((rep f),()))/\PermIn a b d f:=by intro q l p;obtain⟨f,C,D⟩:=A (t+1) (swp d (a+(b-a)/4*2-1+t) q) u n (by omega) (by rw[size_swp];omega) (by rw[size_swp];omega) (by omega);exact⟨f,C,permIn_trans _ _ _ a b (swp_permIn d a b _ q (by omega) (by omega) l p s) D⟩
   by_cases h:b-a<=o;have g:a+(o-(b-a))<d.size:=by omega
   simp (disch:=omega) only[h,ARx,ED,wrap_add,A8,Bp i,Bp g,(Ep i g).1,(Ep i g).2];exact fin _ (by omega) (by omega);have g:a+o<d.size:=by omega
   simp (disch:=omega) only[h,AR8,ED,wrap_add,A8,Bp i,Bp g,(Ep i g).1,(Ep i g).2];exact fin _ (by omega) (by omega)
theorem uj(d:Array (EL S))(a b:Nat)(g:a<=b)(i:b<=d.size)(j:d.size<4294967296):
  ∃ f:Array (EL S),(O_ S.z S.c S.t) ((rep d),(a:Int),(b:Int),())=some ((rep f),())/\PermIn a b d f:=by
 have o:4294967296<many:=by simp only[many];omega
 rw[ADP,I2];simp (disch:=omega) only[ED,Bf];by_cases h:8<=b-a;rw[ARk (show(8:Int)<=((b-a:Nat):Int) by omega)];obtain⟨m,e,k,l⟩:=l9 (b-a) (by omega) (by omega);simp only[e];rw[u64_in (n:=((b-a:Nat):Int)) (by omega)];simp (disch:=omega) only[vk,M',wrap_add,Br,Bj];obtain⟨f,p,q⟩:=n6 a b m (by omega) k l 3 0 d ((b-a:Nat):Int) many rfl i j (by omega);grind;rw[ARj (show ¬ (8:Int)<=((b-a:Nat):Int) by omega)];exact⟨d,rfl,permIn_refl d a b⟩
end Go.Pev.Pl.SG
end
section
namespace Go.Pev.Pl.SG
open Go.Sort
variable {α β:Type} {S:SP α β}
abbrev ARO(α:Type):=List α×Int×Int×Int×Bool×Bool×Unit
abbrev xb(α:Type):=ARO α⊕(List α×Unit)⊕Unit
def ZG(d:Array (EL S))(a b:Nat):xb α->Prop
 |.inl (xs,x,y,l,_,_,_)=>∃ (e:Array (EL S)) (i j:Nat),xs=(rep e)/\x=(i:Int)/\y=(j:Int)/\0<=l/\l<=100/\i<=j/\j<=e.size/\e.size=d.size/\j-i<b-a/\Below ltX i j e /\
   ∀ R,PermIn i j e R->SortedIn ltX i j R->PermIn a b d R/\SortedIn ltX a b R
 |.inr (.inl (xs,_))=>∃ R:Array (EL S),xs=(rep R)/\PermIn a b d R/\SortedIn ltX a b R
 |.inr (.inr _)=>False
def Ft(self:(List α×Int×Int×Int×Unit)->Option ((List α×Unit)))(m:Nat):Prop:=
 ∀ (d:Array (EL S)) (a b:Nat) (l:Int),a<=b->b<=d.size->d.size<4294967296->0<=l->l<=100->Below ltX a b d->2*(b-a)<m ->
  ∃ R:Array (EL S),self ((rep d),(a:Int),(b:Int),l,())=some ((rep R),())/\PermIn a b d R/\SortedIn ltX a b R
section
variable {self:(List α×Int×Int×Int×Unit)->Option ((List α×Unit))} {d:Array (EL S)} {a b:Nat} {l:Int}
theorem kv(f:Ft (S:=S) self (b-a))(G:b<=d.size)(H:d.size<4294967296)(j:0<=l/\l<=100)
  {d3:Array (EL S)} {p:Nat} (q:PermIn a b d d3) (I:Below ltX a b d3) (r:a<=p) (s:p<b) :
  ∃ o,(match(Ps S.z S.c S.t) ((rep d3),(a:Int),(b:Int),(p:Int),())with
  |none=>none
  |some (y20,y21,y22,_)=>match quo? .i64 (w64 ((b:Int)-(a:Int))) (8:Int)with
   |none=>none
   |some u=>match(ilt (w64 (y21-(a:Int))) (w64 ((b:Int)-y21)))with
    |true=>match self (y20,(a:Int),y21,l,())with
     |none=>none
     |some (y24,_)=>some ((.inl (y24,(w64 (y21+(1:Int))),(b:Int),l,(ile u (w64 (y21-(a:Int)))),y22,())):xb α)
    |false=>match self (y20,(w64 (y21+(1:Int))),(b:Int),l,())with
     |none=>none
     |some (y25,_)=>some (.inl (y25,(a:Int),y21,l,(ile u (w64 ((b:Int)-y21))),y22,())))=some o/\ZG d a b o:=by
 have F:b<=d3.size:=by rw[q.1];exact G
 have J:d3.size<4294967296:=by rw[q.1];exact H
 rw[AAM d3 a b p r s F J];rcases K:partition ltX d3 a b p with⟨mid,O,w⟩
 obtain⟨M,P,v,x,y,k,i⟩:=round_part AEW (partition_holds _) r s F I K;simp (disch:=omega) only[ED,A8,AQu,A7];have N:b<=w.size:=by omega
 by_cases h:mid-a<b-mid;obtain⟨L,e,m,A⟩:=f w a mid l M (by omega) (by omega) j.1 j.2 x (by omega);simp only[h,ARx,e];obtain⟨n,g⟩:=k _ m A;refine⟨_,rfl,L,mid+1,b,rfl,rfl,rfl,j.1,j.2,by omega,by rw[m.1];exact N,by rw[m.1,v,q.1],by omega,n,fun R B C => ?_⟩;obtain⟨D,E⟩:=g R B C;exact⟨permIn_trans _ _ _ a b q D,E⟩;obtain⟨L,e,m,A⟩:=f w (mid+1) b l (by omega) (by omega) (by omega) j.1 j.2 y (by omega);simp only[h,AR8,e];obtain⟨n,g⟩:=i _ m A;refine⟨_,rfl,L,a,mid,rfl,rfl,rfl,j.1,j.2,by omega,by rw[m.1];omega,by rw[m.1,v,q.1],by omega,n,fun R B C => ?_⟩;obtain⟨D,E⟩:=g R B C;exact⟨permIn_trans _ _ _ a b q D,E⟩
theorem Pr(e:Ft (S:=S) self (b-a))(k:b<=d.size)(m:d.size<4294967296)(j:0<=l/\l<=100)
  {d3:Array (EL S)} {p:Nat} (u wp:Bool) (h:PermIn a b d d3) (n:Below ltX a b d3) (f:a<=p) (g:p<b) :
  ∃ o,(Rh S.z S.c S.t) self (rep d3) (a:Int) (b:Int) (p:Int) l u wp=some o/\ZG d a b o:=by
 have s:b<=d3.size:=by rw[h.1];exact k
 have v:d3.size<4294967296:=by rw[h.1];exact m
 rw[Rh,BP];by_cases w:0<a;rw[ARk (by omega)];have H:a-1<d3.size:=by omega
 have I:p<d3.size:=by omega
 simp (disch:=omega) only[Br,Bp,CL,DO,EB];cases x:ltX d3[a-1]! d3[p]!;simp only[ASF];rw[lq d3 a b p f g s v];rcases y:partitionEqual ltX d3 a b p with⟨mid,A⟩
 obtain⟨B,C,q,r,i⟩:=round_eq AEW (partitionEqual_holds _) w f g s n x y;refine⟨_,rfl,A,mid,b,rfl,rfl,rfl,j.1,j.2,by omega,by omega,by rw[q,h.1],by omega,r,fun R D E => ?_⟩;obtain⟨F,G⟩:=i R D E;exact⟨permIn_trans _ _ _ a b h F,G⟩;simp only[ARp];exact kv e k m j h n f g;rw[ARj (by omega)];exact kv e k m j h n f g
theorem vw(e:Ft (S:=S) self (b-a))(j:a<b)(k:b<=d.size)(m:d.size<4294967296)(q:0<=l/\l<=100)
  {d3:Array (EL S)} {p:Nat} (h:Int) (u wp:Bool) (i:PermIn a b d d3) (n:Below ltX a b d3) (f:a<=p) (g:p<b) :
  ∃ o,(fI S.z S.c S.t) self (rep d3) (a:Int) (b:Int) (p:Int) h l u wp=some o/\ZG d a b o:=by
 have r:b<=d3.size:=by rw[i.1];exact k
 have y:d3.size<4294967296:=by rw[i.1];exact m
 unfold fI;cases u;exact Pr e k m q _ _ i n f g;cases wp;exact Pr e k m q _ _ i n f g;simp only[];cases ieq h 1;exact Pr e k m q _ _ i n f g;simp only[];rw[fK d3 a b j r y];obtain⟨s,v⟩:=partialInsertionSort_holds (lt:=ltX) AEW d3 a b j r n;rcases A:partialInsertionSort ltX d3 a b with⟨w,fin⟩
 rw[A]at s v;have x:PermIn a b d w:=permIn_trans _ _ _ a b i s;cases fin;exact Pr e k m q _ _ x (n.perm r s) f g;exact⟨_,rfl,w,rfl,x,v rfl⟩
theorem vv(f:Ft (S:=S) self (b-a))(j:a+8<=b)(k:b<=d.size)(m:d.size<4294967296)(r:0<=l/\l<=100)
  {d3:Array (EL S)} (w wp:Bool) (g:PermIn a b d d3) (s:Below ltX a b d3) :
  ∃ o,(fH S.z S.c S.t) self (rep d3) (a:Int) (b:Int) l w wp=some o/\ZG d a b o:=by
 have i:b<=d3.size:=by rw[g.1];exact k
 have u:d3.size<4294967296:=by rw[g.1];exact m
 rw[fH];obtain⟨p,h,e,n,q⟩:=qy d3 a b j i u;simp only[e];cases ieq h 2;exact vw f (by omega) k m r h _ _ g s n q;simp only[AFV d3 a b (by omega) i u];have v:=reverseRange_holds (α:=(EL S)) d3 a b (by omega) i;simp (disch:=omega) only[Br,ED];exact vw f (by omega) k m r 1 _ _ (permIn_trans _ _ _ a b g v) (s.perm i v) (by omega) (by omega)
theorem AAG(f:Ft (S:=S) self (b-a))(g:a<=b)(h:b<=d.size)(j:d.size<4294967296)(n:0<=l/\l<=100)(m p:Bool)(B:Below ltX a b d):
  ∃ o,(JL S.z S.c S.t) self ((rep d),(a:Int),(b:Int),l,m,p,())=some o/\ZG d a b o:=by rw[JL];simp (disch:=omega) only[ED,Bf,CU];by_cases q:b-a<=12;rw[ARk (show((b-a:Nat):Int)<=12 by omega)];simp only[AHU d a b g h j];obtain⟨i,k⟩:=insertionSort_holds (lt:=ltX) AEW d a b g h;exact⟨_,rfl,_,rfl,i,k⟩;rw[ARj (show ¬ ((b-a:Nat):Int)<=12 by omega)];simp only[];by_cases r:l=0;subst r;simp only[BEq.rfl,ABs d a b (by omega) h j];obtain⟨i,k⟩:=heapSort_holds (lt:=ltX) AEW d a b g h;exact⟨_,rfl,_,rfl,i,k⟩;rw[show(l==0)=false by grind];simp only[];cases m;obtain⟨s,e,i⟩:=uj d a b g h j;simp only[ASF,e];rw[BK (by omega)];exact vv f (by omega) h j (by omega) _ _ i (B.perm h i);simp only[ARp];exact vv f (by omega) h j n _ _ (permIn_refl d a b) B
end
theorem kz{self:(List α×Int×Int×Int×Unit)->Option ((List α×Unit))}{m:Nat}(g:Ft (S:=S) self m):∀ (k:Nat) (d:Array (EL S)) (a b:Nat) (l:Int) (p q:Bool) (n:Nat),b-a=k->k<=m->a<=b->b<=d.size->d.size<4294967296->0<=l->l<=100->Below ltX a b d->k<n ->
  ∃ R:Array (EL S),BC ((JL S.z S.c S.t) self) n ((rep d),(a:Int),(b:Int),l,p,q,())=some (.inl ((rep R),()))/\PermIn a b d R/\SortedIn ltX a b R:=by
 intro k;induction k using Nat.strongRecOn with
  |_ k w=>
   intro d a b l p q n U V r A C s u B W;obtain⟨n,rfl⟩:∃ k,n=k+1:=⟨n-1,by omega⟩
   have f:Ft (S:=S) self (b-a):=fun d D b' l E F G H I J X=>g d D b' l E F G H I J (by omega);obtain⟨o,e,h⟩:=AAG f r A C ⟨s,u⟩ p q B;rw[BC,e];match o,h with
  |.inl (xs,x,y,l',wb',wp',_),h=>obtain⟨K,i,j,rfl,rfl,rfl,L,M,N,O,Y,Z,P,v⟩:=h;obtain⟨R,e2,Q,T⟩:=w (j-i) (by omega) K i j l' wb' wp' n rfl (by omega) N O (by omega) L M P (by omega);grind
  |.inr (.inl (xs,_)),h=>obtain⟨R,rfl,Q,T⟩:=h;grind
theorem AAH:∀ k:Nat,Ft (S:=S) ((Ia S.z S.c S.t) (k+1)) (2 ^ k):=by
 intro k;have f:4294967296<many:=by simp only[many];omega
 induction k with
  |zero=>
   intro d a b l g i j m n o r;have:Ft (S:=S) ((Ia S.z S.c S.t) 0) 0:=fun _ _ _ _ _ _ _ _ _ _ h=>by omega
   obtain⟨R,e,p,q⟩:=kz this (b-a) d a b l true true many rfl (by omega) g i j m n o (by omega);refine⟨R,?_,p,q⟩;rw[Ia,OR];simp only[Bj,e]
  |succ k s=>
   intro d a b l g i j m n o r;have u:2 ^ (k+1)=2*2 ^ k:=by omega
   obtain⟨R,e,p,q⟩:=kz s (b-a) d a b l true true many rfl (by omega) g i j m n o (by omega);refine⟨R,?_,p,q⟩;rw[Ia,OR];simp only[Bj,e]
theorem IN{α β:Type}(S:SP α β)(xs:List α)(h:xs.length<4294967296)(a:∀ x∈xs,S.ok x):∃ ys,(bS S.z S.c S.t) (xs,())=some (ys,())/\ys.Perm xs/\ys.Pairwise fun x y=>S.lt y x=false:=by
 obtain⟨d,rfl⟩:∃ d:Array (EL S),xs=rep d:=by refine⟨(xs.attach.map fun x=>⟨x.val,a x.val x.property⟩).toArray,?_⟩;simp only[rep,List.map_map];simp
 have m:(rep d).length=d.size:=by simp[rep]
 rw[m]at h;rw[AEi,Kv];rw[xN,u64_in (by omega)];obtain⟨v,e,s,_⟩:=TN d.size h;simp only[e];obtain⟨R,n,k,o⟩:=AAH 99 d 0 d.size (v:Int) (by omega) (by omega) h (by omega) (by omega) (.inl rfl) (by omega)
 have p:(rO S.z S.c S.t) (rep d,(0:Int),(d.size:Int),(v:Int),())=some (rep R,()):=by rw[ALW];exact n
 refine⟨rep R,by simp only[p],?_,?_⟩;obtain⟨q,_,l⟩:=k;have r:R.extract 0 d.size=R:=by grind
 rw[r,Array.extract_size]at l;exact l.map _;rw[rep,ATU,ATI];intro i j hi u b;have f:i<R.size:=by omega
 have g:j<R.size:=by omega
 have:=o i j (ATX _) b (by rw[<- k.1];omega);rw[getElem!_pos R j g,getElem!_pos R i f]at this;simpa [ltX]using this
end Go.Pev.Pl.SG
end
section
namespace Go.Pev.Pl.SL
open Go.Sort
def ok(l:List Int):Prop:=l≠[]
def okz:List Int:=[0]
theorem OZ:ok okz:=by simp[ok,okz]
def lt(x y:List Int):Bool:=ltInt (x.headD 0) (y.headD 0)
theorem swo:SWO lt:=⟨fun x=>swo_ltInt.irrefl _,fun x y z=>swo_ltInt.trans _ _ _,fun x y z=>swo_ltInt.ntrans _ _ _⟩
theorem LW{x y:List Int}(d:ok x)(e:ok y):∃ c,Cr (x,y,())=some (c,())/\ilt c (0:Int)=lt x y:=by
 cases x with
  |nil=>exact absurd rfl d
  |cons a x=>
   cases y with
    |nil=>exact absurd rfl e
    |cons b y=>
     rw[jN,dT];have f:idx (a::x) (0:Int)=some a:=by rw[idx_eq];rfl
     have g:idx (b::y) (0:Int)=some b:=by rw[idx_eq];rfl
     simp only[f,g,HB,GY,JP,K5];simp only[CU,BP,lt,AT0,ltInt];by_cases h:a<b;simp[h];by_cases i:b<a;grind;simp[h,i]
noncomputable def S:SG.SP (List Int) Int:=⟨([]:List (Int)),Cr,tLt,ok,okz,OZ,lt,swo,fun a b=>LW a b⟩
theorem IN(xs:List (List Int))(h:xs.length<4294967296)(a:∀ x∈xs,ok x):∃ ys,va (xs,())=some (ys,())/\ys.Perm xs/\ys.Pairwise fun x y=>lt y x=false:=SG.IN S xs h a
end Go.Pev.Pl.SL
end
end
section
namespace Go.Pev.Pl
abbrev Edge:=Int×Int×Unit
inductive Con(l:List Edge):Int->Int->Prop
 |refl (a:Int):Con l a a
 |edge (e:Edge):e∈l->Con l e.1 e.2.1
 |symm {a b:Int}:Con l a b->Con l b a
 |trans {a b c:Int}:Con l a b->Con l b c->Con l a c
theorem Con.mono{l j:List Edge}(h:∀ e∈l,∃ d∈j,(d.1=e.1/\d.2.1=e.2.1)\/(d.1=e.2.1/\d.2.1=e.1)){a b:Int}(c:Con l a b):Con j a b:=by
 induction c with
  |refl a=>exact .refl a
  |edge e m=>obtain⟨d,k,f|f⟩:=h e m;have:=Con.edge d k;rw[f.1,f.2]at this;exact this;have:=Con.edge d k;rw[f.1,f.2]at this;exact this.symm
  |symm _ n=>exact n.symm
  |trans _ _ g i=>exact g.trans i
theorem Con.snoc{l:List Edge}{e:Edge}{a b:Int}:Con (l++[e]) a b↔Con l a b\/(Con l a e.1/\Con l e.2.1 b)\/(Con l a e.2.1/\Con l e.1 b):=by
 constructor;intro h;induction h with
  |refl a=>exact .inl (.refl a)
  |edge n k=>rcases AR6.1 k with h|h;exact .inl (.edge n h);simp only[AS2]at h;subst h;exact .inr (.inl ⟨.refl _,.refl _⟩)
  |symm _ p=>
   rcases p with h|⟨c,d⟩|⟨c,d⟩
   exact .inl h.symm;exact .inr (.inr ⟨d.symm,c.symm⟩);exact .inr (.inl ⟨d.symm,c.symm⟩)
  |trans _ _ o i=>
   rcases o with h|⟨c,d⟩|⟨c,d⟩
   rcases i with g|⟨j,f⟩|⟨j,f⟩
   exact .inl (h.trans g);exact .inr (.inl ⟨h.trans j,f⟩);exact .inr (.inr ⟨h.trans j,f⟩);rcases i with g|⟨j,f⟩|⟨j,f⟩
   exact .inr (.inl ⟨c,d.trans g⟩);exact .inr (.inl ⟨c,f⟩);exact .inl (c.trans f);rcases i with g|⟨j,f⟩|⟨j,f⟩
   exact .inr (.inr ⟨c,d.trans g⟩);exact .inl (c.trans f);exact .inr (.inr ⟨c,f⟩)
 have m:∀ {x y},Con l x y->Con (l++[e]) x y:=fun h=>h.mono fun n k=>⟨n,by simp[k],.inl ⟨rfl,rfl⟩⟩
 have k:Con (l++[e]) e.1 e.2.1:=.edge e (by simp);rintro (h|⟨c,d⟩|⟨c,d⟩);exact m h;exact(m c).trans (k.trans (m d));exact(m c).trans (k.symm.trans (m d))
theorem Con.nil{a b:Int}(h:Con [] a b):a=b:=by
 induction h with
  |refl a=>rfl
  |edge e f=>cases f
  |symm _ g=>exact g.symm
  |trans _ _ c d=>exact c.trans d
theorem Con.const{l:List Edge}{f:Int->Int}(h:∀ e∈l,f e.1=f e.2.1){a b:Int}(c:Con l a b):f a=f b:=by
 induction c with
  |refl a=>rfl
  |edge e i=>exact h e i
  |symm _ j=>exact j.symm
  |trans _ _ d g=>exact d.trans g
end Go.Pev.Pl
end
section
section
namespace Go.Pev.Pl
open Tok
def Dv{α:Type}(P:Nat->Bool):Nat->List α->List α
 |_,[]=>[]
 |i,x::xs=>if P i then Dv P (i+1) xs else x::Dv P (i+1) xs
theorem nM{α:Type}(P:Nat->Bool):∀ (xs:List α) (s:Nat),(∀ k,s<=k->P k=false)->Dv P s xs=xs:=by
 intro xs;induction xs with
  |nil=>intro s _;rfl
  |cons x xs a=>intro s h;rw[Dv,h s (ARo _),a (s+1) fun k b=>h k (by omega)];rfl
theorem th{α:Type}(P:Nat->Bool)(i:Nat):∀ (xs:List α) (s:Nat),s<=i->(∀ k,s<=k->P k=decide (k=i))->Dv P s xs=xs.eraseIdx (i-s):=by
 intro xs;induction xs with
  |nil=>intro s _ _;rfl
  |cons x xs a=>intro s c h;rw[Dv,h s (ARo _)];by_cases e:s=i;subst e;rw[nM P xs (s+1) fun k b=>by grind];simp;rw[a (s+1) (by omega) fun k b=>h k (by omega)];rw[ARj e,ARv (by simp),show i-s=(i-(s+1))+1 by omega,ATf]
theorem Yi{α:Type}(P:Nat->Bool)(i j:Nat)(a:i<j):∀ (xs:List α) (s:Nat),s<=i->(∀ k,s<=k->P k=decide (k=i\/k=j))->Dv P s xs=(xs.eraseIdx (j-s)).eraseIdx (i-s):=by
 intro xs;induction xs with
  |nil=>intro s _ _;rfl
  |cons x xs b=>intro s d h;rw[Dv,h s (ARo _)];by_cases e:s=i;subst e;rw[th P j xs (s+1) (by omega) fun k c=>by rw[h k (by omega)];grind];rw[ARk (.inl rfl),ARt rfl,show j-s=(j-(s+1))+1 by omega,ATf,AS3,List.eraseIdx_zero];rfl;rw[b (s+1) (by omega) fun k c=>h k (by omega)];rw[ARj (by omega),ARv (by simp),show j-s=(j-(s+1))+1 by omega,ATf,show i-s=(i-(s+1))+1 by omega,ATf]
theorem nN{α:Type}(P:Nat->Bool):∀ (xs:List α) (b:List α) (k:Nat),(xs.foldl (fun(a:List α×Nat) x=>(if P a.2 then a.1 else a.1++[x],a.2+1)) (b,k)).1=b++Dv P k xs:=by
 intro xs;induction xs with
  |nil=>intro b k;simp[Dv]
  |cons x xs c=>intro b k;rw[ASg,c,Dv];grind
theorem ti{α:Type}(P:Nat->Bool):∀ (xs:List α) (k:Nat),(Dv P k xs).length<=xs.length/\∀ x∈Dv P k xs,x∈xs:=by
 intro xs;induction xs with
  |nil=>intro k;simp[Dv]
  |cons x xs a=>intro k;obtain⟨b,c⟩:=a (k+1);rw[Dv];grind
theorem yH(n:Int)(c:List (List Int))(d:List Int)(g:List (List Int))(u:c.length<1073741824)(E:d.length<1073741824)(F:g.length<1073741824)
  (q:∀ l∈c,l≠[]) (s:∀ r∈g,plain r≠[]) :
  ∃ ys,vL ((n,(c,())),d,g,())=some (n,ys,())/\ys.Perm (Dv (fun k=>decide ((k:Int)∈d)) 0 c++g.map plain)/\ys.Pairwise (fun a b=>¬ hd b<hd a):=by
 rw[jT,da]
 have e:=DY (step:=Ly) (fun i (a:List (List Int)×Nat)=>(d,g,n,c,(0:Int),a.1,c,A2 c,(i:Int),())) c
  (fun x a=>.inl (if decide ((a.2:Int)∈d)then a.1 else a.1++[x],a.2+1)) (fun a=>.inl (g,n,c,(0:Int),a.1,())) (fun i a=>a.2=i/\a.1.length<=i) (by omega)
  (fun i x a hi o ⟨v,G⟩=>by
   refine⟨fun w j => ?_,fun r j=>by cases j⟩
   cases j
   subst v
   rw[Ly,A',A7,ARk hi]
   simp only[BD o,Jy d _ (show d.length<9223372036854775808 by omega)]
   rw[A8 (by omega),Cw (by simp only[A',ARy,ASD];omega)]
   by_cases h:(a.2:Int)∈d
   ·grind
   ·simp only[h,AR8,ASF]
    exact⟨by trivial,by trivial,by grind⟩)
  (fun a _=>by rw[Ly,A',A7,ARj (by omega)]) ([],0) ⟨rfl,by simp⟩
 have y:A6 Ly many (d,g,n,c,(0:Int),[],c,A2 c,(0:Int),())=_:=e;rw[y,B5];have t:(c.foldl (fun(a:List (List Int)×Nat) x=>(if decide ((a.2:Int)∈d)then a.1 else a.1++[x],a.2+1)) ([],0)).1=Dv (fun k=>decide ((k:Int)∈d)) 0 c:=by have:=nN (fun k=>decide ((k:Int)∈d)) c [] 0;grind
 simp only[t];obtain⟨H,z⟩:=ti (fun k=>decide ((k:Int)∈d)) c 0;generalize Dv (fun k=>decide ((k:Int)∈d)) 0 c=rest at *
 have f:=DY (step:=Lx) (fun i (a:List (List Int))=>(n,c,(0:Int),a,g,A2 g,(i:Int),())) g
  (fun x a=>.inl (a++[plain x])) (fun a=>.inl (n,c,(0:Int),a,())) (fun i a=>a.length=rest.length+i) (by omega)
  (fun i x a hi o v=>by
   refine⟨fun w j => ?_,fun r j=>by cases j⟩
   cases j
   rw[Lx,A',A7,ARk hi]
   simp only[BD o,qX]
   rw[A8 (by omega),Cw (by simp only[A',ARy,ASD];omega)]
   exact⟨rfl,by grind⟩)
  (fun a _=>by rw[Lx,A',A7,ARj (by omega)]) rest rfl
 have A:A6 Lx many (n,c,(0:Int),rest,g,A2 g,(0:Int),())=_:=f;rw[A,B5];have m:∀ (l p:List (List Int)),l.foldl (fun a x=>a++[plain x]) p=p++l.map plain:=by
  intro l;induction l with
   |nil=>simp
   |cons x l I=>grind
 simp only[m];obtain⟨ys,J,B,C⟩:=SL.IN (rest++g.map plain) (by grind) (fun x o=>by rcases AR6.1 o with h|h;exact q x (z x h);obtain⟨r,D,rfl⟩:=ASC.1 h;exact s r D)
 refine⟨ys,by grind,B,C.imp fun {a b} h => ?_⟩;simp only[SL.lt,Go.Sort.ltInt,ASf]at h;exact h
def zk(a:List (List Int))(p:List Int):List (List Int):=a.take (a.findIdx fun x => !decide (hd x<hd p))++p::a.drop (a.findIdx fun x => !decide (hd x<hd p))
theorem zj(a:List (List Int))(p:List Int):(zk a p).Perm (p::a):=by rw[zk];refine List.perm_middle.trans ?_;simp
theorem ALA{c:List (List Int)}{p:List Int}(h:c.Pairwise (fun a b=>hd a<hd b))(g:∀ x∈c,hd x≠hd p):(zk c p).Pairwise (fun a b=>hd a<hd b):=by
 rw[zk];have k:∀ x∈c.take (c.findIdx fun x => !decide (hd x<hd p)),hd x<hd p:=by intro x d;obtain⟨j,l,e⟩:=List.mem_take_iff_getElem.1 d;grind
 have hgt:∀ x∈c.drop (c.findIdx fun x => !decide (hd x<hd p)),hd p<hd x:=by
  intro x d;by_cases f:(c.findIdx fun x => !decide (hd x<hd p))<c.length;have m:=List.findIdx_getElem (p:=fun x => !decide (hd x<hd p)) (xs:=c) (w:=f);rw[AST f]at d;have n:¬ hd c[c.findIdx fun x => !decide (hd x<hd p)]<hd p:=by grind
  have o:=g _ (ASj f);rcases AR4.1 d with rfl|d;omega;have i:(c.drop (c.findIdx fun x => !decide (hd x<hd p))).Pairwise (fun a b=>hd a<hd b):=h.sublist (List.drop_sublist _ _);rw[AST f,ASc]at i;grind;grind
 rw[List.pairwise_append,ASc];grind
end Go.Pev.Pl
end
section
namespace Go.Pev.Pl
open Tok
theorem iJ{n u v:Int}(h:okT n (.arc u v)):n<=Nt n u v:=by rw[I4 h];exact(VC h.1 h.2.1).1
def C3(n:Int)(A B:List Int)(u v:Int):List Int:=u::Nt n u v::(Cy B v++Nt n v u::(Cy A u).tail)
theorem Rq{n u v:Int}{A B:List Int}(q:TI n A)(r:TI n B)(j:u∈A)(k:v∈B)(i:In n u)(m:In n v)(hd:Dis n A B):
  TI n (C3 n A B u v)/\Cy A u=u::(Cy A u).tail/\(∀ t,t<n->(t∈C3 n A B u v↔t∈A\/t∈B))/\u≠v/\okT n (.arc u v):=by
 obtain⟨a,s,w,y⟩:=oE q (t:=.ver u) i j;obtain⟨b,z,C,J⟩:=oE r (t:=.ver v) m k;have d:Cy A u=(Tok.ver u::a).map (G_ n):=s;have f:Cy B v=(Tok.ver v::b).map (G_ n):=z;have g:u≠v:=by rintro rfl;exact hd u j i.2.2.2 k
 have e:okT n (.arc u v):=⟨i,m,g⟩
 have D:=(EG j).perm;have o:=(EG k).perm;have c:Cy A u=u::(Cy A u).tail:=by rw[d];rfl
 have h:C3 n A B u v=(Tok.ver u :: .arc u v::(.ver v::b ++ .arc v u::a)).map (G_ n):=by rw[C3,d,f,I4 e,I4 (ML e)];grind
 refine⟨⟨_,h,fun t c => ?_,T.join w C fun x p l => ?_⟩,c,fun t E => ?_,g,e⟩;rcases AR4.1 c with rfl|c;exact i;rcases AR4.1 c with rfl|c;exact e;rcases AR6.1 c with c|c;grind;rcases AR4.1 c with rfl|c;exact ML e;grind;have F:=y _ p;have G:x∈A:=D.mem_iff.2 (by rw[d];exact ASC.2 ⟨_,p,rfl⟩);have H:x∈B:=o.mem_iff.2 (by rw[f];exact ASC.2 ⟨_,l,rfl⟩);exact hd x G F.2.2.2 H;have K:=iJ e;have L:=iJ (ML e);have I:t∈A↔t=u\/t∈(Cy A u).tail:=by grind
 rw[C3,AR4,AR4,AR6,AR4,I,<- o.mem_iff];grind
theorem Qn{n:Int}{a b:List (List Int)}(h:a.Perm b)(c:a.Pairwise (Dis n)):b.Pairwise (Dis n):=(h.pairwise_iff fun {_ _} d=>d.symm).1 c
theorem ANj{n:Int}{c d m:List (List Int)}{A B p:List Int}(h:FR n c)(o:c.Perm (A::B::d))(w:RG n p)(q:∀ t,t<n->(t∈p↔t∈A\/t∈B))(k:m.Perm (p::d))(x:m.Pairwise (fun a b=>hd a<hd b)):FR n m:=by have f:=Qn o h.dis;rw[ASc,ASc]at f;obtain⟨y,z,C⟩:=f;refine⟨h.sz,fun l i => ?_,x,Qn k.symm ?_,fun v s => ?_⟩;rcases AR4.1 (k.mem_iff.1 i)with rfl|i;exact w;exact h.rg l (o.mem_iff.2 (by simp[i]));rw[ASc];refine⟨fun r u t D e => ?_,C⟩;rcases(q t e).1 D with g|g;exact y r (by simp[u]) t g e;exact z r u t g e;obtain⟨l,i,j⟩:=h.cov v s;have:=o.mem_iff.1 i;simp only[AR4]at this;rcases this with rfl|rfl|g;exact⟨p,k.mem_iff.2 (by simp),(q v s.2.2.2).2 (.inl j)⟩;exact⟨p,k.mem_iff.2 (by simp),(q v s.2.2.2).2 (.inr j)⟩;grind
theorem c9(n:Int)(a:List (List Int))(u v:Int)(b:Dom a):asked ((n,(a,())),u,v,())=some (if RF n a then if In n u/\In n v then 0 else 10 else 1,()):=by rw[n7,iH];simp only[Wz n a b.1 b.2,dw];grind
theorem AL5{n:Int}{c:List (List Int)}{u v:Int}{i j:Nat}{A B:List Int}(h:FR n c)(K:In n u)(L:In n v)(hi:c[i]? = some A)(w:c[j]? = some B)(H:u∈A)(I:v∈B)(y:i≠j):
  ∃ M d,bE ((n,(c,())),u,v,())=some (n,M,0,())/\FR n M/\c.Perm (A::B::d)/\M.Perm (plain (C3 n A B u v)::d)/\Dis n A B:=by
 have J:=h.dom;have N:=iK.2 h;have O:=h.rg A (ARu hi);have rB:=h.rg B (ARu w);have X:=(ASU.1 hi).1;have Y:=(ASU.1 w).1;have Z:plc c u=(i:Int):=h.AF0 hi K.2.2.2 H;have pv:plc c v=(j:Int):=h.AF0 w L.2.2.2 I;have f:c.Perm (A::B::(c.eraseIdx (max i j)).eraseIdx (min i j)):=by rcases Nat.lt_or_gt_of_ne y with g|g;rw[Nat.max_eq_right (by omega),AS7 (by omega)];exact TF g hi w;rw[Nat.max_eq_left (by omega),Nat.min_eq_right (by omega)];exact(TF g w hi).trans (List.Perm.swap _ _ _)
 have q:Dis n A B:=by have:=Qn f h.dis;simp_all
 obtain⟨l1,l2,T,huv,ho⟩:=Rq O.2.2.2 rB.2.2.2 H I K L q;obtain⟨o,r⟩:=oH l1;have U:C3 n A B u v=u::Nt n u v::(Cy B v++Nt n v u::(Cy A u).tail):=rfl;have lA:(Cy A u).length<=1000:=by rw[<- (EG H).perm.length_eq];exact O.1.1
 have lB:(Cy B v).length<=1000:=by rw[<- (EG I).perm.length_eq];exact rB.1.1
 have m:((c.eraseIdx (max i j)).eraseIdx (min i j)).Sublist c:=(List.eraseIdx_sublist _ _).trans (List.eraseIdx_sublist _ _);have P:Dv (fun k=>decide ((k:Int)∈[(i:Int),(j:Int)])) 0 c=(c.eraseIdx (max i j)).eraseIdx (min i j):=by rcases Nat.lt_or_gt_of_ne y with g|g;rw[Nat.max_eq_right (by omega),AS7 (by omega)];exact Yi _ i j g c 0 (by omega) fun k _=>decide_eq_decide.2 (by simp only[AR4,AUI,or_false];omega);rw[Nat.max_eq_left (by omega),Nat.min_eq_right (by omega)];exact Yi _ j i g c 0 (by omega) fun k _=>decide_eq_decide.2 (by simp only[AR4,AUI,or_false];omega)
 have hrl:((c.eraseIdx (max i j)).eraseIdx (min i j)).length<=c.length:=m.length_le;generalize (c.eraseIdx (max i j)).eraseIdx (min i j)=d at *;have z:d.Pairwise (fun a b=>hd a<hd b):=h.up.sublist m;have C:∀ l∈d,l≠[]:=fun l D=>(h.rg l (m.subset D)).2.1;have s:=Qn f h.dis;rw[ASc,ASc]at s;have p:∀ x∈d,hd x≠hd (plain (C3 n A B u v)):=by intro x Q e;have R:=LY o;have g2:=(T _ R.2.2.2).1 (r.perm.mem_iff.2 (YS o.2.1));have V:hd (plain (C3 n A B u v))∈x:=e▸YS (C x Q);rcases g2 with g|g;exact s.1 x (by simp[Q]) _ g R.2.2.2 V;exact s.2.1 x Q _ g R.2.2.2 V
 have E:=ALA z p;have F:=zj d (plain (C3 n A B u v));refine⟨zk d (plain (C3 n A B u v)),d,?_,ANj h f o (fun t ht=>by rw[<- r.perm.mem_iff];exact T t ht) F E,f,F,q⟩;obtain⟨ys,W,y2,y3⟩:=yH n c [(i:Int),(j:Int)] [C3 n A B u v] J.1 (by simp) (by simp) (fun l D=>(h.rg l D).2.1) (by simp;exact o.2.1);have S:ys=zk d (plain (C3 n A B u v)):=by refine jq E (y2.trans ?_) y3;grind
 rw[S]at W;rw[W5,UA];have s1:D0 (Cy A u) (0:Int) (1:Int)=some [u]:=by have:=pe (xs:=Cy A u) (l:=0) (h:=1) (by omega) (by grind);grind
 have s2:D0 (Cy A u) (1:Int) (A2 (Cy A u))=some (Cy A u).tail:=by have:=jm (xs:=Cy A u) (l:=1) (by grind);grind
 have d1:HP 0 (A3 (A2 [u])) (Cy A u)=[u]:=by rw[l2];rfl
 have d2:HP 1 (A3 (A2 (Cy A u).tail)) (Cy A u)=(Cy A u).tail:=by rw[HP,A',SJ,AUF,ATa]
 have G:LV ([[u],[Nt n u v],Cy B v,[Nt n v u],(Cy A u).tail],())=some (C3 n A B u v,()):=by rw[TL _ (by simp) (by simp;omega)];simp[C3]
 have ne:((i:Int))≠(j:Int):=by omega
 simp only[c9 n c u v J,N,K,L,and_self,ASR,CG,W3 n c _ J.1 (fun l D=>(J.2 l D).1),Z,pv,ne,ARx,AR8,ARp,BD hi,BD w,zf,gK,O.1,rB.1,H,I,s1,s2,AEU,d1,d2,G,W]
theorem si{n:Int}{a:List (List Int)}{u v:Int}(h:FR n a)(d:In n u)(e:In n v)(f:plc a u=plc a v):
  bE ((n,(a,())),u,v,())=some (n,a,5,()):=by have b:=h.dom;have c:=iK.2 h;rw[W5,UA];simp only[c9 n a u v b,c,d,e,and_self,ASR,CG,W3 n a _ b.1 (fun l g=>(b.2 l g).1),f,ARx,ARp]
end Go.Pev.Pl
end
section
namespace Go.Pev.Pl
open Tok
def PA(c:List (List Int))(a b:Int):Prop:=∃ A∈c,a∈A/\b∈A
structure FC(n:Int)(rings:List (List Int))(l:List Edge):Prop where
 fr:FR n rings
 sam:∀ a b,In n a->In n b->(PA rings a b↔Con l a b)
 arcs:∀ A∈rings,∀ u v,okT n (.arc u v)->Nt n u v∈A->∃ e∈l,(e.1=u/\e.2.1=v)\/(e.1=v/\e.2.1=u)
theorem FR.AE7{n:Int}{c:List (List Int)}(h:FR n c){a b:Int}(g:In n a)(l:In n b):plc c a=plc c b↔PA c a b:=by
 obtain⟨i,A,pa,hi,m,_⟩:=Xk (h.cov a g);obtain⟨j,B,p,f,o,_⟩:=Xk (h.cov b l);rw[pa,p];constructor;intro e;have:i=j:=by omega
 subst this;rw[hi]at f;cases f;exact⟨A,ARu hi,m,o⟩;rintro⟨K,q,r,s⟩;obtain⟨k,d⟩:∃ k:Nat,c[k]? = some K:=by obtain⟨k,d,rfl⟩:=ASs q;exact⟨k,ARs d⟩
 rw[h.uniq hi d g.2.2.2 m r,h.uniq f d l.2.2.2 o s]
theorem FR.one{n:Int}{a:List (List Int)}(h:FR n a){A B:List Int}(b:A∈a)(c:B∈a){v:Int}(d:v<n)(e:v∈A)(f:v∈B):A=B:=by obtain⟨i,hi,rfl⟩:=ASs b;obtain⟨j,g,rfl⟩:=ASs c;have:=h.uniq (ARs hi) (ARs g) d e f;grind
theorem PA.perm{a b:List (List Int)}(h:a.Perm b)(x y:Int):PA a x y↔PA b x y:=by constructor;rintro⟨A,c,d⟩;exact⟨A,h.mem_iff.1 c,d⟩;rintro⟨A,c,d⟩;exact⟨A,h.mem_iff.2 c,d⟩
theorem ABS{n u v x y:Int}{A B:List Int}(e:TI n A)(f:TI n B)(c:u∈A)(d:v∈B)(i:In n u)(j:In n v)(hd:Dis n A B)(b:okT n (.arc x y))(h:Nt n x y∈C3 n A B u v):Nt n x y∈A\/Nt n x y∈B\/(x=u/\y=v)\/(x=v/\y=u):=by obtain⟨_,l,_,k,a⟩:=Rq e f c d i j hd;have m:=(EG c).perm;have o:=(EG d).perm;have g:=iJ b;rw[C3,AR4,AR4,AR6,AR4]at h;rcases h with h|h|h|h|h;grind;rw[I4 b,I4 a]at h;have:=Ql b a h;grind;grind;rw[I4 b,I4 (ML a)]at h;have:=Ql b (ML a) h;grind;grind
theorem ANk{n:Int}{d:List (List Int)}{l:List Edge}{e:Edge}(h:FC n d l)(k:In n e.1)(m:In n e.2.1):
  ∃ z q,bE ((n,(d,())),e.1,e.2.1,())=some (n,z,q,())/\FC n z (l++[e])/\(q=0/\z.length+1=d.length\/q=5/\z=d):=by
 have o:=h.fr;obtain⟨i,A,pu,hi,D,_⟩:=Xk (o.cov _ k);obtain⟨j,B,pv,V,E,_⟩:=Xk (o.cov _ m);have P:=ARu hi;have Q:=ARu V;by_cases R:i=j;have F:plc d e.1=plc d e.2.1:=by omega
 refine⟨d,5,si o k m F,⟨o,fun a b p r => ?_,fun A hA u v W G => ?_⟩,.inr ⟨rfl,rfl⟩⟩;rw[h.sam a b p r,Con.snoc];have X:Con l e.1 e.2.1:=(h.sam _ _ k m).1 ((o.AE7 k m).1 F);constructor;grind;rintro (g|⟨H,I⟩|⟨H,I⟩);exact g;exact H.trans (X.trans I);exact H.trans (X.symm.trans I);obtain⟨C,J,L⟩:=h.arcs A hA u v W G;grind
 ·obtain⟨z,f,q1,q3,Y,S,Z⟩:=AL5 o k m hi V D E R;have gA:=o.rg A P;have gB:=o.rg B Q;obtain⟨l1,l2,l3,huv,W⟩:=Rq gA.2.2.2 gB.2.2.2 D E k m Z;obtain⟨hRG,s⟩:=oH l1;have M:=Y.length_eq;have N:=S.length_eq;simp only[ARy]at M N;refine⟨z,0,q1,⟨q3,fun a b p r => ?_,fun K t x y O G => ?_⟩,.inl ⟨rfl,by omega⟩⟩;rw[PA.perm S,Con.snoc,<- h.sam a b p r,<- h.sam a _ p k,<- h.sam _ b m r,<- h.sam a _ p m,<- h.sam _ b k r];have w:∀ x,In n x->(x∈plain (C3 n A B e.1 e.2.1)↔x∈A\/x∈B):=fun x T=>by rw[<- s.perm.mem_iff];exact l3 x T.2.2.2
  have sA:∀ x,In n x->(PA d x e.1↔x∈A):=fun x T=>by constructor;rintro⟨K,t,J,L⟩;rw[o.one P t k.2.2.2 D L];exact J;intro U;exact⟨A,P,U,D⟩
  have sB:∀ x,In n x->(PA d x e.2.1↔x∈B):=fun x T=>by constructor;rintro⟨K,t,J,L⟩;rw[o.one Q t m.2.2.2 E L];exact J;intro U;exact⟨B,Q,U,E⟩
  have sy:∀ x y,PA d x y↔PA d y x:=fun x y=>⟨fun ⟨K,a,b,c⟩=>⟨K,a,c,b⟩,fun ⟨K,a,b,c⟩=>⟨K,a,c,b⟩⟩
  rw[sA a p,sB a p,sy e.2.1 b,sB b r,sy e.1 b,sA b r];have hs:PA d a b↔(a∈A/\b∈A)\/(a∈B/\b∈B)\/∃ K∈f,a∈K/\b∈K:=by rw[PA.perm Y];simp only[PA,AR4,exists_eq_or_imp]
  have hz:PA (plain (C3 n A B e.1 e.2.1)::f) a b↔((a∈A\/a∈B)/\(b∈A\/b∈B))\/∃ K∈f,a∈K/\b∈K:=by simp only[PA,AR4,exists_eq_or_imp,w a p,w b r]
  grind
  ·have old:∀ K∈d,Nt n x y∈K->∃ C∈l++[e],(C.1=x/\C.2.1=y)\/(C.1=y/\C.2.1=x):=fun K t G=>by obtain⟨C,J,L⟩:=h.arcs K t x y O G;grind
   rcases AR4.1 (S.mem_iff.1 t)with rfl|t
   ·rcases ABS gA.2.2.2 gB.2.2.2 D E k m Z O (s.perm.mem_iff.2 G)with g|g|⟨H,I⟩|⟨H,I⟩
    all_goals grind
   grind
theorem uy{N:Nat}(d:1<=N)(e:N<=64):FC (N:Int) (C2 N) []:=by
 have f:∀ A∈C2 N,∃ k:Nat,k<N/\A=[(k:Int)]:=fun A c=>by simp only[C2,ASC,ASW]at c;grind
 have g:∀ k,k<N->In (N:Int) (k:Int):=fun k i=>⟨by omega,by omega,by omega,by omega⟩
 refine⟨⟨⟨by omega,by omega⟩,fun l n => ?_,?_,?_,fun v j => ?_⟩,fun a b m s => ?_,fun A c u v o p => ?_⟩;obtain⟨k,i,rfl⟩:=f l n;refine⟨⟨by simp,fun x w => ?_,by simp⟩,by simp,rfl,(AQH (N:Int) k).2 (g k i)⟩;grind;rw[C2,ATU];exact List.pairwise_lt_range.imp fun h=>by simp only[hd,AT0];omega
 rw[C2,ATU];exact List.pairwise_lt_range.imp fun {a b} h t y _ q=>by grind
 obtain⟨k,rfl⟩:=ARq j.2.2.1;have:=j.2.2.2;exact⟨[(k:Int)],by simp only[C2,ASC,ASW];grind,by simp⟩;constructor;rintro⟨A,c,d,e⟩;obtain⟨k,_,rfl⟩:=f A c;simp only[AS2]at d e;rw[d,e];exact .refl _;intro r;have:=r.nil;subst this;obtain⟨k,rfl⟩:=ARq m.2.2.1;have:=m.2.2.2;exact⟨[(k:Int)],by simp only[C2,ASC,ASW];grind,by simp,by simp⟩;obtain⟨k,i,rfl⟩:=f A c;simp only[AS2]at p;have:=iJ o;omega
theorem nF(l:List Edge)(g:l.length<1073741824):ends (l,())=some (l.flatMap fun e=>[e.1,e.2.1],()):=by
 rw[xH,tQ]
 have e:=DY (step:=Qk) (fun i (a:List Int)=>(a,l,A2 l,(i:Int),())) l (fun x a=>.inl (a++[x.1,x.2.1])) (fun a=>.inl (a,())) (fun i a=>a.length=2*i) (by omega)
  (fun i x a hi d h=>by
   refine⟨fun j c => ?_,fun r c=>by cases c⟩
   cases c
   rw[Qk,A',A7,ARk hi]
   simp only[BD d]
   rw[A8 (by omega),Cw (by simp only[A',ARy,ASD];omega)]
   exact⟨rfl,by grind⟩)
  (fun a _=>by rw[Qk,A',A7,ARj (by omega)]) [] rfl
 have f:A6 Qk many ([],l,A2 l,(0:Int),())=_:=e;rw[f,B5];have k:∀ (xs:List Edge) (b:List Int),xs.foldl (fun a x=>a++[x.1,x.2.1]) b=b++xs.flatMap fun e=>[e.1,e.2.1]:=by
  intro xs;induction xs with
   |nil=>simp
   |cons x xs m=>grind
 grind
theorem AIR(n:Int)(l:List Edge):((l.flatMap fun e=>[e.1,e.2.1]).all fun v=>decide (In n v))=l.all fun e=>decide (In n e.1/\In n e.2.1):=by simp
theorem AIQ(l:List Edge):(l.flatMap fun e=>[e.1,e.2.1]).length=2*l.length:=by
 induction l with
  |nil=>rfl
  |cons e l a=>grind
theorem sg{n:Int}(l:List Edge)(w:l.length<1073741824)(o:∀ e∈l,In n e.1/\In n e.2.1):
  ∀ (m i cnt:Nat) (a:List (List Int)) (b:List Bool),i+m=l.length->b.length=i->FC n a (l.take i)->m<cnt ->
  ∃ g d,BC G' cnt (n,a,(0:Int),b,l,(l.length:Int),(i:Int),())=some (.inl (n,g,(0:Int),d,()))/\FC n g l/\d.length=l.length:=by
 intro m;induction m with
  |zero=>
   intro i cnt a b hi j h p;obtain⟨cnt,rfl⟩:∃ c,cnt=c+1:=⟨cnt-1,by omega⟩
   rw[ASq (by omega)]at h;refine⟨a,b,?_,h,by omega⟩;rw[BC,G',A7,ARj (by omega)]
  |succ m r=>
   intro i cnt a b hi j h p;obtain⟨cnt,rfl⟩:∃ c,cnt=c+1:=⟨cnt-1,by omega⟩
   have f:i<l.length:=by omega
   have s:l[i]? = some l[i]:=ARs f;obtain⟨t,u⟩:=o _ (ASj f);obtain⟨g,q,v,k,_⟩:=ANk h t u;rw[BC,G',A7,ARk f];simp only[BD s,v];rw[A8 (by omega),Cw (by simp only[A',ARy,ASD];omega)];rw[<- ATd f]at k;exact r (i+1) cnt g _ (by omega) (by simp[Ym,j]) k (by omega)
theorem gN(k:Int)(l:List Edge)(j:Sz k)(d:l.length<1073741824):
  ((∀ e∈l,In k e.1/\In k e.2.1)/\∃ a,fof (k,l,())=some ((k,(a,())),0,())/\FC k a l) \/
  (¬ (∀ e∈l,In k e.1/\In k e.2.1)/\fof (k,l,())=some ((0,([],())),10,())):=by
 have f:9223372036854775808<many:=by simp only[many];omega
 rw[AID,AIE];have n:UY k=(k,C2 k.toNat,0,()):=by rw[UY,ARt j]
 obtain⟨r,s⟩:=j;obtain⟨N,rfl⟩:=ARq (show 0<=k by omega);have m:=uy (N:=N) (by omega) (by omega);have o:=m.fr.dom;have g:=iK.2 m.fr;have p:=AIQ l;have b:O0 (((N:Int),(C2 N,())),l.flatMap fun e=>[e.1,e.2.1],())=some (if ∀ e∈l,In (N:Int) e.1/\In (N:Int) e.2.1 then 0 else 10,()):=by rw[tF _ _ _ o (by omega),AIR,AP9,ARt g];grind
 simp only[yV,n,ASQ,CH,ARp];rw[ca,YX,TH,O2];by_cases c:∀ e∈l,In (N:Int) e.1/\In (N:Int) e.2.1;refine .inl ⟨c,?_⟩;rw[ARt c]at b;obtain⟨t,h,q,u,_⟩:=sg l d c l.length 0 many (C2 N) [] (by omega) rfl (by grind) (by omega);have i:BC G' many ((N:Int),C2 N,(0:Int),[],l,(l.length:Int),(0:Int),())=_:=q;simp only[nF l d,b,CH,ARp,Bj,A',i];grind;refine .inr ⟨c,?_⟩;rw[ARv c]at b;simp only[nF l d,b,CG];rfl
end Go.Pev.Pl
end
section
namespace Go.Pev.Pl
open Tok
def cl(out:List Int)(v:Int):Int:=out.getD v.toNat 0
def CI(N:Nat)(l:List Edge)(out:List Int):Prop:=out.length=N/\∀ k,k<N->0<=out.getD k 0/\out.getD k 0<=(k:Int)/\Con l (k:Int) (out.getD k 0)
theorem vS:∀ (l:List Int) (k:Nat) (x:Int),k<l.length->(l.set k x).sum=l.sum-l.getD k 0+x:=by
 intro l;induction l with
  |nil=>simp
  |cons y l a=>
   intro k x h;cases k with
    |zero=>grind
    |succ k=>grind
theorem OH{N:Nat}{l:List Edge}{out:List Int}(h:CI N l out)(e:N<=64):0<=out.sum/\out.sum<=4096:=by
 obtain⟨f,g⟩:=h;have a:∀ (xs:List Int),(∀ x∈xs,0<=x/\x<=64)->0<=xs.sum/\xs.sum<=64*(xs.length:Int):=by
  intro xs;induction xs with
   |nil=>simp
   |cons x xs b=>intro h;have i:=b fun y c=>h y (ASh _ c);have j:=h x (by simp);grind
 have:=a out fun x d=>by obtain⟨k,m,rfl⟩:=ASs d;grind
 omega
theorem AQi(N:Nat)(l:List Edge)(V:l.length<1073741824)(L:∀ e∈l,In (N:Int) e.1/\In (N:Int) e.2.1):
  ∀ (m i cnt:Nat) (out:List Int) (d:Bool),i+m=l.length->CI N l out->m<cnt ->
  ∃ b a,BC Fk cnt ((N:Int),l,out,d,(i:Int),())=some (.inl ((N:Int),l,b,a,()))/\CI N l b /\
   ((a=d/\b=out/\∀ e∈l.drop i,cl out e.1=cl out e.2.1)\/(a=true/\b.sum<out.sum)):=by
 intro m;induction m with
  |zero=>
   intro i cnt out d hi h M;obtain⟨cnt,rfl⟩:∃ c,cnt=c+1:=⟨cnt-1,by omega⟩
   refine⟨out,d,?_,h,.inl ⟨rfl,rfl,?_⟩⟩;rw[BC,Fk,A',A7,ARj (by omega)];grind
  |succ m C=>
   intro i cnt out d hi h M;obtain⟨cnt,rfl⟩:∃ c,cnt=c+1:=⟨cnt-1,by omega⟩
   have j:i<l.length:=by omega
   have O:l[i]? = some l[i]:=ARs j;have D:=ASj j;have t:l.drop i=l[i]::l.drop (i+1):=AST j;rw[BC,Fk,A',A7,ARk j];simp only[BD O];rw[t,A8 (by omega)];generalize l[i]=e at *;obtain⟨w,x⟩:=L e D;have f:=Con.edge e D;obtain⟨W,ev,P⟩:=e;simp only at w x f |-;obtain⟨u,rfl⟩:=ARq w.2.2.1;obtain⟨v,rfl⟩:=ARq x.2.2.1;have E:u<N:=by have:=w.2.2.2;omega
   have F:v<N:=by have:=x.2.2.2;omega
   have p:u<out.length:=by rw[h.1];exact E
   have y:v<out.length:=by rw[h.1];exact F
   rw[BP,ARj (by omega)];simp only[];rw[BP,ARj (by omega)];simp only[];rw[Bf,ARj (by omega)];simp only[];rw[Bf,ARj (by omega)];simp only[DZ (0:Int) p,DZ (0:Int) y,LS,Jx,CG];by_cases z:out.getD u 0=out.getD v 0;rw[ARk z];obtain⟨b,a,G,H,I⟩:=C (i+1) cnt out d (by omega) h (by omega);refine⟨b,a,G,H,?_⟩;rcases I with⟨Q,R,X⟩|g;refine .inl ⟨Q,R,fun Y q => ?_⟩;rcases AR4.1 q with rfl|q;simpa [cl]using z;grind;grind;rw[ARj z];have S:u≠v:=by grind
   have r:Cn (out.getD u 0) (out.getD v 0)=if out.getD v 0<out.getD u 0 then out.getD v 0 else out.getD u 0:=rfl
   generalize T:Cn (out.getD u 0) (out.getD v 0)=low at *;have n:v<(out.set u low).length:=by grind
   simp only[DZ (0:Int) n];have Z:=h.2 u E;have A:=h.2 v F;have s:∀ k,k<N->((out.set u low).set v low).getD k 0=if k=u\/k=v then low else out.getD k 0:=by grind
   have o:0<=low/\low<=(u:Int)/\low<=(v:Int)/\Con l (u:Int) low:=by rw[r];split;exact⟨A.1,by omega,A.2.1,f.trans A.2.2⟩;grind
   have U:CI N l ((out.set u low).set v low):=by refine⟨by simp[h.1],fun k J => ?_⟩;rw[s k J];split;rename_i B;rcases B with rfl|rfl;grind;exact⟨o.1,o.2.2.1,f.symm.trans o.2.2.2⟩;exact h.2 k J
   have K:((out.set u low).set v low).sum<out.sum:=by rw[vS _ _ _ n,vS _ _ _ p];grind
   obtain⟨b,a,G,H,I⟩:=C (i+1) cnt _ true (by omega) U (by omega);grind
theorem AOY(N:Nat)(i:N<=64)(l:List Edge)(n:l.length<1073741824)(o:∀ e∈l,In (N:Int) e.1/\In (N:Int) e.2.1):
  ∀ (m cnt:Nat) (out:List Int),out.sum.toNat=m->CI N l out->m+1<cnt ->
  ∃ a,BC Hk cnt ((N:Int),l,out,true,())=some (.inl (a,()))/\CI N l a/\∀ e∈l,cl a e.1=cl a e.2.1:=by
 have b:9223372036854775808<many:=by simp only[many];omega
 intro m;induction m using Nat.strongRecOn with
  |_ m p=>
   intro cnt out s h t;obtain⟨cnt,rfl⟩:∃ c,cnt=c+1:=⟨cnt-1,by omega⟩
   rw[BC,Hk];obtain⟨a,d,q,j,r⟩:=AQi N l n o l.length 0 many out false (by omega) h (by omega);have f:BC Fk many ((N:Int),l,out,false,(0:Int),())=_:=q;simp only[Bj,f];rcases r with⟨g,k,u⟩|⟨g,k⟩
   subst g k;obtain⟨cnt,rfl⟩:∃ c,cnt=c+1:=⟨cnt-1,by omega⟩
   rw[BC,Hk];grind;subst g;have v:=OH h i;have w:=OH j i;exact p a.sum.toNat (by omega) cnt a rfl j (by omega)
structure I8(n:Int)(l:List Edge)(out:List Int):Prop where
 len:(out.length:Int)=n
 same:∀ a b,In n a->In n b->(cl out a=cl out b↔Con l a b)
 isin:∀ a,In n a->In n (cl out a)
 con:∀ a,In n a->Con l a (cl out a)
 least:∀ a b,In n a->In n b->Con l a b->cl out a<=b
theorem D'(n:Int)(l:List Edge)(x:Sz n)(y:l.length<1073741824)(z:∀ e∈l,In n e.1/\In n e.2.1):∃ out,Gb (n,l,())=some (out,())/\I8 n l out:=by
 have j:9223372036854775808<many:=by simp only[many];omega
 obtain⟨A,B⟩:=x;obtain⟨N,rfl⟩:=ARq (show 0<=n by omega);rw[Qw,M1];have o:∀ (m k cnt:Nat),k+m=N->m<cnt->BC Fl cnt ((N:Int),l,(List.range k).map (fun(k:Nat)=>(k:Int)),(k:Int),())=some (.inl ((N:Int),l,(List.range N).map (fun(k:Nat)=>(k:Int)),())):=by
  intro m;induction m with
   |zero=>
    intro k cnt q C;obtain⟨cnt,rfl⟩:∃ c,cnt=c+1:=⟨cnt-1,by omega⟩
    have:k=N:=by omega
    subst this;rw[BC,Fl,A7,ARj (by omega)]
   |succ m D=>
    intro k cnt q C;obtain⟨cnt,rfl⟩:∃ c,cnt=c+1:=⟨cnt-1,by omega⟩
    have g:=D (k+1) cnt (by omega) (by omega);rw[ASV,ATy]at g;rw[BC,Fl,A7,ARk (by omega)];simp only[];rw[A8 (by omega),Cw (by simp only[A',ARy,ASD,ASZ,AR2];omega)];exact g
 have E:=o N 0 many (by omega) (by omega);have p:BC Fl many ((N:Int),l,[],(0:Int),())=_:=E;have r:CI N l ((List.range N).map (fun(k:Nat)=>(k:Int))):=by
  refine⟨by simp,fun k q => ?_⟩;have:((List.range N).map (fun(k:Nat)=>(k:Int))).getD k 0=(k:Int):=by grind
  rw[this];exact⟨by omega,by omega,.refl _⟩
 have G:=OH r (by omega);obtain⟨out,F,s,t⟩:=AOY N (by omega) l y z _ many _ rfl r (by omega);simp only[Bj,p,F];have d:∀ a,In (N:Int) a->0<=cl out a/\cl out a<=a/\Con l a (cl out a):=by intro a i;obtain⟨k,rfl⟩:=ARq i.2.2.1;have:=s.2 k (by have:=i.2.2.2;omega);simpa [cl]using this
 refine⟨out,rfl,by rw[s.1],fun a b f u=>⟨fun h => ?_,fun h=>h.const t⟩,fun a f => ?_,fun a f=>(d a f).2.2,fun a b f u h => ?_⟩;have v:=(d a f).2.2;have w:=(d b u).2.2;rw[<- h]at w;exact v.trans w.symm;have:=d a f;have H:=f.2.2.2;exact⟨A,B,by omega,by omega⟩;have v:cl out a=cl out b:=h.const t;grind
end Go.Pev.Pl
end
end
section
namespace Go.Pev.Pl
def Low(l:List Edge)(k:Nat):Prop:=∀ j:Nat,j<k->¬ Con l (j:Int) (k:Int)
noncomputable def AL4(l:List Edge)(k:Nat):Bool:=@decide (Low l k) (Classical.propDecidable _)
theorem AHC(l:List Edge)(k:Nat):AL4 l k=true↔Low l k:=by unfold AL4;simp
noncomputable def cc(N:Nat)(l:List Edge):Nat:=(List.range N).countP (AL4 l)
noncomputable def ARI(l:List Edge)(a b:Int):Bool:=@decide (Con l a b) (Classical.propDecidable _)
theorem Con.sub{l d:List Edge}(h:∀ e∈l,e∈d){a b:Int}(c:Con l a b):Con d a b:=c.mono fun e f=>⟨e,h e f,.inl ⟨rfl,rfl⟩⟩
theorem Con.cut{l g:List Edge}(h:∀ e∈l,Con g e.1 e.2.1){a b:Int}(c:Con l a b):Con g a b:=by
 induction c with
  |refl a=>exact .refl a
  |edge e j=>grind
  |symm _ i=>exact i.symm
  |trans _ _ d f=>exact d.trans f
theorem ARL(N:Nat)(l:List Edge):cc N l<=N:=by unfold cc;have:=List.countP_le_length (p:=AL4 l) (l:=List.range N);grind
def InE(N:Nat)(e:Edge):Prop:=(0<=e.1/\e.1<(N:Int))/\(0<=e.2.1/\e.2.1<(N:Int))
noncomputable def gfl:List Edge->List Edge->List Bool
 |_,[]=>[]
 |b,x::xs=>(!ARI b x.1 x.2.1)::gfl (b++[x]) xs
def Fo(N:Nat)(l:List Edge):Prop:=cc N l+l.length=N
abbrev Tie:=Int×Int×Int×Bool×Unit
abbrev zT:Tie:=(0,0,0,false,())
def ahead(p x:Tie):Prop:=p.1<x.1\/(p.1=x.1/\p.2.1<x.2.1)
instance (p x:Tie):Decidable (ahead p x):=inferInstanceAs (Decidable (_\/_))
def ed(t:Tie):Edge:=(t.1,t.2.1,())
def trk(a:List Tie)(k:Int):List Edge:=(a.filter fun t=>t.2.2.2.1&&decide (k<=t.2.2.1)).map ed
theorem ALv{f:List Tie}{k:Int}{e:Edge}:e∈trk f k↔∃ t∈f,t.2.2.2.1=true/\k<=t.2.2.1/\ed t=e:=by unfold trk;simp only[ASC,AS8,ARl,ARm];constructor;rintro⟨t,⟨a,b,c⟩,d⟩;exact⟨t,a,b,c,d⟩;rintro⟨t,a,b,c,d⟩;exact⟨t,⟨a,b,c⟩,d⟩
noncomputable def csz(N:Nat)(l:List Edge)(v:Int):Nat:=(List.range N).countP fun(w:Nat)=>ARI l v (w:Int)
def AOx(top:Int)(t:Tie):Tie:=(t.1,t.2.1,min top (t.2.2.1+1),t.2.2.2.1,())
def both(S:Int->Bool)(t:Tie):Bool:=S t.1&&S t.2.1
def ARH(S:Int->Bool)(t:Tie):Prop:=S t.1≠S t.2.1
instance (S:Int->Bool)(t:Tie):Decidable (ARH S t):=inferInstanceAs (Decidable (_≠_))
def rB(S:Int->Bool)(top i:Int)(t:Tie):Tie:=if t.2.2.1=i/\both S t=true then AOx top t else t
section
variable {N:Nat} {top:Int} {O:List Tie} {S:Int->Bool} {i:Int} {c:Int}
variable (hS:∀ a b,Con (trk O i) a b->S a=S b)
include hS
end
theorem pI(A B:List Tie)(k:Int):trk (A++B) k=trk A k++trk B k:=by unfold trk;rw[ATh,ATy]
structure Snd(N:Nat)(top:Int)(O:List Tie):Prop where
 lvl:∀ x∈O,0<=x.2.2.1/\x.2.2.1<=top
 ins:∀ x∈O,InE N (ed x)
 fo:Fo N (trk O 0)
 lie:∀ x∈O,x.2.2.2.1=false->Con (trk O x.2.2.1) x.1 x.2.1
 halv:∀ k:Nat,(k:Int)<=top->∀ v:Nat,v<N->csz N (trk O k) v<=max 1 (N/2 ^ k)
structure ARM(N:Nat)(top:Int)(t:Edge)(j:Int)(O:List Tie):Prop where
 lvl:∀ x∈O,0<=x.2.2.1/\x.2.2.1<=top
 ins:∀ x∈O,InE N (ed x)
 it:InE N t
 fo:Fo N (trk O 0++[t])
 lie1:∀ x∈O,x.2.2.2.1=false->j<=x.2.2.1->Con (trk O x.2.2.1) x.1 x.2.1
 lie2:∀ x∈O,x.2.2.2.1=false->x.2.2.1<j->Con (trk O x.2.2.1++[t]) x.1 x.2.1
 halv:∀ k:Nat,(k:Int)<=top->∀ v:Nat,v<N->csz N (trk O k) v<=max 1 (N/2 ^ k)
 halt:∀ k:Nat,(k:Int)<j->(k:Int)<=top->∀ v:Nat,v<N->csz N (trk O k++[t]) v<=max 1 (N/2 ^ k)
structure AQK(N:Nat)(t:Edge)(i:Nat)(O:List Tie)(S:Int->Bool)(c:Nat):Prop where
 cN:c<N
 at_:t.1=(c:Int)\/t.2.1=(c:Int)
 side:∀ w:Nat,w<N->(S (w:Int)=true↔Con (trk O i) (c:Int) (w:Int))
 less:2*csz N (trk O i) (c:Int)<=csz N (trk O i) t.1+csz N (trk O i) t.2.1
section
variable {N:Nat} {top:Int} {t:Edge} {O:List Tie} {S:Int->Bool} {i c:Nat}
variable (hG:ARM N top t ((i:Int)+1) O) (hit:(i:Int)<=top) (hL:AQK N t i O S c)
include hG
include hit hL
include hL
end
end Go.Pev.Pl
end
section
section
namespace Go.Pev.Pl
structure UF(N:Nat)(s:List Int)(c:Int->Int):Prop where
 len:s.length=N
 lo:∀ k,k<N->0<=s.getD k 0/\s.getD k 0<=(k:Int)
 par:∀ k,k<N->c (s.getD k 0)=c (k:Int)
 root:∀ k,k<N->s.getD k 0=(k:Int)->c (k:Int)=(k:Int)
 le:∀ k,k<N->0<=c (k:Int)/\c (k:Int)<=(k:Int)
theorem XM{s:List Int}{k:Nat}(x:Int)(h:k<s.length)(j:Nat):(s.set k x).getD j 0=if j=k then x else s.getD j 0:=by grind
theorem UF.idem{N:Nat}{s:List Int}{c:Int->Int}(h:UF N s c):∀ (m k:Nat),k<=m->k<N->c (c (k:Int))=c (k:Int):=by
 intro m;induction m with
  |zero=>intro k b a;have:=h.le k a;grind
  |succ m g=>
   intro k b a;have d:=h.lo k a;by_cases f:s.getD k 0=(k:Int)
   have e:=h.root k a f;rw[e,e];obtain⟨j,i⟩:=ARq d.1;have l:=h.par k a;grind
theorem UF.top{N:Nat}{s:List Int}{c:Int->Int}(h:UF N s c){k:Nat}(d:k<N):s.getD (c (k:Int)).toNat 0=c (k:Int):=by
 have e:=h.le k d;obtain⟨j,f⟩:=ARq e.1;have hi:=h.idem k k (ARo _) d;rw[f]at hi |-;have a:j<N:=by omega
 have g:=h.lo j a;have l:=h.par j a;obtain⟨i,b⟩:=ARq g.1;rw[b]at l;have m:=h.le i (by omega);grind
theorem OJ{N:Nat}{c:Int->Int}(F:N<=64):∀ {s:List Int} (_:UF N s c) {v:Nat} (_:v<N),∃ a,RW (s,(v:Int),())=some (a,c (v:Int),())/\UF N a c/\∀ j,j<N->s.getD j 0=c (j:Int)->a.getD j 0=c (j:Int):=by
 intro s B v C;rw[bT,XI]
 obtain⟨r,e,h⟩:=sv (step:=RV)
  (fun st=>∃ (a:List Int) (w:Nat),st=(a,(w:Int),())/\w<N/\UF N a c/\c (w:Int)=c (v:Int)/\∀ j,j<N->s.getD j 0=c (j:Int)->a.getD j 0=c (j:Int))
  (fun r=>∃ a,r = .inl (a,c (v:Int),())/\UF N a c/\∀ j,j<N->s.getD j 0=c (j:Int)->a.getD j 0=c (j:Int)) (fun st=>st.2.1.toNat)
  (fun st n=>by
   obtain⟨a,w,rfl,m,d,z,f⟩:=n
   have G:=d.len
   have D:=d.lo w m
   rw[RV]
   simp only[DZ 0 (show w<a.length by omega),LS,CG]
   by_cases o:a.getD w 0=(w:Int)
   ·right
    rw[ARk o]
    refine⟨_,rfl,a,?_,d,f⟩
    rw[<- z,d.root w m o]
   ·left
    rw[ARj o]
    obtain⟨p,t⟩:=ARq D.1
    have g:p<N:=by omega
    have E:=d.lo p g
    obtain⟨q,u⟩:=ARq E.1
    have x:q<N:=by omega
    simp only[ASF,t,DZ 0 (show p<a.length by omega),LS,Jx,u]
    have l:(a.set w (q:Int)).length=N:=by grind
    have b:=fun j=>XM (q:Int) (show w<a.length by omega) j
    simp only[DZ 0 (show w<(a.set w (q:Int)).length by omega),b,ASR]
    refine⟨_,rfl,⟨_,q,rfl,x,?_,?_,?_⟩,?_⟩
    ·refine⟨l,fun k f => ?_,fun k f => ?_,fun k f i => ?_,d.le⟩
     ·rw[b]
      by_cases e:k=w
      ·omega
      ·rw[ARv e];exact d.lo k f
     ·rw[b]
      by_cases e:k=w
      ·subst e
       rw[ARt rfl,<- u,d.par p g,<- t,d.par k m]
      ·rw[ARv e];exact d.par k f
     ·rw[b]at i
      by_cases e:k=w
      ·omega
      ·rw[ARv e]at i;exact d.root k f i
    ·rw[<- z,<- u,d.par p g,<- t,d.par w m]
    ·intro j A y
     rw[b]
     by_cases e:j=w
     ·subst e
      rw[ARt rfl]
      have:=f j A y
      have H:=d.top A
      simp_all
     grind
    grind)
  (s,(v:Int),()) ⟨s,v,rfl,C,B,rfl,fun _ _ h=>h⟩ (by simp only[many];omega)
 grind
theorem fk(a b:Int):Cn a b=min a b:=by unfold Cn;omega
theorem U'(a b:Int):imax a b=max a b:=by unfold imax;omega
theorem E4{N i x:Nat}(h:(List.range N)[i]? = some x):x=i:=by grind
def kR(c:Int->Int)(u v:Int):Int->Int:=fun x=>if c x=max (c u) (c v)then min (c u) (c v)else c x
theorem yr{N:Nat}(n:N<=64){c:Int->Int}{s:List Int}(q:UF N s c){u v:Nat}(i:u<N)(l:v<N):∃ o b,vf (s,(u:Int),(v:Int),())=some (o,b,())/\UF N o (kR c u v):=by
 obtain⟨C,r,t,_⟩:=OJ n q i;obtain⟨p,w,d,_⟩:=OJ n t l;rw[jt,eG];simp only[r,w,fk,U'];have D:=d.le u i;have E:=d.le v l;have F:=d.idem u u (ARo _) i;have G:=d.idem v v (ARo _) l;obtain⟨M,y⟩:=ARq (show 0<=max (c (u:Int)) (c (v:Int)) by omega);obtain⟨m,z⟩:=ARq (show 0<=min (c (u:Int)) (c (v:Int)) by omega);have A:M<N:=by omega
 have B:m<N:=by omega
 have H:=d.len;have I:c (M:Int)=(M:Int):=by grind
 have J:c (m:Int)=(m:Int):=by grind
 rw[y,z];simp only[DZ 0 (show M<p.length by omega),Jx];refine⟨_,_,rfl,?_⟩;have a:=fun j=>XM (m:Int) (show M<p.length by omega) j;have f:∀ x,kR c u v x=if c x=(M:Int)then(m:Int)else c x:=by intro x;unfold kR;omega
 refine⟨by grind,fun k g => ?_,fun k g => ?_,fun k g h => ?_,fun k g => ?_⟩;rw[a];by_cases e:k=M;omega;rw[ARv e];exact d.lo k g;rw[a,f,f];by_cases e:k=M;grind;rw[ARv e,d.par k g];rw[a]at h;rw[f];by_cases e:k=M;grind;rw[ARv e]at h;have K:=d.root k g h;omega;rw[f];have:=d.le k g;omega
theorem qP(N:Nat)(h:N<=64):XX ((N:Int),())=some ((List.range N).map fun(k:Nat)=>(k:Int),()):=by
 rw[bm,XW];have c:CC (N:Int)=true:=(Ei _).2 (by omega);rw[c,Dt,ARk (ARo _)];simp only[ASJ];have f:C5 (A3 (N:Int)) (0:Int)=List.replicate N 0:=by simp[C5,A3]
 rw[f]
 have e:=DY (step:=KC) (fun i (a:List Int)=>(a,(N:Int),(i:Int),())) (List.range N) (fun(k:Nat) a=>.inl (a.set k (k:Int))) (fun a=>.inl (a,())) (fun i a=>a.length=N) (by grind)
  (fun i x a hi g n=>by
   refine⟨fun o b => ?_,fun r b=>by cases b⟩
   cases b
   have:=E4 g
   subst this
   rw[AR2]at hi
   rw[KC,A7,ARk hi]
   simp only[DZ 0 (show x<a.length by omega),Jx]
   rw[A8 (by omega)]
   grind)
  (fun a _=>by rw[KC,AR2,A7,ARj (by omega)]) (List.replicate N 0) (by simp)
 have j:A6 KC many (List.replicate N 0,(N:Int),(0:Int),())=_:=e;rw[show A2 (List.replicate N (0:Int))=(N:Int) by simp[A2]];rw[j,B5];have l:∀ M,M<=N->(List.range M).foldl (fun(a:List Int) (k:Nat)=>a.set k (k:Int)) (List.replicate N 0)=((List.range M).map fun(k:Nat)=>(k:Int))++List.replicate (N-M) 0:=by
  intro M;induction M with
   |zero=>simp
   |succ M m=>
    intro p;rw[ASV,List.foldl_append,m (by omega)];simp only[ASg,List.foldl_nil,ATy,ASE,ATJ];rw[List.set_append_right _ _ (by simp)];obtain⟨d,hd⟩:∃ d,N-M=d+1:=⟨N-M-1,by omega⟩
    rw[hd,show N-(M+1)=d by omega];simp[List.replicate_succ]
 grind
theorem AJn(N:Nat):UF N ((List.range N).map fun(k:Nat)=>(k:Int)) (fun x=>x):=by
 have b:∀ k,k<N->((List.range N).map fun(k:Nat)=>(k:Int)).getD k 0=(k:Int):=by grind
 exact⟨by simp,fun k a=>by grind,fun k a=>b k a,fun k a _=>rfl,fun k a=>by omega⟩
def dD(N:Nat)(c:Int->Int)(l:List Edge):Prop:=∀ a b,In (N:Int) a->In (N:Int) b->(c a=c b↔Con l a b)
theorem dD.snoc{N:Nat}{c:Int->Int}{l:List Edge}{e:Edge}(h:dD N c l)(g:In (N:Int) e.1)(i:In (N:Int) e.2.1):dD N (kR c e.1 e.2.1) (l++[e]):=by intro a b d f;rw[Con.snoc,<- h a b d f,<- h a _ d g,<- h _ b i f,<- h a _ d i,<- h _ b g f];unfold kR;omega
theorem gV{N:Nat}(I:1<=N)(A:N<=64)(l:List Edge)(J:l.length<1073741824)(o:∀ e∈l,In (N:Int) e.1/\In (N:Int) e.2.1):
  ∃ s f c,Qm (l,(List.range N).map (fun(k:Nat)=>(k:Int)),())=some (s,f,())/\UF N s c/\dD N c l:=by
 rw[TJ,O3]
 have p:∀ (m i n:Nat) (s:List Int) (f:List Bool) (c:Int->Int),l.length-i=m->i<=l.length->m<n->f.length=i->UF N s c->dD N c (l.take i) ->
   ∃ j q c',BC HA n (s,f,l,A2 l,(i:Int),())=some (.inl (j,q,()))/\UF N j c'/\dD N c' l:=by
  intro m
  induction m with
  |zero=>
   intro i n s f c B hi C y r t
   obtain⟨n,rfl⟩:∃ k,n=k+1:=⟨n-1,by omega⟩
   have e:i=l.length:=by omega
   subst e
   rw[BC,HA,A',A7,ARj (by omega)]
   grind
  |succ m D=>
   intro i n s f c B hi C y r t
   obtain⟨n,rfl⟩:∃ k,n=k+1:=⟨n-1,by omega⟩
   have d:i<l.length:=by omega
   have z:l[i]? = some l[i]:=by simp
   obtain⟨E,F⟩:=o l[i] (ASj d)
   obtain⟨_,_,G,K⟩:=E
   obtain⟨_,_,H,L⟩:=F
   obtain⟨u,w⟩:=ARq G
   obtain⟨v,x⟩:=ARq H
   obtain⟨j,b,e,g⟩:=yr A r (u:=u) (v:=v) (by omega) (by omega)
   rw[BC,HA,A',A7,ARk d]
   simp only[BD z,w,x,e,A']
   rw[Cw (by grind),A8 (by omega)]
   refine D (i+1) n j _ _ (by omega) (by omega) (by omega) (by rw[Ym,AR7,y];rfl) g ?_
   rw[AUC,z]
   have:=t.snoc (e:=l[i]) (o l[i] (ASj d)).1 (o l[i] (ASj d)).2
   grind
 obtain⟨s,f,c,e,r,t⟩:=p l.length 0 many _ [] _ rfl (ATX _) (by simp only[many];omega) rfl (AJn N) (by intro a b _ _;rw[List.take_zero];exact⟨fun h=>by have h:a=b:=h;rw[h];exact .refl _,fun h=>h.nil⟩)
 have M:A6 HA many ((List.range N).map (fun(k:Nat)=>(k:Int)),[],l,A2 l,(0:Int),())=_:=(Bj _ _ _).trans e;grind
theorem qL(n:Int)(l:List Edge)(b:Sz n)(d:l.length<1073741824)(c:∀ e∈l,In n e.1/\In n e.2.1):XS (n,l,())=some (0,()):=by
 rw[bj,XR];obtain⟨f,g⟩:=b;rw[BP,ARj (by omega),BP,ARj (by omega)]
 have e:=TC (step:=NL) (fun i=>(n,l,A2 l,(i:Int),())) l (fun _=>false) (fun _=>.inl (10,())) (.inr (.inl ())) (by omega)
  (fun i x hi a=>by
   obtain⟨⟨_,_,h,j⟩,⟨_,_,k,m⟩⟩:=c x (ARu a)
   rw[NL,A',A7,ARk hi]
   simp only[BD a,fk,U']
   rw[BP,ARj (by omega),Bf,ARj (by omega),A8 (by omega)]
   rfl)
  (by rw[NL,A',A7,ARj (by omega)])
 grind
theorem eS(n:Int)(l:List Edge)(D:Sz n)(E:l.length<1073741824)(F:∀ e∈l,In n e.1/\In n e.2.1):∃ out,IP (n,l,())=some (out,0,())/\I8 n l out:=by
 have z:=D;obtain⟨U,V⟩:=D;obtain⟨N,rfl⟩:=ARq (show 0<=n by omega);rw[Sq,OL];simp only[qL _ l z E F,CG];obtain⟨s,I,c,e,w,A⟩:=gV (N:=N) (by omega) (by omega) l E F;have J:XK ((List.range N).map (fun(k:Nat)=>(k:Int)),l,())=some (s,I,()):=by rw[bU,XJ];grind
 simp only[ARx,ARp,qP N (by omega),J]
 have B:∀ (m i k:Nat) (s:List Int),N-i=m->i<=N->m<k->UF N s c->(∀ j,j<i->s.getD j 0=c (j:Int)) ->
   ∃ u,BC G2 k (s,(N:Int),(i:Int),())=some (.inl (u,()))/\UF N u c/\∀ j,j<N->u.getD j 0=c (j:Int):=by
  intro m
  induction m with
  |zero=>
   intro i k s K hi L w G
   obtain⟨k,rfl⟩:∃ q,k=q+1:=⟨k-1,by omega⟩
   have e:i=N:=by omega
   subst e
   rw[BC,G2,A7,ARj (by omega)]
   grind
  |succ m M=>
   intro i k s K hi L w G
   obtain⟨k,rfl⟩:∃ q,k=q+1:=⟨k-1,by omega⟩
   have r:i<N:=by omega
   obtain⟨u,e,g,C⟩:=OJ (by omega) w r
   have W:=g.len
   rw[BC,G2,A7,ARk r]
   simp only[e,DZ 0 (show i<u.length by omega),Jx]
   rw[A8 (by omega)]
   have d:=fun j=>XM (c (i:Int)) (show i<u.length by omega) j
   have X:=g.idem i i (ARo _) r
   refine M (i+1) k _ (by omega) (by omega) (by omega) ⟨by grind,fun q v => ?_,fun q v => ?_,fun q v t => ?_,g.le⟩ fun j O => ?_
   ·rw[d]
    by_cases e:q=i
    ·subst e;rw[ARt rfl];exact g.le q v
    ·rw[ARv e];exact g.lo q v
   ·rw[d]
    by_cases e:q=i
    ·grind
    ·rw[ARv e];exact g.par q v
   ·rw[d]at t
    by_cases e:q=i
    ·grind
    ·rw[ARv e]at t;exact g.root q v t
   ·rw[d]
    by_cases e:j=i
    all_goals grind
 obtain⟨o,e,g,Y⟩:=B N 0 many s rfl (ATX _) (by simp only[many];omega) w (fun j G=>by omega);have P:A6 G2 many (s,(N:Int),(0:Int),())=_:=(Bj _ _ _).trans e;rw[A',w.len,P];refine⟨o,rfl,?_⟩;have p:∀ a,In (N:Int) a->cl o a=c a/\(0<=c a/\c a<=a)/\c (c a)=c a:=by rintro a ⟨_,_,H,Q⟩;obtain⟨k,rfl⟩:=ARq H;refine⟨?_,g.le k (by omega),g.idem k k (ARo _) (by omega)⟩;unfold cl;simp_all
 have x:∀ a,In (N:Int) a->In (N:Int) (c a):=by intro a f;obtain⟨_,h,_⟩:=p a f;obtain⟨R,S,H,Q⟩:=f;exact⟨R,S,by omega,by omega⟩
 refine⟨by rw[g.len],fun a b f y => ?_,fun a f => ?_,fun a f => ?_,fun a b f y T => ?_⟩;rw[(p a f).1,(p b y).1];exact A a b f y;grind;rw[(p a f).1];exact(A a (c a) f (x a f)).1 (p a f).2.2.symm;rw[(p a f).1,(A a b f y).2 T];grind
end Go.Pev.Pl
end
section
namespace Go.Pev.Pl
def sh(n:Int):Prop:=0<=n/\n<=65535
instance (n:Int):Decidable (sh n):=inferInstanceAs (Decidable (_/\_))
def tw(n:Int):List Int:=[n/256,n % 256]
theorem AB8{α β:Type}(g:β->α):∀ (xs:List β) (a:List α),xs.foldl (fun a x=>a++[g x]) a=a++xs.map g:=by
 intro xs;induction xs with
  |nil=>simp
  |cons x xs b=>grind
end Go.Pev.Pl
end
section
namespace Go.Pev.Pl
abbrev Res:=Int×Int×List Int×Unit
def val(r:Res):Prop:=(0<=r.1/\r.1<=255)/\sh r.2.1/\sh (r.2.2.1.length:Int)/\∀ x∈r.2.2.1,sh x
instance (r:Res):Decidable (val r):=inferInstanceAs (Decidable (_/\_/\_/\_))
def enc(r:Res):List Int:=r.1::(tw r.2.1++(tw (r.2.2.1.length:Int)++r.2.2.1.flatMap tw))
end Go.Pev.Pl
end
section
namespace Go.Pev.Pl
theorem cS(a:Int):ieq a a=true:=by rw[CU];simp
end Go.Pev.Pl
end
section
namespace Go.Pev.Pl
open Go.RowKit Tok
section
variable {n:Int} {rings:List (List Int)}
theorem mg{l:List Edge}{out:List Int}(h:FC n rings l)(c:I8 n l out){A:List Int}{u:Int}(d:A∈rings)(a:In n u)(e:u∈A):hd A=cl out u:=by have b:=h.fr.rg A d;have f:=LY b;have g:=YS b.2.1;have i:Con l u (hd A):=(h.sam u (hd A) a f).1 ⟨A,d,e,g⟩;have q:=c.least u (hd A) a f i;have j:=c.isin u a;obtain⟨K,k,m,o⟩:=(h.sam u _ a j).2 (c.con u a);have:=h.fr.one d k a.2.2.2 e m;subst this;have p:=(GL b.2.1).2 _ o;rw[b.2.2.1]at p;have:hd A=A.headD 0:=rfl;omega
theorem cB{l:List Edge}{out:List Int}(h:FC n rings l)(e:I8 n l out){A:List Int}{u w:Int}(b:A∈rings)(a:In n u)(c:u∈A)(d:In n w):w∈A↔cl out w=cl out u:=by rw[e.same w u d a,<- h.sam w u d a];constructor;intro f;exact⟨A,b,f,c⟩;rintro⟨K,g,i,j⟩;rw[h.fr.one b g a.2.2.2 c j];exact i
end
end Go.Pev.Pl
end
section
namespace Go.Pev.Pl
def OD(n:Nat):Int:=((@PW idI ((n:Int),())).getD (0,())).1
theorem ARS:((List.range 65).all fun k=>decide (@PW idI ((k:Int),())=some (OD k,())))=true:=by kernel_rfl
theorem AQe:((List.range 65).all fun k=>decide (@fR idI ((k:Int),())=some (OD k,())))=true:=by kernel_rfl
theorem yU(n:Nat)(h:n<=64):PW ((n:Int),())=some (OD n,()):=by rw[show PW ((n:Int),()) = @PW idI ((n:Int),())from ASo (fun i=>@PW i ((n:Int),())) X7];exact ATT (AR1.1 ARS n (by grind))
theorem mH(n:Nat)(h:n<=64):fR ((n:Int),())=some (OD n,()):=by rw[show fR ((n:Int),()) = @fR idI ((n:Int),())from ASo (fun i=>@fR i ((n:Int),())) X7];exact ATT (AR1.1 AQe n (by grind))
def ANM(a b:Int):Int:=if a<b then -1 else if b<a then 1 else 0
theorem gm(a b:Int):D6 (a,b,())=some (ANM a b,()):=by rw[HB,GY];simp only[JP,K5,cS,ARp];unfold ANM;rw[BP,BP];grind
theorem ALm(a b:Int):orI ([a,b],())=some (if a=0 then b else a,()):=by
 rw[fM,l5]
 have e:=TC (step:=Jn) (fun i=>(0,[a,b],A2 [a,b],(i:Int),())) [a,b] (fun x => !decide (x=0)) (fun i=>.inl ([a,b].getD i 0,())) (.inr (.inl (0,()))) (by simp)
  (fun i x hi c=>by
   rw[Jn,A',A7,ARk hi]
   simp only[BD c,CG]
   have d:i<2:=hi
   rw[A8 (by omega)]
   grind)
  (by rw[Jn,A',A7,ARj (by omega)])
 grind
theorem fW(p x:Tie):∃ y,KN (p,x,())=some (y,())/\ile 0 y = !decide (ahead p x):=by rw[S7,Og];simp only[gm,ALm];refine⟨_,rfl,?_⟩;rw[Bf];by_cases h:ahead p x;rw[ARk h];unfold ahead at h;unfold ANM;grind;rw[ARj h];unfold ahead at h;unfold ANM;grind
def Nr(N:Nat)(a:List Tie)(i:Nat):Prop:=
 0<=(a.getD i zT).1/\(a.getD i zT).1<(a.getD i zT).2.1/\(a.getD i zT).2.1<(N:Int)/\0<=(a.getD i zT).2.2.1/\(a.getD i zT).2.2.1<=OD N/\(i=0\/ahead (a.getD (i-1) zT) (a.getD i zT))
instance (N:Nat)(ts:List Tie)(i:Nat):Decidable (Nr N ts i):=inferInstanceAs (Decidable (_/\_/\_/\_/\_/\_))
def trs(b:List Tie)(k:Nat):List Edge:=(List.range k).foldl (fun a i=>if(b.getD i zT).2.2.2.1=true then a++[ed (b.getD i zT)]else a) []
theorem jP{α β ρ:Type}(P:β->Prop)[DecidablePred P](g:β->α->α)(fin:α->ρ)(b:ρ):∀ (xs:List β) (a:α),walk (fun x a=>if P x then .inl (g x a)else .inr b) fin xs a=if ∀ x∈xs,P x then fin (xs.foldl (fun a x=>g x a) a)else b:=by
 intro xs;induction xs with
  |nil=>intro a;simp[walk]
  |cons x xs c=>intro a;rw[walk];grind
theorem Wx(a:List Tie)(k:Nat):trs a (k+1)=if(a.getD k zT).2.2.2.1=true then trs a k++[ed (a.getD k zT)]else trs a k:=by unfold trs;rw[ASV,List.foldl_append];rfl
theorem T9(a:List Tie):∀ k,(trs a k).length<=k:=by
 intro k;induction k with
  |zero=>exact ARo _
  |succ k b=>rw[Wx];grind
theorem AJ8(a:List Tie)(e:Edge):∀ k,e∈trs a k->∃ i,i<k/\e=ed (a.getD i zT):=by
 intro k;induction k with
  |zero=>intro h;simp[trs]at h
  |succ k b=>intro h;rw[Wx]at h;grind
def oks(N:Nat)(a:List Tie):Prop:=∀ i∈List.range a.length,Nr N a i
instance (N:Nat)(ts:List Tie):Decidable (oks N ts):=inferInstanceAs (Decidable (∀ i∈List.range ts.length,Nr N ts i))
theorem mK(N:Nat)(m:N<=64)(b:List Tie)(n:b.length<=400):
  A6 GO many ((N:Int),b,OD N,b,A2 b,(0:Int),())=some (if oks N b then .inr (.inl ((N:Int),b,()))else .inl (false,())):=by
 have e:=DY (step:=GO) (fun i (_:Unit)=>((N:Int),b,OD N,b,A2 b,(i:Int),())) (List.range b.length) (fun i a=>if Nr N b i then .inl a else .inr (.inl (false,()))) (fun _=>.inr (.inl ((N:Int),b,()))) (fun _ _=>True) (by grind)
  (fun i x a hi d _=>by
   have:=E4 d
   subst this
   rw[AR2]at hi
   have step:GO ((N:Int),b,OD N,b,A2 b,(x:Int),())=if Nr N b x then some (.inl ((N:Int),b,OD N,b,A2 b,((x+1:Nat):Int),()))else some (.inr (.inl (false,()))):=by
    rw[GO,A',A7,ARk hi]
    simp only[DZ zT hi]
    obtain⟨t,c⟩:∃ t,b.getD x zT=t:=⟨_,rfl⟩
    have o:Nr N b x↔(0<=t.1/\t.1<t.2.1/\t.2.1<(N:Int)/\0<=t.2.2.1/\t.2.2.1<=OD N/\(x=0\/ahead (b.getD (x-1) zT) t)):=by unfold Nr;rw[c]
    rw[c]
    rw[BP,Bf,Bf,BP,BP]
    by_cases f:t.1<0
    ·grind
    rw[ARj f]
    by_cases g:t.2.1<=t.1
    ·grind
    rw[ARj g]
    by_cases h:(N:Int)<=t.2.1
    ·grind
    rw[ARj h]
    by_cases j:t.2.2.1<0
    ·grind
    rw[ARj j]
    by_cases k:OD N<t.2.2.1
    ·grind
    rw[ARj k]
    simp only[]
    rw[A8 (by omega),BP]
    by_cases p:x=0
    ·grind
    ·rw[ARk (by omega),BK (by omega),show((x:Int)-1)=((x-1:Nat):Int) by omega]
     simp only[DZ zT (show x-1<b.length by omega)]
     obtain⟨y,q,r⟩:=fW (b.getD (x-1) zT) t
     grind
   grind)
  (fun a _=>by rw[GO,AR2,A',A7,ARj (by omega)]) () trivial
 have l:A6 GO many ((N:Int),b,OD N,b,A2 b,(0:Int),())=_:=e;rw[l,jP (Nr N b) (fun _ a=>a)];rfl
theorem Pk(N:Nat)(m:N<=64)(b:List Tie)(y:b.length<=400):
  A6 E3 many ((N:Int),b,[],(0:Int),())=some (if oks N b then .inr (.inl ((N:Int),b,trs b b.length,()))else .inl (false,())):=by
 have e:=DY (step:=E3) (fun i (a:List Edge)=>((N:Int),b,a,(i:Int),())) (List.range b.length) (fun i a=>if Nr N b i then .inl (if(b.getD i zT).2.2.2.1=true then a++[ed (b.getD i zT)]else a)else .inr (.inl (false,()))) (fun a=>.inr (.inl ((N:Int),b,a,()))) (fun i a=>a.length<=i) (by grind)
  (fun i x a hi n z=>by
   have:=E4 n
   subst this
   rw[AR2]at hi
   have step:E3 ((N:Int),b,a,(x:Int),())=if Nr N b x then some (.inl ((N:Int),b,if(b.getD x zT).2.2.2.1=true then a++[ed (b.getD x zT)]else a,((x+1:Nat):Int),()))else some (.inr (.inl (false,()))):=by
    rw[E3,A',A7,ARk hi]
    simp only[DZ zT hi,yU N m]
    obtain⟨t,j⟩:∃ t,b.getD x zT=t:=⟨_,rfl⟩
    have d:Nr N b x↔(0<=t.1/\t.1<t.2.1/\t.2.1<(N:Int)/\0<=t.2.2.1/\t.2.2.1<=OD N/\(x=0\/ahead (b.getD (x-1) zT) t)):=by unfold Nr;rw[j]
    rw[j]
    rw[BP,Bf,Bf,BP,BP]
    by_cases o:t.1<0
    ·grind
    rw[ARj o]
    by_cases q:t.2.1<=t.1
    ·grind
    rw[ARj q]
    by_cases r:(N:Int)<=t.2.1
    ·grind
    rw[ARj r]
    by_cases s:t.2.2.1<0
    ·grind
    rw[ARj s]
    by_cases u:OD N<t.2.2.1
    ·grind
    rw[ARj u]
    simp only[A']
    have c:fits ((a.length:Int)+(([(t.1,t.2.1,())]:List Edge).length:Int))=true:=Cw (by grind)
    rw[A8 (by omega),BP]
    by_cases v:x=0
    ·subst v
     rw[ARj (by omega),ARt (d.2 ⟨by omega,by omega,by omega,by omega,by omega,.inl rfl⟩)]
     cases f:t.2.2.2.1
     ·simp
     ·simp only[c]
      simp[ed,Bk]
    ·rw[ARk (by omega),BK (by omega),show((x:Int)-1)=((x-1:Nat):Int) by omega]
     simp only[DZ zT (show x-1<b.length by omega),CG]
     generalize b.getD (x-1) zT=p at d |-
     rw[BP,Bf]
     by_cases k:t.1<p.1
     ·rw[ARk k,ARv (fun h=>by rcases(d.1 h).2.2.2.2.2 with h|h|h<;>omega)]
     rw[ARj k]
     by_cases g:p.1=t.1
     ·rw[ARk g]
      by_cases l:t.2.1<=p.2.1
      ·rw[ARk l,ARv (fun h=>by rcases(d.1 h).2.2.2.2.2 with h|h|h<;>omega)]
      rw[ARj l,ARt (d.2 ⟨by omega,by omega,by omega,by omega,by omega,.inr (.inr ⟨g,by omega⟩)⟩)]
      cases f:t.2.2.2.1
      ·simp
      ·simp only[c]
       simp[ed,Bk]
     ·rw[ARj g,ARt (d.2 ⟨by omega,by omega,by omega,by omega,by omega,.inr (.inl (by omega))⟩)]
      cases f:t.2.2.2.1
      ·simp
      ·simp only[c]
       simp[ed,Bk]
   grind)
  (fun a _=>by rw[E3,AR2,A',A7,ARj (by omega)]) [] (ARo _)
 have w:A6 E3 many ((N:Int),b,[],(0:Int),())=_:=e;rw[w,jP (Nr N b) (fun i a=>if(b.getD i zT).2.2.2.1=true then a++[ed (b.getD i zT)]else a)];rfl
end Go.Pev.Pl
end
end
section
section
namespace Go.Pev.Pl
theorem wS{N:Nat}{a:List Tie}(d:N<=64){i:Nat}(h:Nr N a i):In (N:Int) (ed (a.getD i zT)).1/\In (N:Int) (ed (a.getD i zT)).2.1:=by obtain⟨b,e,c,_⟩:=h;exact⟨⟨by omega,by omega,b,by show(a.getD i zT).1<_;omega⟩,⟨by omega,by omega,by show 0<=(a.getD i zT).2.1;omega,c⟩⟩
theorem dh{N:Nat}{a:List Tie}(b:N<=64)(h:oks N a):∀ e∈trs a a.length,In (N:Int) e.1/\In (N:Int) e.2.1:=by intro e c;obtain⟨i,hi,rfl⟩:=AJ8 a e _ c;exact wS b (h i (by simp[hi]))
theorem APv{N:Nat}{a:List Tie}(b:N<=64)(h:oks N a):∀ e∈a.map ed,In (N:Int) e.1/\In (N:Int) e.2.1:=by intro e c;obtain⟨t,d,rfl⟩:=ASC.1 c;obtain⟨i,hi,rfl⟩:=ASs d;have:=wS b (h i (by simp[hi]));simpa [hi]using this
theorem X4{N:Nat}(b:List Tie)(l:b.length<=400)(h:oks N b):Rm (((N:Int),(b,())),(0:Int),())=some (trs b b.length,()):=by
 rw[Rl,P2]
 have e:=DY (step:=Ed) (fun i (a:List Edge)=>((0:Int),a,b,A2 b,(i:Int),())) (List.range b.length) (fun i a=>.inl (if(b.getD i zT).2.2.2.1=true then a++[ed (b.getD i zT)]else a)) (fun a=>.inl (a,())) (fun i a=>a.length<=i) (by simp;omega)
  (fun i x a hi g m=>by
   refine⟨fun n d => ?_,fun r d=>(by cases d)⟩
   cases d
   have:=E4 g
   subst this
   rw[AR2]at hi
   have f:=(h x (by simp[hi])).2.2.2.1
   constructor
   ·rw[Ed,A',A7,ARk hi]
    simp only[DZ zT hi,A']
    have c:fits ((a.length:Int)+(([((b.getD x zT).1,(b.getD x zT).2.1,())]:List Edge).length:Int))=true:=Cw (by simp;omega)
    rw[A8 (by omega),Bf,ARk f]
    cases j:(b.getD x zT).2.2.2.1
    ·simp
    ·simp only[c]
     simp[ed,Bk]
   ·split
    ·rw[AR7];simp;omega
    ·omega)
  (fun a _=>by rw[Ed,AR2,A',A7,ARj (by omega)]) [] (ARo _)
 have k:A6 Ed many ((0:Int),[],b,A2 b,(0:Int),())=_:=e;simp only[k];rw[B5 (fun i a=>if(b.getD i zT).2.2.2.1=true then a++[ed (b.getD i zT)]else a)];rfl
def cnt(out:List Int)(N:Nat):Nat:=((List.range N).filter fun k=>decide (out.getD k 0=(k:Int))).length
theorem Ss{N:Nat}{c:List (List Int)}{l:List Edge}{out:List Int}(h:FC (N:Int) c l)(f:I8 (N:Int) l out):c.length=cnt out N:=by
 have d:=h.fr.sz;have m:(c.map hd).Perm (((List.range N).filter fun k=>decide (out.getD k 0=(k:Int))).map fun(k:Nat)=>(k:Int)):=by
  rw[List.perm_ext_iff_of_nodup];intro a;simp only[ASC,AS8,ASW,ARm];constructor;rintro⟨A,e,rfl⟩;have g:=h.fr.rg A e;have i:In (N:Int) (hd A):=LY g;have n:=YS g.2.1;have:=mg h f e i n;obtain⟨_,_,q,r⟩:=i;refine⟨(hd A).toNat,⟨by omega,?_⟩,by omega⟩;rw[show out.getD (hd A).toNat 0=cl out (hd A)from rfl,<- this];omega;rintro⟨k,⟨s,o⟩,rfl⟩;have j:In (N:Int) (k:Int):=⟨d.1,d.2,by omega,by omega⟩
  obtain⟨A,e,p⟩:=h.fr.cov _ j;refine⟨A,e,?_⟩;rw[mg h f e j p];unfold cl;rw[ASQ];exact o;exact(ATU.2 h.fr.up).imp (fun h=>by omega);refine List.Pairwise.map _ (S:=fun a b=>a≠b) (R:=fun a b=>a≠b) (fun a b h t=>h (by omega)) ?_;exact(List.nodup_range).filter _
 have:=m.length_eq;rw[ASZ,ASZ]at this;exact this
theorem Nv(N:Nat)(j:N<=64)(p:List Tie)(q:List Edge)(out:List Int)(l:out.length=N):A6 F9 many ((N:Int),p,q,out,(0:Int),(0:Int),())=some (.inl ((N:Int),p,q,(cnt out N:Int),())):=by
 have e:=DY (step:=F9) (fun i (a:Nat)=>((N:Int),p,q,out,(a:Int),(i:Int),())) (List.range N) (fun k a=>.inl (if out.getD k 0=(k:Int)then a+1 else a)) (fun a=>.inl ((N:Int),p,q,(a:Int),())) (fun i a=>a<=i) (by simp;omega)
  (fun i x a hi d m=>by
   refine⟨fun n b => ?_,fun r b=>(by cases b)⟩
   cases b
   have:=E4 d
   subst this
   rw[AR2]at hi
   constructor
   ·rw[F9,A7,ARk hi]
    simp only[DZ 0 (show x<out.length by omega),LS,CG]
    rw[A8 (by omega),A8 (by omega)]
    by_cases h:out.getD x 0=(x:Int)
    ·rw[ARk h,ARt h]
    ·rw[ARj h,ARv h]
   ·split<;>omega)
  (fun a _=>by rw[F9,AR2,A7,ARj (by omega)]) 0 (ARo _)
 have f:A6 F9 many ((N:Int),p,q,out,(0:Int),(0:Int),())=_:=e;rw[f,B5 (fun k a=>if out.getD k 0=(k:Int)then a+1 else a)];have c:∀ (xs:List Nat) (a:Nat),xs.foldl (fun a k=>if out.getD k 0=(k:Int)then a+1 else a) a=a+(xs.filter fun k=>decide (out.getD k 0=(k:Int))).length:=by
  intro xs;induction xs with
   |nil=>intro a;rfl
   |cons x xs g=>
    intro a;rw[ASg,g,ATN];by_cases h:out.getD x 0=(x:Int)
    simp only[h,ASR,ARx,ARy];omega;simp only[h,AR3,AR8,AR0]
 rw[c,ASP];rfl
theorem Y_(n:Int)(a:List Tie)(s:a.length<4611686018427387904):∃ b:Bool,Ex ((n,(a,())),())=some (b,())/\EK ((n,(a,())),())=some (b,())/\(b=true->∃ N:Nat,n=(N:Int)/\1<=N/\N<=64/\a.length<=400/\oks N a):=by
 by_cases f:¬ (1<=n/\n<=64);refine⟨false,?_,?_,fun h=>by cases h⟩;rw[GA,GB,BP,BP];by_cases h:n<1;simp only[ARk h];simp only[ARj h,ARk (show 64<n by omega)];rw[KK,KL];simp only[Ro,P5,Bf];by_cases h:1<=n;simp only[ARk h,ARj (show ¬ n<=64 by omega),ASF];simp only[ARj h,ASF];have f:=Classical.not_not.1 f;obtain⟨N,rfl⟩:=ARq (show 0<=n by omega);have d:X5 ((N:Int),())=some (true,()):=by simp only[Ro,P5,Bf,ARk f.1,ARk f.2]
 by_cases g:¬ a.length<=400;refine⟨false,?_,?_,fun h=>by cases h⟩;rw[GA,GB];simp only[BP,A'];rw[ARj (show ¬ (N:Int)<1 by omega),ARj (show ¬ 64<(N:Int) by omega),ARk (show 400<(a.length:Int) by omega)];rw[KK,KL];simp only[d,ARp,BP,A'];rw[ARk (show 400<(a.length:Int) by omega)];have g:=Classical.not_not.1 g;have R:=Pk N (by omega) a g;have L:=mK N (by omega) a g;by_cases e:¬ oks N a;rw[ARv e]at R L;refine⟨false,?_,?_,fun h=>by cases h⟩;rw[GA,GB];simp only[BP,A'];rw[ARj (show ¬ (N:Int)<1 by omega),ARj (show ¬ 64<(N:Int) by omega),ARj (show ¬ 400<(a.length:Int) by omega)];simp only[R];rw[KK,KL];simp only[d,ARp,BP,A',mH N (by omega)];rw[ARj (show ¬ 400<(a.length:Int) by omega)];rw[A']at L;simp only[L];have e:=Classical.not_not.1 e;rw[ARt e]at R L;have i:=dh (show N<=64 by omega) e;have p:=T9 a a.length;obtain⟨out,q,j⟩:=D' (N:Int) (trs a a.length) f (by omega) i;rcases(gN (N:Int) (trs a a.length) f (by omega)).symm with⟨k,_⟩|⟨_,l,r,m⟩
 exact absurd i k;have c:=Ss m j;have o:out.length=N:=by have:=j.len;omega
 refine⟨decide ((cnt out N:Int)=(N:Int)-(trs a a.length).length),?_,?_,fun _=>⟨N,rfl,by omega,by omega,g,e⟩⟩;rw[GA,GB];simp only[BP,A'];rw[ARj (show ¬ (N:Int)<1 by omega),ARj (show ¬ 64<(N:Int) by omega),ARj (show ¬ 400<(a.length:Int) by omega)];simp only[R,q,Nv N (by omega) _ _ out o,CG];rw[BK (by omega)];rw[KK,KL];simp only[d,ARp,BP,A',mH N (by omega)];rw[ARj (show ¬ 400<(a.length:Int) by omega)];rw[A']at L;simp only[L,X4 a g e,r,cS,CG,c];rw[BK (by omega)]
end Go.Pev.Pl
end
section
namespace Go.Pev.Pl
theorem I8.unique{N:Nat}{l:List Edge}{a b:List Int}(h:1<=N)(i:N<=64)(d:I8 (N:Int) l a)(e:I8 (N:Int) l b):a=b:=by
 have j:=d.len;have lb:=e.len;refine Em (0:Int) (by omega) fun k m => ?_;have c:In (N:Int) (k:Int):=⟨by omega,by omega,by omega,by omega⟩
 have f:=d.least _ _ c (e.isin _ c) (e.con _ c);have g:=e.least _ _ c (d.isin _ c) (d.con _ c);unfold cl at f g;rw[ASQ]at f g;omega
theorem cY(xs:List Tie)(a:List Edge):xs.foldl (fun a x=>a++[ed x]) a=a++xs.map ed:=AB8 ed xs a
theorem sj(n:Int)(b:List Tie)(g:b.length<=400)(h:EK ((n,(b,())),())=some (true,())):LB ((n,(b,())),())=some (b.map ed,()):=by
 rw[cH,X8];simp only[h,ARp]
 have e:=DY (step:=KM) (fun i (a:List Edge)=>(a,b,A2 b,(i:Int),())) b (fun x a=>.inl (a++[ed x])) (fun a=>.inl (a,())) (fun i a=>a.length<=i) (by omega)
  (fun i x a hi d j=>by
   refine⟨fun k c => ?_,fun r c=>(by cases c)⟩
   cases c
   constructor
   ·rw[KM]
    simp only[A']
    rw[A7,ARk hi]
    simp only[BD d]
    rw[Cw (by simp;omega),A8 (by omega)]
    rfl
   ·rw[AR7];simp;omega)
  (fun a _=>by rw[KM,A',A7,ARj (by omega)]) [] (ARo _)
 have f:A6 KM many ([],b,A2 b,(0:Int),())=_:=e;simp only[f];rw[B5 (fun x a=>a++[ed x]),cY];rfl
theorem nG(n:Int)(b:List Tie)(g:b.length<=400)(h:Ex ((n,(b,())),())=some (true,())):VD ((n,(b,())),())=some (b.map ed,()):=by
 rw[Ye,SF];simp only[h,ARp]
 have e:=DY (step:=Iv) (fun i (a:List Edge)=>(n,b,a,(i:Int),())) b (fun x a=>.inl (a++[ed x])) (fun a=>.inl (a,())) (fun i a=>a.length<=i) (by omega)
  (fun i x a hi d j=>by
   refine⟨fun k c => ?_,fun r c=>(by cases c)⟩
   cases c
   constructor
   ·rw[Iv]
    simp only[A']
    rw[A7,ARk hi]
    simp only[BD d]
    rw[Cw (by simp;omega),A8 (by omega)]
    rfl
   ·rw[AR7];simp;omega)
  (fun a _=>by rw[Iv,A',A7,ARj (by omega)]) [] (ARo _)
 have f:A6 Iv many (n,b,[],(0:Int),())=_:=e;simp only[f];rw[B5 (fun x a=>a++[ed x]),cY];rfl
abbrev Ask:=Int×Int×Int×Unit
def InV(N:Nat)(x:Int):Prop:=0<=x/\x<(N:Int)
instance (N:Nat)(x:Int):Decidable (InV N x):=inferInstanceAs (Decidable (_/\_))
def AP3(out:List Int)(N:Nat)(c:Int):Nat:=((List.range N).filter fun k=>decide (out.getD k 0=c)).length
def ans(N:Nat)(out:List Int)(a:Ask):Int×Int×Unit:=
 if a.1=1 then(if InV N a.2.1/\InV N a.2.2.1 then(if cl out a.2.1=cl out a.2.2.1 then 1 else 0,0,())else(0,10,()))
 else if a.1=2 then(if InV N a.2.1 then(cl out a.2.1,0,())else(0,10,()))
 else if a.1=3 then(if InV N a.2.1 then((AP3 out N (cl out a.2.1):Int),0,())else(0,10,()))
 else if a.1=4 then((cnt out N:Int),0,())else(0,1,())
theorem cZ(P:Nat->Prop)[DecidablePred P]:∀ (xs:List Nat) (a:Nat),xs.foldl (fun a k=>if P k then a+1 else a) a=a+(xs.filter fun k=>decide (P k)).length:=by
 intro xs;induction xs with
  |nil=>intro a;rfl
  |cons x xs b=>intro a;rw[ASg,b,ATN];by_cases h:P x;simp only[h,ASR,ARx,ARy];omega;simp only[h,AR3,AR8,AR0]
theorem iC{N:Nat}{out:List Int}(a:out.length=N){u:Int}(h:InV N u):idx out u=some (cl out u):=by obtain⟨U,rfl⟩:=ARq h.1;have:=h.2;rw[DZ 0 (by omega)];unfold cl;rw[ASQ]
end Go.Pev.Pl
end
section
namespace Go.Pev.Pl
end Go.Pev.Pl
end
section
namespace Go.Pev.Pl
def ARD(l:List Edge)(u v:Int):Prop:=((u,(v,())):Edge)∈l\/((v,(u,())):Edge)∈l
instance (l:List Edge)(u v:Int):Decidable (ARD l u v):=inferInstanceAs (Decidable (_\/_))
def ARV(N:Nat)(l:List Edge)(u:Nat):List Edge:=((List.range (N-(u+1))).filter fun i=>decide (ARD l (u:Int) ((u+1+i:Nat):Int))).map fun(i:Nat)=>((u:Int),((u+1+i:Nat):Int),())
def AO1(N:Nat)(l:List Edge):List Edge:=(List.range N).flatMap fun u=>ARV N l u
end Go.Pev.Pl
end
section
namespace Go.Pev.Pl
def AIy(N:Nat)(a:List Tie)(l:List Edge):List Edge:=(AO1 N l).filter fun x => !decide (x∈a.map ed)
def ARZ(l:List Tie)(t:Tie):List Tie:=l.take (l.findIdx fun x => !decide (ahead x t))++t::l.drop (l.findIdx fun x => !decide (ahead x t))
end Go.Pev.Pl
end
section
namespace Go.Pev.Pl
def valid(N:Nat)(t:Tie):Prop:=0<=t.1/\t.1<t.2.1/\t.2.1<(N:Int)/\0<=t.2.2.1/\t.2.2.1<=OD N
theorem ahead.trans{a b c:Tie}(h:ahead a b)(d:ahead b c):ahead a c:=by unfold ahead at *;omega
theorem ALp(N:Nat)(a:List Tie):oks N a↔(∀ t∈a,valid N t)/\a.Pairwise ahead:=by
 constructor;intro h;have m:∀ i,i<a.length->Nr N a i:=fun i hi=>h i (by simpa using hi);refine⟨fun t p => ?_,?_⟩;obtain⟨i,hi,rfl⟩:=ASs p;obtain⟨b,c,f,g,k,_⟩:=m i hi;simp only[ARn,ARs hi,ASM]at b c f g k;exact⟨b,c,f,g,k⟩;have n:∀ (d i:Nat),i+d+1<a.length->ahead (a.getD i zT) (a.getD (i+d+1) zT):=by
  intro d;induction d with
   |zero=>intro i hi;obtain⟨_,_,_,_,_,q⟩:=m (i+0+1) hi;rcases q with q|q;omega;simpa using q
   |succ d r=>intro i hi;have o:=r i (by omega);obtain⟨_,_,_,_,_,q⟩:=m (i+(d+1)+1) hi;rcases q with q|q;omega;rw[show i+(d+1)+1-1=i+d+1 by omega]at q;exact o.trans q
 rw[ATI];intro i j hi l s;have:=n (j-i-1) i (by omega);rw[show i+(j-i-1)+1=j by omega]at this;simpa only[ARn,ARs hi,ARs l,ASM]using this;rintro⟨o,u⟩ i hi;have hi:i<a.length:=by simpa using hi
 have e:∀ j (l:j<a.length),a.getD j zT=a[j]:=fun j l=>by simp only[ARn,ARs l,ASM]
 obtain⟨b,c,f,g,k⟩:=o a[i] (ASj hi);unfold Nr;rw[e i hi];refine⟨b,c,f,g,k,?_⟩;by_cases v:i=0;exact .inl v;right;rw[e (i-1) (by omega)];exact(ATI.1 u) (i-1) i (by omega) hi (by omega)
end Go.Pev.Pl
end
section
namespace Go.Pev.Pl
end Go.Pev.Pl
end
section
namespace Go.Pev.Pl
open Tok
instance (n v:Int):Decidable (In n v):=inferInstanceAs (Decidable (_/\_))
instance (n:Int):Decidable (Sz n):=inferInstanceAs (Decidable (_/\_))
end Go.Pev.Pl
end
section
namespace Go.Pev.Pl
instance (xs:List Int):Decidable (Rt xs):=inferInstanceAs (Decidable (_/\_/\_))
end Go.Pev.Pl
end
section
namespace Go.Pev.Pl
open Tok
noncomputable instance (n:Int) (xs:List Int):Decidable (TI n xs):=Classical.propDecidable _
end Go.Pev.Pl
end
section
namespace Go.Pev.Pl
open Tok
end Go.Pev.Pl
end
section
namespace Go.Pev.Pl
open Tok
end Go.Pev.Pl
end
section
namespace Go.Pev.Pl
open Tok
noncomputable instance (n:Int) (rings:List (List Int)):Decidable (RF n rings):=Classical.propDecidable _
noncomputable instance (n:Int) (xs:List Int):Decidable (RG n xs):=Classical.propDecidable _
end Go.Pev.Pl
end
end
section
section
namespace Go.Pev.Pl
open Tok
end Go.Pev.Pl
end
section
namespace Go.Pev.Pl
open Tok
end Go.Pev.Pl
end
section
namespace Go.Pev.Pl
open Tok
end Go.Pev.Pl
end
section
namespace Go.Pev.Pl
open Tok
end Go.Pev.Pl
end
section
namespace Go.Pev.Pl
open Go.RowKit Tok
end Go.Pev.Pl
end
section
namespace Go.Pev.Pl
open Tok
end Go.Pev.Pl
end
section
namespace Go.Pev.Pl
open Tok
end Go.Pev.Pl
end
section
namespace Go.Pev.Pl
open Tok
end Go.Pev.Pl
end
section
namespace Go.Pev.Pl
open Tok
instance (n v:Int):Decidable (In n v):=inferInstanceAs (Decidable (_/\_))
instance (n:Int):Decidable (Sz n):=inferInstanceAs (Decidable (_/\_))
end Go.Pev.Pl
end
section
namespace Go.Pev.Pl
instance (xs:List Int):Decidable (Rt xs):=inferInstanceAs (Decidable (_/\_/\_))
end Go.Pev.Pl
end
section
namespace Go.Pev.Pl
open Tok
noncomputable instance (n:Int) (xs:List Int):Decidable (TI n xs):=Classical.propDecidable _
end Go.Pev.Pl
end
section
namespace Go.Pev.Pl
open Tok
noncomputable instance (n:Int) (rings:List (List Int)):Decidable (RF n rings):=Classical.propDecidable _
noncomputable instance (n:Int) (xs:List Int):Decidable (RG n xs):=Classical.propDecidable _
end Go.Pev.Pl
end
section
namespace Go.Pev.Pl
open Tok
end Go.Pev.Pl
end
section
namespace Go.Pev.Pl
open Tok
end Go.Pev.Pl
end
section
namespace Go.Pev.Pl
open Tok
end Go.Pev.Pl
end
section
namespace Go.Pev.Pl
open Tok
end Go.Pev.Pl
end
section
namespace Go.Pev.Pl
open Tok
theorem kN{N:Nat}(h:1<=N)(b:N<=64){a:List Tie}(i:a.length<=400)(e:oks N a){out:List Int}(f:I8 (N:Int) (trs a a.length) out):
  Ex (((N:Int),(a,())),())=some (decide ((cnt out N:Int)=(N:Int)-(trs a a.length).length),()):=by
 have R:=Pk N b a i;rw[ARt e]at R;have c:=dh b e;have g:=T9 a a.length;obtain⟨k,j,c2⟩:=D' (N:Int) (trs a a.length) ⟨by omega,by omega⟩ (by omega) c;have:=I8.unique h b f c2;subst this;have d:out.length=N:=by have:=f.len;omega
 rw[GA,GB];simp only[BP,A'];rw[ARj (show ¬ (N:Int)<1 by omega),ARj (show ¬ 64<(N:Int) by omega),ARj (show ¬ 400<(a.length:Int) by omega)];simp only[R,j,Nv N b _ _ out d,CG];rw[BK (by omega)]
end Go.Pev.Pl
end
section
namespace Go.Pev.Pl
open Tok
theorem I8.congr{n:Int}{l g:List Edge}{out:List Int}(h:∀ a b,Con l a b↔Con g a b)(d:I8 n l out):I8 n g out:=
 ⟨d.len,fun a b e f=>(d.same a b e f).trans (h a b),d.isin,fun a e=>(h a _).1 (d.con a e),fun a b e f c=>d.least a b e f ((h a b).2 c)⟩
end Go.Pev.Pl
end
section
namespace Go.Pev.Pl
open Tok
def AQh(x:Edge)(b:Bool):Tie:=(x.1,x.2.1,0,b,())
def ARf(b:List Tie)(xs:List Edge)(c:List Bool)(k:Nat):List Tie:=(List.range k).foldl (fun a i=>ARZ a (AQh (xs.getD i (0,0,())) (c.getD i false))) b
end Go.Pev.Pl
end
section
namespace Go.Pev.Pl
open Tok
end Go.Pev.Pl
end
section
namespace Go.Pev.Pl
open Tok
end Go.Pev.Pl
end
section
namespace Go.Pev.Pl
open Tok
theorem AD4(a:List Tie):∀ k,k<=a.length->trs a k=((a.take k).filter fun t=>t.2.2.2.1).map ed:=by
 intro k;induction k with
  |zero=>intro _;simp[trs]
  |succ k c=>
   intro d;have b:k<a.length:=by omega
   rw[Wx,c (by omega),ATd b,ATh,ATy];simp only[ARn,ARs b,ASM];cases h:a[k].2.2.2.1;simp[h];simp[h]
theorem AJ9(a:List Tie):trs a a.length=(a.filter fun t=>t.2.2.2.1).map ed:=by rw[AD4 a _ (ARo _),ATa]
end Go.Pev.Pl
end
section
namespace Go.Pev.Pl
open Tok
end Go.Pev.Pl
end
end
section
section
namespace Go.Pev.Pl
open Tok
end Go.Pev.Pl
end
section
namespace Go.Pev.Pl
open Tok
theorem AN4{N:Nat}(b:1<=N)(c:N<=64){a:Int}(h:0<=a/\a<(N:Int)):In (N:Int) a:=⟨by omega,by omega,h.1,h.2⟩
theorem AI1{N:Nat}(f:1<=N)(g:N<=64){l:List Edge}{out:List Int}(c:I8 (N:Int) l out):cnt out N=cc N l:=by
 unfold cnt cc;rw[List.countP_eq_length_filter];congr 1;refine AUB fun k i => ?_;have i:k<N:=by simpa using i
 have b:=AN4 f g (a:=(k:Int)) ⟨by omega,by omega⟩;have o:out.getD k 0=cl out (k:Int):=by unfold cl;rw[ASQ]
 rw[o,Bool.eq_iff_iff,ATP,AHC];constructor;intro h j s d;have:=c.least (k:Int) (j:Int) b (AN4 f g ⟨by omega,by omega⟩) d.symm;omega;intro h;have p:=c.isin _ b;have n:=c.con _ b;have q:=c.least (k:Int) (k:Int) b b (.refl _);obtain⟨m,r⟩:=ARq p.2.2.1;rw[r]at n q |-;by_cases e:m<k;exact absurd n.symm (h m e);omega
theorem FC.count{N:Nat}(b:1<=N)(d:N<=64){a:List (List Int)}{l:List Edge}(h:FC (N:Int) a l)(f:l.length<1073741824)(g:∀ e∈l,In (N:Int) e.1/\In (N:Int) e.2.1):a.length=cc N l:=by obtain⟨o,_,c⟩:=D' (N:Int) l ⟨by omega,by omega⟩ f g;rw[Ss h c,AI1 b d c]
theorem kM{N:Nat}(d:1<=N)(b:N<=64){a:List Tie}(g:a.length<=400)(e:oks N a):Ex (((N:Int),(a,())),())=some (true,())↔Fo N (trs a a.length):=by
 have f:=T9 a a.length;obtain⟨o,_,c⟩:=D' (N:Int) (trs a a.length) ⟨by omega,by omega⟩ (by omega) (dh b e);rw[kN d b g e c,AI1 d b c];unfold Fo;constructor;intro h;have:decide ((cc N (trs a a.length):Int)=(N:Int)-(trs a a.length).length)=true:=by injection h with h;injection h
 have:=ATT this;omega;intro h;rw[ARk (by omega)]
end Go.Pev.Pl
end
section
namespace Go.Pev.Pl
open Tok
theorem mM{N:Nat}(j:1<=N)(d:N<=64)(a:List Tie)(f:a.length<=400)(h:oks N a)(g:EK (((N:Int),(a,())),())=some (true,())):
  ∃ b,Gl (((N:Int),(a,())),(0:Int),())=some (((N:Int),(b,())),0,())/\FC (N:Int) b (trs a a.length):=by
 have k:=T9 a a.length;rcases(gN (N:Int) (trs a a.length) ⟨by omega,by omega⟩ (by omega)).symm with⟨c,_⟩|⟨_,b,e,i⟩
 exact absurd (dh d h) c;refine⟨b,?_,i⟩;rw[Of,NP];simp only[g,ARp,X4 a f h,e]
end Go.Pev.Pl
end
section
namespace Go.Pev.Pl.SE
open Go.Sort
def ok(_:Int×Int×Unit):Prop:=True
def okz:Int×Int×Unit:=(0,0,())
theorem OZ:ok okz:=trivial
def lt(x y:Int×Int×Unit):Bool:=decide (x.1<y.1\/(x.1=y.1/\x.2.1<y.2.1))
theorem swo:SWO lt:=⟨fun x=>by simp[lt],fun x y z a b=>by simp only[lt,ARm]at *;omega,fun x y z a b=>by simp only[lt,ASf]at *;omega⟩
theorem My(a b:Int):D6 (a,b,())=some (if a<b then -1 else if b<a then 1 else 0,()):=by rw[HB,GY,JP,K5,JP,K5];simp only[CU,BP];by_cases h:a<b;simp[h];by_cases c:b<a;simp[h,c];simp[h,c]
theorem or_val(a b:Int):orI ([a,b],())=some (if a=0 then b else a,()):=by
 obtain⟨m,l⟩:∃ m,many=m+3:=⟨many-3,by simp only[many]⟩
 rw[fM,l5,Bj,l];have c:idx [a,b] (0:Int)=some a:=by rw[idx_eq];rfl
 have d:idx [a,b] (1:Int)=some b:=by rw[idx_eq];rfl
 have e:A2 [a,b]=(2:Int):=rfl;have f:w64 ((0:Int)+1)=1:=by rw[BK (by omega)];rfl
 have g:w64 ((1:Int)+1)=2:=by rw[BK (by omega)];rfl
 have h:ilt (0:Int) 2=true:=by rw[BP];rfl
 have i:ilt (1:Int) 2=true:=by rw[BP];rfl
 have c2:ilt (2:Int) 2=false:=by rw[BP];rfl
 by_cases j:a=0;subst j;by_cases k:b=0;subst k;have z:ieq (0:Int) 0=true:=by rw[CU];rfl
 simp only[BC,Jn,e,c,d,f,g,h,i,c2,z,ARp,ASR];have:ieq b 0=false:=by rw[CU];simpa using k
 have z:ieq (0:Int) 0=true:=by rw[CU];rfl
 simp only[BC,Jn,e,c,d,f,g,h,i,c2,z,this,ARp,ASF,ASR];have:ieq a 0=false:=by rw[CU];simpa using j
 simp only[BC,Jn,e,c,d,f,g,h,i,c2,this,j,ASF,AR3]
end Go.Pev.Pl.SE
end
section
namespace Go.Pev.Pl.ST
open Go.Sort
def ok(_:Int×Int×Int×Bool×Unit):Prop:=True
def okz:Int×Int×Int×Bool×Unit:=(0,0,0,false,())
theorem OZ:ok okz:=trivial
def lt(x y:Int×Int×Int×Bool×Unit):Bool:=decide (x.1<y.1\/(x.1=y.1/\x.2.1<y.2.1))
theorem swo:SWO lt:=⟨fun x=>by simp[lt],fun x y z a b=>by simp only[lt,ARm]at *;omega,fun x y z a b=>by simp only[lt,ASf]at *;omega⟩
theorem My(a b:Int):D6 (a,b,())=some (if a<b then -1 else if b<a then 1 else 0,()):=by rw[HB,GY,JP,K5,JP,K5];simp only[CU,BP];by_cases h:a<b;simp[h];by_cases c:b<a;simp[h,c];simp[h,c]
theorem or_val(a b:Int):orI ([a,b],())=some (if a=0 then b else a,()):=by
 obtain⟨m,l⟩:∃ m,many=m+3:=⟨many-3,by simp only[many]⟩
 rw[fM,l5,Bj,l];have c:idx [a,b] (0:Int)=some a:=by rw[idx_eq];rfl
 have d:idx [a,b] (1:Int)=some b:=by rw[idx_eq];rfl
 have e:A2 [a,b]=(2:Int):=rfl;have f:w64 ((0:Int)+1)=1:=by rw[BK (by omega)];rfl
 have g:w64 ((1:Int)+1)=2:=by rw[BK (by omega)];rfl
 have h:ilt (0:Int) 2=true:=by rw[BP];rfl
 have i:ilt (1:Int) 2=true:=by rw[BP];rfl
 have c2:ilt (2:Int) 2=false:=by rw[BP];rfl
 by_cases j:a=0;subst j;by_cases k:b=0;subst k;have z:ieq (0:Int) 0=true:=by rw[CU];rfl
 simp only[BC,Jn,e,c,d,f,g,h,i,c2,z,ARp,ASR];have:ieq b 0=false:=by rw[CU];simpa using k
 have z:ieq (0:Int) 0=true:=by rw[CU];rfl
 simp only[BC,Jn,e,c,d,f,g,h,i,c2,z,this,ARp,ASF,ASR];have:ieq a 0=false:=by rw[CU];simpa using j
 simp only[BC,Jn,e,c,d,f,g,h,i,c2,this,j,ASF,AR3]
end Go.Pev.Pl.ST
end
section
namespace Go.Pev.Pl
open Tok
section
variable {α β:Type} [DecidableEq α]
end
end Go.Pev.Pl
end
section
namespace Go.Pev.Pl
open Tok
noncomputable def grown(N:Nat)(a:List Tie)(l:List Edge):List Tie:=ARf a (AIy N a l) (gfl (trs a a.length) (AIy N a l)) (AIy N a l).length
structure RG2(N:Nat)(ts:List Tie):Prop where
 h1:1<=N
 hN:N<=64
 ht:ts.length<=400
 oks:oks N ts
 fo:Fo N (trs ts ts.length)
theorem RG2.r21{N:Nat}{a:List Tie}(h:RG2 N a):Ex (((N:Int),(a,())),())=some (true,()):=(kM h.h1 h.hN h.ht h.oks).2 h.fo
theorem RG2.lr{N:Nat}{a:List Tie}(h:RG2 N a):EK (((N:Int),(a,())),())=some (true,()):=by obtain⟨b,c,d,_⟩:=Y_ (N:Int) a (by have:=h.ht;omega);rw[h.r21]at c;cases c;exact d
theorem bt(n:Int)(a:List Tie)(h:a.length<4611686018427387904):(Ex ((n,(a,())),())=some (false,())/\EK ((n,(a,())),())=some (false,()))\/∃ N:Nat,n=(N:Int)/\RG2 N a:=by obtain⟨b,c,i,j⟩:=Y_ n a h;cases b;exact .inl ⟨c,i⟩;obtain⟨N,rfl,d,e,f,g⟩:=j rfl;exact .inr ⟨N,rfl,d,e,f,g,(kM d e f g).1 c⟩
theorem RG2.inE{N:Nat}{a:List Tie}(h:RG2 N a):∀ e∈a.map ed,In (N:Int) e.1/\In (N:Int) e.2.1:=APv h.hN h.oks
end Go.Pev.Pl
end
section
namespace Go.Pev.Pl
open Tok
end Go.Pev.Pl
end
end
section
namespace Go.Pev.Pl
open Tok
theorem AD7(a:List Tie)(t:Tie)(k:Int):trk (a++[t]) k=trk a k++if t.2.2.2.1=true/\k<=t.2.2.1 then [ed t]else []:=by rw[pI];congr 1;unfold trk;rw[ATN];by_cases h:t.2.2.2.1=true/\k<=t.2.2.1;rw[ARt h,h.1,ARk h.2];rfl;rw[ARv h,ARv];rfl;rw[ARl,ARm];exact h
theorem jV(k:Int):∀ (c a:List Tie) (b:List Edge),b=trk a k->c.foldl (fun b t=>if t.2.2.2.1=true/\k<=t.2.2.1 then b++[ed t]else b) b=trk (a++c) k:=by
 intro c;induction c with
  |nil=>intro a b h;simpa using h
  |cons t c d=>intro a b h;rw[ASg,d (a++[t])];simp;rw[AD7,<- h];split<;>simp
theorem AKA(a:List Tie)(k:Int):(trk a k).length<=a.length:=by unfold trk;rw[ASZ];exact List.length_filter_le _ _
theorem dj(a:List Tie)(k:Int):∀ e∈trk a k,e∈a.map ed:=by intro e b;obtain⟨t,c,_,_,rfl⟩:=ALv.1 b;exact ASC.2 ⟨t,c,rfl⟩
theorem AG6(n:Int)(b:List Tie)(h:b.length<=400)(k:Int):Rm ((n,(b,())),k,())=some (trk b k,()):=by
 rw[Rl,P2]
 have e:=DY (step:=Ed) (fun i (a:List Edge)=>(k,a,b,A2 b,(i:Int),())) b (fun t a=>.inl (if t.2.2.2.1=true/\k<=t.2.2.1 then a++[ed t]else a)) (fun a=>.inl (a,())) (fun i a=>a.length<=i) (by omega)
  (fun i x a hi f j=>by
   refine⟨fun l c => ?_,fun r c=>(by cases c)⟩
   cases c
   constructor
   ·rw[Ed,A',A7,ARk hi]
    simp only[BD f,A']
    rw[A8 (by omega),Bf,Cw (by simp only[ARy,ASD];omega)]
    cases m:x.2.2.2.1
    ·simp
    ·by_cases d:k<=x.2.2.1
     ·simp[d,ed,Bk]
     ·simp[d]
   ·split
    ·rw[AR7];simp;omega
    ·omega)
  (fun a _=>by rw[Ed,A',A7,ARj (by omega)]) [] (ARo _)
 have g:A6 Ed many (k,[],b,A2 b,(0:Int),())=_:=e;simp only[g];rw[B5 (fun(t:Tie) (a:List Edge)=>if t.2.2.2.1=true/\k<=t.2.2.1 then a++[ed t]else a),jV k b [] [] rfl];rfl
theorem yQ(n:Int)(b:List Tie)(h:b.length<=400)(k:Int):T_ ((n,(b,())),k,())=some (trk b k,()):=by
 rw[W2,RR]
 have e:=DY (step:=IK) (fun i (a:List Edge)=>(k,n,b,a,(i:Int),())) b (fun t a=>.inl (if t.2.2.2.1=true/\k<=t.2.2.1 then a++[ed t]else a)) (fun a=>.inl (a,())) (fun i a=>a.length<=i) (by omega)
  (fun i x a hi f j=>by
   refine⟨fun l c => ?_,fun r c=>(by cases c)⟩
   cases c
   constructor
   ·rw[IK,A',A7,ARk hi]
    simp only[BD f,A']
    rw[A8 (by omega),Bf,Cw (by simp only[ARy,ASD];omega)]
    cases m:x.2.2.2.1
    ·simp
    ·by_cases d:k<=x.2.2.1
     ·simp[d,ed,Bk]
     ·simp[d]
   ·split
    ·rw[AR7];simp;omega
    ·omega)
  (fun a _=>by rw[IK,A',A7,ARj (by omega)]) [] (ARo _)
 have g:A6 IK many (k,n,b,[],(0:Int),())=_:=e;simp only[g];rw[B5 (fun(t:Tie) (a:List Edge)=>if t.2.2.2.1=true/\k<=t.2.2.1 then a++[ed t]else a),jV k b [] [] rfl];rfl
theorem AD6{N:Nat}{a:List Tie}(h:oks N a):trs a a.length=trk a 0:=by rw[AJ9];unfold trk;congr 1;refine AUB fun t b => ?_;have:=((ALp N a).1 h).1 t b;rw[ARk this.2.2.2.1,AS4]
theorem RG2.inK{N:Nat}{a:List Tie}(h:RG2 N a)(k:Int):∀ e∈trk a k,In (N:Int) e.1/\In (N:Int) e.2.1:=fun e b=>h.inE e (dj a k e b)
theorem RG2.AQ7{N:Nat}{a:List Tie}(h:RG2 N a)(k:Int):(trk a k).length<=400:=ASz (AKA a k) h.ht
theorem RG2.ARe{N:Nat}{a:List Tie}(h:RG2 N a)(k:Int):∃ b,Gl (((N:Int),(a,())),k,())=some (((N:Int),(b,())),0,())/\FC (N:Int) b (trk a k):=by
 have f:=h.AQ7 k;have g:=h.h1;have i:=h.hN;rcases(gN (N:Int) (trk a k) ⟨by omega,by omega⟩ (by omega)).symm with⟨c,_⟩|⟨_,b,e,d⟩
 exact absurd (h.inK k) c;refine⟨b,?_,d⟩;rw[Of,NP];simp only[h.lr,ARp,AG6 (N:Int) a h.ht k,e]
theorem RG2.ANQ{N:Nat}{a:List Tie}(h:RG2 N a)(k:Int):∃ out,Gb ((N:Int),trk a k,())=some (out,())/\I8 (N:Int) (trk a k) out:=by have:=h.AQ7 k;have b:=h.h1;have c:=h.hN;exact D' (N:Int) (trk a k) ⟨by omega,by omega⟩ (by omega) (h.inK k)
noncomputable def bw(p:Prop):Bool:=@decide p (Classical.propDecidable _)
theorem Re(p:Prop):bw p=true↔p:=by unfold bw;exact @decide_eq_true_iff _ (Classical.propDecidable _)
theorem AFn{p:Prop}{b:Bool}(h:b=true↔p):b=bw p:=by rw[Bool.eq_iff_iff,Re];exact h
def xa(a:List Tie):Prop:=∀ e∈a.map ed,Con (trk a 0) e.1 e.2.1
theorem AC9{N:Nat}(m:1<=N)(n:N<=64){l i:List Edge}{o o':List Int}(j:I8 (N:Int) l o)(d:I8 (N:Int) i o')(p:∀ e∈l,In (N:Int) e.1/\In (N:Int) e.2.1)(k:∀ e∈i,In (N:Int) e.1/\In (N:Int) e.2.1):
  o=o'↔(∀ e∈l,Con i e.1 e.2.1)/\(∀ e∈i,Con l e.1 e.2.1):=by constructor;rintro rfl;refine⟨fun e f => ?_,fun e f => ?_⟩;obtain⟨g,h⟩:=p e f;exact(d.same _ _ g h).1 ((j.same _ _ g h).2 (.edge e f));obtain⟨g,h⟩:=k e f;exact(j.same _ _ g h).1 ((d.same _ _ g h).2 (.edge e f));rintro⟨q,r⟩;exact I8.unique m n j (I8.congr (fun a b=>⟨fun c=>c.cut r,fun c=>c.cut q⟩) d)
theorem XG{N:Nat}{a:List Tie}(h:RG2 N a):IM (((N:Int),(a,())),())=some (bw (xa a),()):=by have l:=h.ht;have c:=h.h1;have d:=h.hN;obtain⟨f,g,b⟩:=D' (N:Int) (a.map ed) ⟨by omega,by omega⟩ (by rw[ASZ];omega) h.inE;obtain⟨i,j,c2⟩:=h.ANQ 0;have:=b.len;rw[Jj,HZ];simp only[h.r21,nG (N:Int) a h.ht h.r21,g,yQ (N:Int) a h.ht,j,s7 f i (by omega)];congr 2;refine AFn ?_;rw[ATP,AC9 c d b c2 h.inE (h.inK 0)];exact⟨fun q=>q.1,fun q=>⟨q,fun e k=>.edge e (dj a 0 e k)⟩⟩
section
variable {N top:Nat} {ts w:List Tie} (hp:w.Perm ts) (hi:∀ x∈ts,InE N (ed x)) (hl:∀ t∈ts,0<=t.2.2.1/\t.2.2.1<=(top:Int)) (hfo:Fo N (trk ts 0)) (hlie:∀ x∈ts,x.2.2.2.1=false->Con (trk ts x.2.2.1) x.1 x.2.1)
include hp hi
include hl hfo hlie
end
def lvl(a:List Tie)(k:Int):List Tie:=a.filter fun t=>decide (t.2.2.1=k)
section
variable (n:Int) (ts:List Tie)
theorem XH(a:Ex ((n,(ts,())),())=some (false,())):IM ((n,(ts,())),())=some (false,()):=by rw[Jj,HZ];simp only[a]
end
def mid(f:Int->Int)(xs:List Int)(i:Nat):List Int:=(xs.take i).map f++xs.drop i
def lb(a:List Int)(v:Int):Int:=a.getD v.toNat 0
section
variable {α β:Type} [DecidableEq α]
end
end Go.Pev.Pl
end
section
namespace Go.Pev.Pl.SI
open Go.Sort
def ok(_:Int):Prop:=True
def lt(x y:Int):Bool:=decide (x<y)
theorem swo:SWO lt:=⟨fun x=>by simp[lt],fun x y z a b=>by simp only[lt,ARm]at *;omega,fun x y z a b=>by simp only[lt,ASf]at *;omega⟩
theorem AL7{x y:Int}(_:ok x)(_:ok y):∃ r,Cs (x,y,())=some (r,())/\tId r=lt x y:=by refine⟨decide (x<y),?_,rfl⟩;rw[mN,fT];simp only[JP,K5,BP,CU];by_cases h:x<y<;>simp[h]
noncomputable def S:SG.SP Int Bool:=⟨(0:Int),Cs,tId,ok,0,trivial,lt,swo,fun a b=>AL7 a b⟩
def sorted(xs:List Int):List Int:=xs.mergeSort (fun x y=>decide (x<=y))
end Go.Pev.Pl.SI
end
section
namespace Go.Pev.Pl
open Tok
section
variable (n:Int) (a2 a3:Bool) (a4 a5 top:Int)
end
section
variable {α:Type} (z:α)
end
structure Tsk where
 lo:Nat
 hi:Nat
 up:Option Nat
 wait:Nat
def fin:Nat->List Tsk->Option Nat->List Tsk×Bool
 |_,ts,none=>(ts,true)
 |0,ts,some _=>(ts,false)
 |k+1,ts,some x=>match ts[x]? with
  |none=>(ts,false)
  |some t=>if t.wait=0 then(ts,false)else if 0<t.wait-1 then(ts.set x { t with wait:=t.wait-1 },false)else fin k (ts.set x { t with wait:=t.wait-1 }) t.up
def rng(b:List Tsk)(a:Nat):List Nat:=match b[a]? with
 |some t=>List.range' t.lo (t.hi-t.lo)
 |none=>[]
def AN2(a:List Bool)(b:Nat):Nat->List Bool
 |0=>a
 |k+1=>(AN2 a b k).set (b+k) true
structure Crw where
 ts:List Tsk
 dn:List Bool
 ds:List (List Nat)
 ov:Bool
 st:Nat
 idl:Nat
structure Evt where
 w:Nat
 ft:Option (Nat×Nat)
 pt:Bool
def found(a:List (List Nat))(p v:Nat):Option (Nat×Nat×List (List Nat)):=
 match(a.getD p []).getLast? with
 |some t=>some (t,p,a.set p (a.getD p []).dropLast)
 |none=>match a.getD v []with
  |t::r=>some (t,v,a.set v r)
  |[]=>none
def AQ5(k:Tsk):Nat:=k.lo+(k.hi-k.lo)/2
def stp(g:Nat)(c:Crw)(p v:Nat):Crw×Evt:=
 match found c.ds p v with
 |none=>({ c with st:=c.st+1,idl:=c.idl+1 },⟨p,none,false⟩)
 |some (t,f,ds)=>match c.ts[t]? with
  |none=>(c,⟨p,none,false⟩)
  |some k=>if g<k.hi-k.lo then
    ({ c with ts:=c.ts.set t { k with wait:=2 }++[⟨k.lo,AQ5 k,some t,0⟩,⟨AQ5 k,k.hi,some t,0⟩],ds:=ds.set p (ds.getD p []++[c.ts.length+1,c.ts.length]),st:=c.st+1 },⟨p,some (f,t),true⟩)
   else({ ts:=(fin c.ts.length c.ts k.up).1,dn:=AN2 c.dn k.lo (k.hi-k.lo),ds:=ds,ov:=c.ov||(fin c.ts.length c.ts k.up).2,st:=c.st+1,idl:=c.idl },⟨p,some (f,t),false⟩)
theorem flatten_nil{l:List (List Nat)}(h:∀ i,i<l.length->l.getD i []=[]):l.flatten=[]:=by
 induction l with
  |nil=>rfl
  |cons a l c=>have b:=h 0 (by simp);simp at b;rw[AUA,b,ASO];refine c fun i hi => ?_;have:=h (i+1) (by grind);grind
structure Wok(g:Nat)(ts:List Tsk)(dn:List Bool):Prop where
 g1:1<=g
 g2:g<=100
 n1:1<=dn.length
 n2:dn.length<=1000
 t1:1<=ts.length
 t2:ts.length<=2000
 ok:∀ (i:Nat) (t:Tsk),ts[i]? = some t->t.lo<t.hi/\t.hi<=dn.length/\t.wait<=2/\∀ x,t.up=some x->x<i
structure Cok(g W:Nat)(c:Crw):Prop where
 wok:Wok g c.ts c.dn
 w1:1<=W
 w2:W<=8
 w:c.ds.length=W
 st:c.st<100000
 idl:c.idl<100000
 nod:c.ds.flatten.Nodup
 act:∀ a∈c.ds.flatten,∃ t:Tsk,c.ts[a]? = some t/\t.wait=0/\c.dn[t.lo]? = some false
 few:c.ts.length+2<=2000\/∀ a∈c.ds.flatten,∀ t:Tsk,c.ts[a]? = some t->¬ g<t.hi-t.lo
 short:c.ds.flatten.length<=1000
theorem zR{σ ρ:Type}{step:σ->Option (σ⊕ρ)}(st:Nat->σ)(N:Nat)(r:ρ)(a:N<9223372036854775808)(h:∀ i,i<N->step (st i)=some (.inl (st (i+1))))(b:step (st N)=some (.inr r)):A6 step many (st 0)=some r:=by
 have:=TC (step:=step) st (List.range N) (fun _=>false) (fun _=>r) r (by grind) (fun i x hi _=>by grind) (by grind)
 grind
section
variable {g n W:Nat} {c:Crw} {E:List Evt}
end
section
variable {g n W:Nat} {s:Crw×List Evt}
end
theorem ACB{n:Nat}(h:n<=4294967296):CC (n:Int)=true:=(Ei _).2 (by omega)
theorem AIa{α:Type}(n:Nat)(x:α):C5 (A3 (n:Int)) x=List.replicate n x:=by rw[SJ];rfl
def uv(p:Int×Int×List (List Int)×Unit):Prop:=1<=p.1/\p.1<=100/\1<=p.2.1/\p.2.1<=8/\p.2.2.1.length<=4000
instance (p:Int×Int×List (List Int)×Unit):Decidable (uv p):=by unfold uv;exact inferInstance
def blk(xs:List Int)(b i:Nat):List Int:=(xs.take (min xs.length ((i+1)*b))).drop (i*b)
section
variable {xs:List Int} {b:Nat} (hl:xs.length<=1000) (hb:1<=b) (hb2:b<=100)
include hl hb hb2
end
def kept(a:List Bool)(n:Nat):List Nat:=(List.range n).filter fun i=>a.getD i false
def nps(b:Nat):Nat:=(32+b-1)/b
section
variable {ks l:List Nat} {b p:Nat} (hk:∀ x∈ks,x<4294967296) (hb:1<=b) (hb2:b<=16) (hp:p<nps b) (hn:ks.length<=1000) (hl:l.Perm (List.range ks.length))
include hk hb hb2 hp hn hl
end
abbrev AOH:=Int×Int×List (List Int)×Unit
abbrev ANh:=Int×Int×AOH×Unit
def AOE(w:ANh):Prop:=1<=w.1/\w.1<=16/\1<=w.2.1/\w.2.1<=100/\uv w.2.2.1
section
variable {ks:List Nat} {b c:Nat} {p:AOH} (hk:∀ x∈ks,x<4294967296) (hn:ks.length<=1000)
end
end Go.Pev.Pl
end
section
namespace Go.Pev.Pl.SE
open Go.Sort
theorem LW{x y:Int×Int×Unit}(_:ok x)(_:ok y):∃ c,Bh (x,y,())=some (c,())/\ilt c (0:Int)=lt x y:=by rw[Mi,LO];simp only[My,or_val,BP,lt];grind
noncomputable def S:SG.SP (Int×Int×Unit) Int:=⟨((0:Int),((0:Int),())),Bh,tLt,ok,okz,OZ,lt,swo,fun a b=>LW a b⟩
theorem IN(xs:List (Int×Int×Unit))(h:xs.length<4294967296)(a:∀ x∈xs,ok x):∃ ys,vb (xs,())=some (ys,())/\ys.Perm xs/\ys.Pairwise fun x y=>lt y x=false:=SG.IN S xs h a
end Go.Pev.Pl.SE
namespace Go.Pev.Pl
open Tok
section
variable {α β:Type} [DecidableEq α]
end
end Go.Pev.Pl
end
section
namespace Go.Pev.Pl
def AM5(e:Edge):Prop:=0<=e.1/\e.1<65536/\0<=e.2.1/\e.2.1<65536
section
variable {l:List Edge} {w:ANh} (hf:∀ e∈l,AM5 e) (hn:l.length<=1000)
include hf hn
end
abbrev ANm:=Int×Int×Int×Unit
abbrev ANl:=Int×List Edge×List ANm×Unit
instance (e:Edge):Decidable (AM5 e):=by unfold AM5;exact inferInstance
def AM4(n:Int):Prop:=0<=n/\n<65536
instance (n:Int):Decidable (AM4 n):=by unfold AM4;exact inferInstance
def AJd(a:ANm):Prop:=1<=a.1/\a.1<=4/\AM4 a.2.1/\AM4 a.2.2.1
instance (a:ANm):Decidable (AJd a):=by unfold AJd;exact inferInstance
def WR(x:ANl):Prop:=((x.1=1\/x.1=2)/\x.2.2.1=[]/\x.2.1.length<=60/\∀ e∈x.2.1,AM5 e)\/(x.1=3/\x.2.1=[]/\x.2.2.1.length<=60/\∀ a∈x.2.2.1,AJd a)
instance (x:ANl):Decidable (WR x):=by unfold WR;exact inferInstance
def APX(a:ANm):List Int:=if a.1=1 then [a.2.1,a.2.2.1]else if a.1=2\/a.1=3 then [a.2.1]else []
def AOM(x:ANl):List Int:=(x.2.1.flatMap fun e=>[e.1,e.2.1])++x.2.2.1.flatMap APX
instance (w:ANh):Decidable (AOE w):=by unfold AOE;exact inferInstance
section
variable {n:Int} {ts:List Tie} {x:ANl} {w:ANh}
variable {N:Nat} (h:RG2 N ts) (hw:WR x)
include h hw
variable (hv:∀ v∈AOM x,v<(N:Int))
include hv
omit h hw in
end
open Tok
section
variable {α β:Type} [DecidableEq α]
end
end Go.Pev.Pl
end
section
namespace Go.Pev.Pl.ST
open Go.Sort
theorem LW{x y:Int×Int×Int×Bool×Unit}(_:ok x)(_:ok y):∃ c,Ct (x,y,())=some (c,())/\ilt c (0:Int)=lt x y:=by
 rw[mo,gJ,Mi,LO];simp only[My,or_val,BP,lt];refine⟨_,rfl,?_⟩;apply decide_eq_decide.2;by_cases d:x.1<y.1;simp[d];by_cases f:y.1<x.1;have a:¬ x.1=y.1:=by omega
 simp[d,f,a];have a:x.1=y.1:=by omega
 by_cases b:x.2.1<y.2.1;simp[a,b];by_cases e:y.2.1<x.2.1;simp[a,b,e];simp[a,b,e]
noncomputable def S:SG.SP (Int×Int×Int×Bool×Unit) Int:=⟨((0:Int),((0:Int),((0:Int),(false,())))),Ct,tLt,ok,okz,OZ,lt,swo,fun a b=>LW a b⟩
theorem IN(xs:List (Int×Int×Int×Bool×Unit))(h:xs.length<4294967296)(a:∀ x∈xs,ok x):∃ ys,vZ (xs,())=some (ys,())/\ys.Perm xs/\ys.Pairwise fun x y=>lt y x=false:=SG.IN S xs h a
end Go.Pev.Pl.ST
end
section
namespace Go.Pev.Pl
theorem Yn{N:Nat}{out:List Int}(f:out.length=N)(vs:List Int)(k:vs.length<100):SO (out,vs,())=some (decide (∀ v∈vs,InV N v),()):=by
 rw[cq,Yo,HV,E_,Ir,Fa]
 have e:=TC (step:=DA) (fun i=>(out,vs,A2 vs,(i:Int),())) vs (fun x => !decide (InV N x)) (fun i=>.inl (out,(i:Int),())) (.inr (.inl (out,()))) (by omega)
  (fun i x hi g=>by
   rw[DA]
   simp only[A']
   rw[A7,ARk hi]
   simp only[BD g]
   rw[BP,Bf,f,A8 (by omega)]
   by_cases c:x<0
   ·rw[ARk c,ARj (show ¬ InV N x from fun h=>by have:=h.1;omega)];rfl
   ·rw[ARj c]
    by_cases d:(N:Int)<=x
    ·rw[ARk d,ARj (show ¬ InV N x from fun h=>by have:=h.2;omega)];rfl
    ·rw[ARj d,ARk (show InV N x from⟨by omega,by omega⟩)];rfl)
  (by rw[DA,A',A7,ARj (by omega)])
 have j:A6 DA many (out,vs,A2 vs,(0:Int),())=_:=e;simp only[j];have a:(vs.any fun x => !decide (InV N x)) = !decide (∀ v∈vs,InV N v):=by grind
 rw[a];generalize decide (∀ v∈vs,InV N v)=b;cases b<;>simp[Bf]
theorem uJ{N:Nat}(g:N<=64){out:List Int}(b:out.length=N)(k u v:Int)(h:InV N u):Yr (out,out,k,u,v,())=some (out,k,u,v,(AP3 out N (cl out u):Int),()):=by
 rw[ct,Yq]
 have e:=DY (step:=KY) (fun i (a:Nat)=>(out,k,u,v,(a:Int),out,A2 out,(i:Int),())) (List.range N) (fun k a=>.inl (if out.getD k 0=cl out u then a+1 else a)) (fun a=>.inl (out,k,u,v,(a:Int),())) (fun i a=>a<=i) (by grind)
  (fun i x a hi d j=>by
   refine⟨fun l c => ?_,fun r c=>(by cases c)⟩
   cases c
   have:=E4 d
   subst this
   rw[AR2]at hi
   constructor
   ·rw[KY,A',b,A7,ARk hi]
    simp only[DZ 0 (show x<out.length by omega),iC b h,CG]
    rw[A8 (by omega),A8 (by omega)]
    grind
   grind)
  (fun a _=>by rw[KY,AR2,A',b,A7,ARj (by omega)]) 0 (ARo _)
 have f:A6 KY many (out,k,u,v,(0:Int),out,A2 out,(0:Int),())=_:=e;simp only[f];rw[B5 (fun k a=>if out.getD k 0=cl out u then a+1 else a),cZ (fun k=>out.getD k 0=cl out u),ASP];rfl
theorem uI{N:Nat}(g:N<=64){out:List Int}(c:out.length=N):gi (out,())=some ((cnt out N:Int),()):=by
 rw[cr,Yp]
 have e:=DY (step:=KX) (fun i (a:Nat)=>((a:Int),out,A2 out,(i:Int),())) (List.range N) (fun k a=>.inl (if out.getD k 0=(k:Int)then a+1 else a)) (fun a=>.inl ((a:Int),())) (fun i a=>a<=i) (by grind)
  (fun i x a hi d h=>by
   refine⟨fun j b => ?_,fun r b=>(by cases b)⟩
   cases b
   have:=E4 d
   subst this
   rw[AR2]at hi
   constructor
   ·rw[KX,A',c,A7,ARk hi]
    simp only[DZ 0 (show x<out.length by omega),CG]
    rw[A8 (by omega),A8 (by omega)]
    grind
   grind)
  (fun a _=>by rw[KX,AR2,A',c,A7,ARj (by omega)]) 0 (ARo _)
 have f:A6 KX many ((0:Int),out,A2 out,(0:Int),())=_:=e;simp only[f];rw[B5 (fun k a=>if out.getD k 0=(k:Int)then a+1 else a),cZ (fun k=>out.getD k 0=(k:Int)),ASP];rfl
theorem n0{N:Nat}(e:N<=64){out:List Int}(b:out.length=N)(a:Ask):Qy (out,a,())=some (ans N out a):=by obtain⟨k,u,v,⟨⟩⟩:=a;rw[Y6,Sa];unfold ans;simp only[CG,Yn b [u,v] (by simp),Yn b [u] (by simp),uI e b];by_cases c:k=1;simp only[ARk c,ARt c];by_cases h:InV N u/\InV N v;rw[ARt h,ARk (show ∀ x∈[u,v],InV N x by simp[h])];simp only[ARp,iC b h.1,iC b h.2];grind;grind;simp only[ARj c,ARv c];by_cases d:k=2;simp only[ARk d,ARt d];by_cases h:InV N u;rw[ARt h,ARk (show ∀ x∈[u],InV N x by simp[h])];simp only[ARp,iC b h];grind;simp only[ARj d,ARv d];by_cases f:k=3;simp only[ARk f,ARt f];by_cases h:InV N u;rw[ARt h,ARk (show ∀ x∈[u],InV N x by simp[h])];simp only[ARp,uJ e b k u v h];grind;grind
theorem Zl{n:Int}{b:List Tie}{N:Nat}{out:List Int}(c:N<=64)(d:out.length=N)(h:bh ((n,(b,())),())=some (out,true,()))(a:Ask):Pg ((n,(b,())),a,())=some (ans N out a):=by rw[XU,RZ];have e:=n0 c d a;obtain⟨k,u,v,⟨⟩⟩:=a;simp only[h,ARp,e]
theorem wj:∀ x:Nat,0<x->∃ k m,x=2 ^ k*(2*m+1):=by
 intro x;induction x using Nat.strongRecOn with
  |_ x a=>intro b;by_cases h:x % 2=1;exact⟨0,x/2,by rw[Nat.pow_zero];omega⟩;obtain⟨k,m,e⟩:=a (x/2) (by omega) (by omega);refine⟨k+1,m,?_⟩;rw[Nat.pow_succ,Nat.mul_comm (2 ^ k) 2,Nat.mul_assoc,<- e];omega
theorem P8(k m j:Nat):(2 ^ k*(2*m+1)).testBit j=if j<k then false else if j=k then true else m.testBit (j-k-1):=by
 have:=Nat.testBit_two_pow_mul_add (2*m+1) (Nat.two_pow_pos k) j;rw[AS0]at this;rw[this];by_cases a:j<k;rw[ARt a,ARt a,Nat.zero_testBit];rw[ARv a,ARv a];by_cases b:j=k;subst b;rw[ARt rfl,AS3,Nat.testBit_zero];simp;rw[ARv b];obtain⟨d,hd⟩:∃ d,j-k=d+1:=⟨j-k-1,by omega⟩
 rw[hd,Nat.testBit_succ,show(2*m+1)/2=m by omega];rfl
theorem ABP(k m j:Nat):(2 ^ k*(2*m+1)-1).testBit j=if j<k then true else if j=k then false else m.testBit (j-k-1):=by
 have c:=Nat.two_pow_pos k;have e:2 ^ k*(2*m+1)-1=2 ^ k*(2*m)+(2 ^ k-1):=by rw[Nat.mul_add,ATt];omega
 rw[e,Nat.testBit_two_pow_mul_add (2*m) (by omega) j];by_cases a:j<k;rw[ARt a,ARt a,Nat.testBit_two_pow_sub_one];simpa using a;rw[ARv a,ARv a];by_cases b:j=k;subst b;rw[ARt rfl,AS3,Nat.testBit_zero];simp;rw[ARv b];obtain⟨d,hd⟩:∃ d,j-k=d+1:=⟨j-k-1,by omega⟩
 rw[hd,Nat.testBit_succ,show(2*m)/2=m by omega];rfl
theorem AL3{k m:Nat}(h:2 ^ k*(2*m+1)<2 ^ 32):2 ^ k*(2*m+1) &&& (2 ^ 32-2 ^ k*(2*m+1))=2 ^ k:=by
 have f:=Nat.two_pow_pos k;have d:0<2 ^ k*(2*m+1):=Nat.mul_pos f (by omega);have g:k<32:=by have:2 ^ k*1<=2 ^ k*(2*m+1):=Nat.mul_le_mul_left _ (by omega);exact(Nat.pow_lt_pow_iff_right (a:=2) (by omega)).1 (by omega)
 apply Nat.eq_of_testBit_eq;intro j;have e:2 ^ 32-2 ^ k*(2*m+1)=2 ^ 32-((2 ^ k*(2*m+1)-1)+1):=by omega
 rw[Nat.testBit_and,e,Nat.testBit_two_pow_sub_succ (by omega),P8,ABP,Nat.testBit_two_pow];by_cases b:j<k;rw[ARt b];simp;omega;rw[ARv b,ARv b];by_cases c:j=k;subst c;simp[g];rw[ARv c,ARv c];rw[ARj (show ¬ k=j by omega)];cases m.testBit (j-k-1)<;>simp
def hgt(x:Nat):Nat:=(((List.range 7).find? fun j=>x.testBit j).map (· + 1)).getD 8
theorem wx(k m:Nat):hgt (2 ^ k*(2*m+1))=min (k+1) 8:=by
 unfold hgt;by_cases h:k<7;have:(List.range 7).find? (fun j=>(2 ^ k*(2*m+1)).testBit j)=some k:=by rw[List.find?_range_eq_some];refine⟨by rw[P8,ARv (by omega),ARt rfl],by rw[ASW];exact h,fun j a => ?_⟩;rw[P8,ARt a];rfl
 rw[this];simp only[AS6,ASM];omega;have:(List.range 7).find? (fun j=>(2 ^ k*(2*m+1)).testBit j)=none:=by rw[List.find?_eq_none];intro j a;rw[ASW]at a;rw[P8,ARt (by omega)];simp
 rw[this];simp only[Option.map_none,Option.getD_none];omega
theorem YQ:hgt 0=8:=by decide
theorem wv(x:Nat):1<=hgt x/\hgt x<=8:=by rcases ATG x with rfl|h;rw[YQ];omega;obtain⟨k,m,rfl⟩:=wj x h;rw[wx];omega
theorem AOX:((List.range 32).all fun k=>decide (ml[(2 ^ k*125613361) % 4294967296/134217728]? = some ((k:Nat):Int)/\(2 ^ k*125613361) % 4294967296/134217728<32))=true:=by decide +kernel
theorem ADu(x:Nat)(r:x<4294967296):yF ((x:Int),())=some (if x=0 then 32 else((hgt x-1:Nat):Int),())\/∃ k:Nat,yF ((x:Int),())=some ((k:Int),())/\k<=32/\min (k+1) 8=hgt x:=by
 right;rw[vK,ow,CG];by_cases d:x=0;subst d;rw[ARk (show((0:Nat):Int)=0 from rfl),YQ];exact⟨32,rfl,by omega,by omega⟩;rw[ARj (by omega)];obtain⟨k,m,rfl⟩:=wj x (by omega);have s:=Nat.two_pow_pos k;have e:k<32:=by have:2 ^ k*1<=2 ^ k*(2*m+1):=Nat.mul_le_mul_left _ (by omega);exact(Nat.pow_lt_pow_iff_right (a:=2) (by omega)).1 (by omega)
 have f:=AL3 (k:=k) (m:=m) (by omega);rw[wx];generalize 2 ^ k*(2*m+1)=x at *;have g:IntKind.wrap .u32 (0-(x:Int))=((4294967296-x:Nat):Int):=by rw[IntKind.wrap_u32];omega
 have h:(BitVec.ofInt (IntKind.bits .u32) (x:Int) &&& BitVec.ofInt (IntKind.bits .u32) ((4294967296-x:Nat):Int)).toNat=2 ^ k:=by
  show(BitVec.ofInt 32 (x:Int) &&& BitVec.ofInt 32 ((4294967296-x:Nat):Int)).toNat=2 ^ k;rw[BitVec.toNat_and,BitVec.toNat_ofInt,BitVec.toNat_ofInt];have i:((x:Int) % ((2 ^ 32:Nat):Int)).toNat=x:=by omega
  have j:(((4294967296-x:Nat):Int) % ((2 ^ 32:Nat):Int)).toNat=4294967296-x:=by omega
  rw[i,j];exact f
 have b:2 ^ k<=2 ^ 31:=Nat.pow_le_pow_right (by omega) (by omega);rw[g,h,IntWalk.u32_in ((2 ^ k:Nat):Int) ⟨by omega,by omega⟩];have l:IntKind.wrap .u32 (((2 ^ k:Nat):Int)*125613361)=((2 ^ k*125613361 % 4294967296:Nat):Int):=by rw[IntKind.wrap_u32];omega
 have n:shr? .u32 ((2 ^ k*125613361 % 4294967296:Nat):Int) (27:Int)=some ((2 ^ k*125613361 % 4294967296/134217728:Nat):Int):=by rw[eK,yt,ARv (by omega),show min (27:Int).toNat (IntKind.bits .u32)=27 from rfl,Int.fdiv_eq_ediv_of_nonneg _ (by decide)];rfl
 rw[l];simp only[n];have c:=AR1.1 AOX k (by rw[ASW];exact e);rw[ATP]at c;obtain⟨o,t⟩:=c;generalize 2 ^ k*125613361 % 4294967296/134217728=q at *;simp only[Bf,BP];have p:A2 ml=32:=rfl;rw[p,ARk (show(0:Int)<=(q:Int) by omega),ARk (show(q:Int)<32 by omega)];simp only[ASJ,KV o];rw[BK (by omega)];exact⟨k,rfl,by omega,rfl⟩
theorem nv(x:Nat)(b:x<4294967296):VF ((x:Int),())=some ((hgt x:Int),()):=by
 rw[Y4,SY];obtain⟨k,e,d,c⟩:∃ k:Nat,yF ((x:Int),())=some ((k:Int),())/\k<=32/\min (k+1) 8=hgt x:=by rcases ADu x b with e|h;by_cases a:x=0;rw[ARt a]at e;subst a;exact⟨32,e,by omega,by rw[YQ];omega⟩;rw[ARv a]at e;have:=wv x;exact⟨hgt x-1,e,by omega,by omega⟩;exact h
 simp only[e];rw[A8 (by omega),fk,<- c];congr 2;omega
theorem foldI{α:Type}(f:Nat->α->α)(I:Nat->α->Prop):∀ (m:Nat) (a:α),(∀ k a,k<m->I k a->I (k+1) (f k a))->I 0 a->I m ((List.range m).foldl (fun a k=>f k a) a):=by
 intro m;induction m with
  |zero=>intro a _ h;exact h
  |succ m c=>intro a b d;rw[ASV,List.foldl_append];exact b m _ (by omega) (c a (fun k a e=>b k a (by omega)) d)
theorem eb{m i x:Nat}(h:(List.range m)[i]? = some x):x=i/\i<m:=by obtain⟨a,b⟩:=ASU.1 h;rw[AR2]at a;rw[List.getElem_range]at b;exact⟨b.symm,a⟩
theorem tj{α:Type}(n:Nat)(x:α):C5 n x=List.replicate n x:=rfl
noncomputable def htF(a:List Int)(t:Int):Int:=if t<0 then 1 else match Y0 (a,t,())with
 |some (x,_)=>(hgt x.toNat:Int)
 |none=>1
def U32(l:List Int):Prop:=∀ x∈l,0<=x/\x<=4294967295
theorem nX{s:List Int}(b:U32 s){t:Int}(c:0<=t):∃ x:Nat,Y0 (s,t,())=some ((x:Int),())/\x<4294967296:=by obtain⟨t,rfl⟩:=ARq c;rw[cx,Yz,BP,ARj (by omega),A',CG];by_cases f:s.length=0;rw[ARk (by omega)];exact⟨0,rfl,by omega⟩;rw[ARj (by omega)];simp only[UL (show 0<s.length by omega)];have a:t % s.length<s.length:=ATB _ (by omega);have d:s[t % s.length]? = some s[t % s.length]:=ARs a;have e:=b _ (ASj a);simp only[BD d];generalize s[t % s.length]=x at *;obtain⟨x,rfl⟩:=ARq e.1;exact⟨x,rfl,by omega⟩
theorem AMX{s:List Int}(a:U32 s)(t:Int):1<=htF s t/\htF s t<=8:=by unfold htF;by_cases h:t<0;rw[ARt h];omega;rw[ARv h];obtain⟨x,e,_⟩:=nX a (show 0<=t by omega);simp only[e];have:=wv (x:Int).toNat;omega
theorem AG5(f:Int->Int):∀ (xs a:List Int),xs.foldl (fun a x=>a++[f x]) a=a++xs.map f:=by
 intro xs;induction xs with
  |nil=>intro a;simp
  |cons x xs b=>intro a;rw[ASg,b];simp
theorem Zj{s:List Int}(d:U32 s)(b:List Int)(l:b.length<=1000):NG (b,s,())=some (b.map (htF s),()):=by
 have e:=DY (step:=FQ) (fun i (a:List Int)=>(s,a,b,A2 b,(i:Int),())) b (fun x a=>.inl (a++[htF s x])) (fun a=>.inl (a,())) (fun i a=>a.length<=i) (by omega)
  (fun i x a hi f m=>by
   refine⟨fun n c => ?_,fun r c=>(by cases c)⟩
   cases c
   constructor
   ·rw[FQ,A',A7,ARk hi]
    simp only[BD f,A']
    rw[A8 (by omega),BP]
    unfold htF
    by_cases h:x<0
    ·rw[ARk h,ARt h]
     simp only
     rw[Cw (by simp only[ASb];omega)]
     rfl
    ·rw[ARj h,ARv h]
     obtain⟨y,g,j⟩:=nX d (show 0<=x by omega)
     simp only[g,nv y j,ASQ]
     rw[Cw (by simp only[ASb];omega)]
     rfl
   ·simp;omega)
  (fun a _=>by rw[FQ,A',A7,ARj (by omega)]) [] (ARo _)
 rw[PQ,Lz];have k:A6 FQ many (s,([]:List Int),b,A2 b,(0:Int),())=_:=e;simp only[k];rw[B5 (fun(x:Int) (a:List Int)=>a++[htF s x]),AG5];rfl
structure HO(H:List Int)(n:Nat):Prop where
 len:H.length=n
 pos:0<n
 top:n<=1000
 rng:∀ h∈H,1<=h/\h<=8
theorem HO.at{H:List Int}{n:Nat}(h:HO H n){i:Nat}(hi:i<n):1<=H.getD i 0/\H.getD i 0<=8/\idx H (i:Int)=some (H.getD i 0):=by
 have b:=h.len;have a:H.getD i 0∈H:=by rw[ARn,ARs (by omega)];exact ASj _
 have:=h.rng _ a;exact⟨by omega,by omega,DZ 0 (by omega)⟩
def kst(H:List Int)(n i h:Nat):Nat:=(((List.range n).find? fun k=>decide ((h:Int)<H.getD ((i+(k+1)) % n) 0)).map (· + 1)).getD 1
def nxL(H:List Int)(n i:Nat):List Int:=(List.range (H.getD i 0).toNat).map fun h=>(((i+kst H n i h) % n:Nat):Int)
def NX(H:List Int)(n:Nat):List (List Int):=(List.range n).map (nxL H n)
theorem X_{H:List Int}{n i h:Nat}(f:0<n)(hi:i<n)(c:(h:Int)<H.getD i 0):
  1<=kst H n i h/\kst H n i h<=n/\(h:Int)<H.getD ((i+kst H n i h) % n) 0/\∀ k,1<=k->k<kst H n i h->H.getD ((i+k) % n) 0<=(h:Int):=by
 unfold kst;cases a:(List.range n).find? (fun k=>decide ((h:Int)<H.getD ((i+(k+1)) % n) 0))with
  |none=>exfalso;rw[List.find?_eq_none]at a;have:=a (n-1) (by rw[ASW];omega);rw[show i+(n-1+1)=i+n by omega,AUD,AR9 hi]at this;exact this (ARk c)
  |some k=>rw[List.find?_range_eq_some]at a;obtain⟨b,d,e⟩:=a;rw[ASW]at d;rw[ATP]at b;simp only[AS6,ASM];refine⟨by omega,by omega,b,fun j g l => ?_⟩;have:=e (j-1) (by omega);rw[show i+(j-1+1)=i+j by omega]at this;simpa using this
def psn(n k:Nat):Nat:=n-1-k % n
theorem kX{n k j:Nat}(b:0<n)(g:j<=k)(c:j<=n):psn n (k-j)=(psn n k+j) % n:=by
 unfold psn;have i:k % n<n:=ATB _ b;obtain⟨q,a⟩:∃ q,k=n*q+k % n:=⟨k/n,(Nat.div_add_mod k n).symm⟩
 generalize k % n=r at *;by_cases h:j<=r;have e:(k-j) % n=r-j:=by rw[a,show n*q+r-j=r-j+n*q by omega,Nat.add_mul_mod_self_left,AR9 (by omega)]
 rw[e,AR9 (by omega)];omega;have d:1<=q:=by grind
 obtain⟨p,rfl⟩:∃ p,q=p+1:=⟨q-1,by omega⟩
 have e:(k-j) % n=n+r-j:=by rw[a,Nat.mul_add,ATt,show n*p+n+r-j=n+r-j+n*p by omega,Nat.add_mul_mod_self_left];by_cases l:n+r-j=n;omega;exact AR9 (by omega)
 rw[e];by_cases f:j=n;subst f;rw[AUD,AR9 (by omega)];omega;rw[show n-1-r+j=n+(j-r-1) by omega,Nat.add_mod_left,AR9 (by omega)];omega
theorem AFh{n k:Nat}(a:0<n):psn n k<n:=by unfold psn;omega
def yv(B:List Int)(i:Nat)(m:Nat):List Int:=(List.range m).foldl (fun B h=>B.set h (i:Int)) B
theorem bX(B:List Int)(i m:Nat)(b:m<=B.length):(yv B i m).length=B.length/\∀ h,(yv B i m).getD h 0=if h<m then(i:Int)else B.getD h 0:=by
 have:=foldI (fun h (B:List Int)=>B.set h (i:Int)) (fun k C=>C.length=B.length/\∀ h,C.getD h 0=if h<k then(i:Int)else B.getD h 0) m B (fun k C c a=>by obtain⟨d,c2⟩:=a;refine⟨by grind,fun h => ?_⟩;rw[ARn,ASr];by_cases e:k=h;grind;rw[ARv e,<- ARn,c2];omega) ⟨rfl,fun h=>by simp⟩
 exact this
theorem ANo(H:List Int)(n:Int)(T a:List Int)(M:List (List Int))(B:List Int)(d:B.length=8)(i:Nat)(b c:Int)(m:Nat)(o:m<=8):
  A6 E2 many (H,n,T,a,M,B,(i:Int),b,c,(m:Int),(0:Int),())=some (.inl (H,n,T,a,M,yv B i m,b,c,())):=by
 have e:=DY (step:=E2) (fun h (B:List Int)=>(H,n,T,a,M,B,(i:Int),b,c,(m:Int),(h:Int),())) (List.range m) (fun h B=>.inl (B.set h (i:Int))) (fun B=>.inl (H,n,T,a,M,B,b,c,())) (fun j B=>B.length=8) (by grind)
  (fun j x B p k d=>by
   refine⟨fun q f => ?_,fun r f=>(by cases f)⟩
   cases f
   obtain⟨rfl,g⟩:=eb k
   constructor
   ·unfold E2
    dsimp only
    rw[A7,ARk g,Bf,ARk (by omega),BP,ARk (by omega),A',d,BP,ARk (by omega),Jx,A8 (by omega)]
    rfl
   grind)
  (fun B _=>by
   rw[AR2]
   unfold E2
   dsimp only
   rw[A7,ARj (by omega)]) B d
 have l:A6 E2 many (H,n,T,a,M,B,(i:Int),b,c,(m:Int),(0:Int),())=_:=e;rw[l,B5 (fun(h:Nat) (B:List Int)=>B.set h (i:Int))];rfl
abbrev TS:=List (List Int)×List Int
def hAt(H:List Int)(i:Nat):Nat:=(H.getD i 0).toNat
def twF(H:List Int)(n k:Nat)(a:TS):TS:=(if n<=k then a.1.set (psn n k) (a.2.take (hAt H (psn n k)))else a.1,yv a.2 (psn n k) (hAt H (psn n k)))
structure TI2(H:List Int)(n k:Nat)(a:TS):Prop where
 lenM:a.1.length=n
 lenB:a.2.length=8
 near:∀ h j,1<=j->j<=k->h<hAt H (psn n (k-j))->(∀ j',1<=j'->j'<j->hAt H (psn n (k-j'))<=h)->a.2.getD h 0=((psn n (k-j):Nat):Int)
 rows:∀ k',n<=k'->k'<k->a.1.getD (psn n k') []=nxL H n (psn n k')
theorem HO.hAt{H:List Int}{n:Nat}(a:HO H n){i:Nat}(hi:i<n):1<=hAt H i/\hAt H i<=8/\H.getD i 0=(hAt H i:Int):=by obtain⟨b,c,_⟩:=a.at hi;unfold Go.Pev.Pl.hAt;omega
theorem TI2.step{H:List Int}{n k:Nat}(i:HO H n)(C:k<2*n){a:TS}(h:TI2 H n k a):TI2 H n (k+1) (twF H n k a):=by
 have f:=i.pos;have hi:=AFh (k:=k) f;obtain⟨D,E,F⟩:=i.hAt hi;have t:=h.lenB;obtain⟨G,u⟩:=bX a.2 (psn n k) (hAt H (psn n k)) (by omega);refine⟨?_,?_,?_,?_⟩;unfold twF;simp only;split;rw[ASt];exact h.lenM;exact h.lenM;show(yv a.2 _ _).length=8;omega;intro x j v I l c;show(yv a.2 (psn n k) (hAt H (psn n k))).getD x 0=_;rw[u];by_cases J:j=1;grind;have m:=c 1 (by omega) (by omega);rw[Nat.add_sub_cancel]at m;rw[ARv (by omega)];have e:∀ z,1<=z->k+1-z=k-(z-1):=fun z K=>by omega
 rw[e j v]at l |-;refine h.near x (j-1) (by omega) (by omega) l fun g r s => ?_;have:=c (g+1) (by omega) (by omega);grind;intro b m L;by_cases e:b=k;subst e;unfold twF;simp only;rw[ARt m,ARn,ASr,ARt rfl,ARt (by rw[h.lenM];exact hi)];simp only[ASM];apply AS5;intro x;unfold nxL;rw[ATg,ASX];by_cases l:x<hAt H (psn n b);rw[ARt l];have o:(List.range (H.getD (psn n b) 0).toNat)[x]? = some x:=by grind
 rw[o];have p:a.2[x]? = some (a.2.getD x 0):=by grind
 rw[p];obtain⟨w,y,M,A⟩:=X_ (H:=H) (h:=x) f hi (by omega);simp only[AS6];generalize kst H n (psn n b) x=d at *;have B:=kX (k:=b) (j:=d) f (by omega) y;have:=h.near x d w (by omega) (by
  rw[B];have:=(i.hAt (ATB (psn n b+d) f)).2.2;omega) fun g r s=>by
  rw[kX (k:=b) (j:=g) f (by omega) (by omega)];have:=A g r s;have:=(i.hAt (ATB (psn n b+g) f)).2.2;omega
 grind;grind;have q:psn n k≠psn n b:=by
  unfold psn;have N:k % n=k-n:=by rw[AT6 (by omega),AR9 (by omega)]
  have O:b % n=b-n:=by rw[AT6 (by omega),AR9 (by omega)]
  omega
 unfold twF;simp only;rw[ARt (by omega),ARn,ATL q,<- ARn];exact h.rows b m (by omega)
theorem AJ7{H:List Int}{n:Nat}(b:HO H n):((List.range (2*n)).foldl (fun a k=>twF H n k a) (List.replicate n [],List.replicate 8 0)).1=NX H n:=by
 have l:=b.pos;have c:=foldI (twF H n) (TI2 H n) (2*n) (List.replicate n [],List.replicate 8 0) (fun k a f h=>h.step b f) ⟨by simp,by simp,fun h j m o=>by omega,fun p q r=>by omega⟩;generalize (List.range (2*n)).foldl (fun a k=>twF H n k a) (List.replicate n [],List.replicate 8 0)=a at *;have d:=c.lenM;refine Em ([]:List Int) ?_ fun i hi => ?_;unfold NX;grind;have g:i<n:=by omega
 have:=c.rows (2*n-1-i) (by omega) (by omega);have e:psn n (2*n-1-i)=i:=by unfold psn;rw[AT6 (by omega),AR9 (by omega)];omega
 rw[e]at this;rw[this];unfold NX;grind
theorem AHc(x:Int):db (x,())=some (decide (1<=x/\x<=8),()):=by rw[av,Wp,Bf,Bf];grind
theorem Tr{H:List Int}{n:Nat}(a:HO H n):Hi (H,())=some (false,()):=by
 have c:=a.len;have i:=a.top
 have e:=zR (step:=EM) (fun k=>(H,(n:Int),(k:Int),())) n (.inr (.inl ())) (by omega)
  (fun k b=>by
   obtain⟨d,f,g⟩:=a.at b
   unfold EM
   dsimp only
   rw[A7,ARk b]
   simp only[g,AHc]
   rw[ARk (show 1<=H.getD k 0/\H.getD k 0<=8 from⟨d,f⟩),A8 (by omega)]
   rfl)
  (by unfold EM;dsimp only;rw[A7,ARj (by omega)])
 rw[Ll,Iy,MW,Jr,A',c];have h:A6 EM many (H,(n:Int),(0:Int),())=_:=e;simp only[h,Bf];rfl
theorem Si{b H:List Int}{n:Nat}(s:Rt b)(t:b.length=n)(c:HO H n):PR (b,H,())=some (b,H,NX H n,0,()):=by
 have E:=c.top;have i:=c.pos;have u:=c.len;have hd:MC (b,())=some (true,()):=by rw[Kz];simp[s]
 rw[Wr,RQ];simp only[A',t,u,CG];rw[ARj (by omega)];simp only[ARx,ARp,hd,Tr c,O8 (show b.length<=4294967296 by omega),O8 (show H.length<=4294967296 by omega)];have j:CC (n:Int)=true:=(Ei _).2 (by omega);rw[j,Dt,ARk (ARo n),SJ,tj,tj,af (by omega)];simp only[ASJ]
 have e:=DY (step:=IJ) (fun k (a:TS)=>(H,(n:Int),b,H,a.1,a.2,((2*n:Nat):Int),(k:Int),())) (List.range (2*n)) (fun k a=>.inl (twF H n k a)) (fun a=>.inl (b,H,a.1,())) (fun k a=>a.1.length=n/\a.2.length=8) (by grind)
  (fun k x a F v w=>by
   refine⟨fun G l => ?_,fun r l=>(by cases l)⟩
   cases l
   obtain⟨rfl,m⟩:=eb v
   obtain⟨I,lb⟩:=w
   have hi:=AFh (k:=x) i
   obtain⟨J,q,y⟩:=c.hAt hi
   have o:=(c.at hi).2.2
   constructor
   ·unfold IJ
    dsimp only
    rw[A7,ARk m,UL i]
    have K:x % n<n:=ATB _ i
    have A:w64 ((w64 ((n:Int)-(1:Int)))-((x % n:Nat):Int))=((psn n x:Nat):Int):=by
     rw[Br (by omega),ED (by omega)]
     rfl
    simp only[A,o,y]
    rw[Dt]
    by_cases d:n<=x
    ·rw[ARk d]
     have g:=pf (xs:=a.2) (h:=hAt H (psn n x)) (by omega)
     have f:(a.2.take (hAt H (psn n x))).length=hAt H (psn n x):=by grind
     have p:∃ z,idx a.1 ((psn n x:Nat):Int)=some z:=AHZ (by omega)
     obtain⟨z,B⟩:=p
     simp only[g,A',f,SJ,HP,List.drop_zero,O8 (show(a.2.take (hAt H (psn n x))).length<=4294967296 by omega),B,Jx]
     rw[ANo H (n:Int) b H _ a.2 lb (psn n x) _ _ _ q]
     simp only
     rw[A8 (by omega)]
     unfold twF
     rw[ARt d]
     rfl
    ·rw[ARj d]
     simp only
     rw[ANo H (n:Int) b H _ a.2 lb (psn n x) _ _ _ q]
     simp only
     rw[A8 (by omega)]
     unfold twF
     grind
   ·obtain⟨C,_⟩:=bX a.2 (psn n x) (hAt H (psn n x)) (by omega)
    refine⟨?_,C.trans lb⟩
    unfold twF
    grind)
  (fun a _=>by
   rw[AR2]
   unfold IJ
   dsimp only
   rw[A7,ARj (by omega)]) (List.replicate n [],List.replicate 8 0) ⟨by simp,by simp⟩
 have D:A6 IJ many (H,(n:Int),b,H,List.replicate n ([]:List Int),List.replicate 8 (0:Int),((2*n:Nat):Int),(0:Int),())=_:=e;simp only[D];rw[B5 (fun(k:Nat) (a:TS)=>twF H n k a),AJ7 c]
theorem ON(xs:List Int)(c:xs.length<=4294967296):SB (xs,xs,())=some (true,()):=by
 rw[cd,YZ];simp only[CH,ARp]
 have e:=zR (step:=KT) (fun k=>(xs,xs,(xs.length:Int),(k:Int),())) xs.length (.inr (.inl ())) (by omega)
  (fun k a=>by
   unfold KT
   dsimp only
   rw[A7,ARk a]
   simp only[DZ 0 a,CH,ARp]
   rw[A8 (by omega)])
  (by unfold KT;dsimp only;rw[A7,ARj (by omega)])
 have b:A6 KT many (xs,xs,A2 xs,(0:Int),())=_:=e;simp only[b]
theorem bk(xs:List (List Int))(d:xs.length<=4294967296)(hi:∀ x∈xs,x.length<=4294967296):Qi (xs,xs,())=some (true,()):=by
 rw[Ya,SC];simp only[CH,ARp]
 have e:=zR (step:=Iu) (fun k=>(xs,xs,(xs.length:Int),(k:Int),())) xs.length (.inr (.inl ())) (by omega)
  (fun k a=>by
   have b:xs[k]? = some xs[k]:=ARs a
   unfold Iu
   dsimp only
   rw[A7,ARk a]
   simp only[BD b,ON _ (hi _ (ASj a)),ARp]
   rw[A8 (by omega)])
  (by unfold Iu;dsimp only;rw[A7,ARj (by omega)])
 have c:A6 Iu many (xs,xs,A2 xs,(0:Int),())=_:=e;simp only[c]
theorem iM(H:List Int)(n:Nat):(NX H n).length=n:=by unfold NX;simp
theorem AJs(H:List Int){n i:Nat}(hi:i<n):(NX H n)[i]? = some (nxL H n i):=by unfold NX;rw[ASX,AS9 hi];rfl
theorem AQJ{H:List Int}{n:Nat}(b:HO H n){x:List Int}(a:x∈NX H n):x.length<=8:=by unfold NX at a;obtain⟨i,hi,rfl⟩:=ASC.1 a;rw[ASW]at hi;have:=b.hAt hi;unfold nxL;rw[ASZ,AR2];unfold hAt at this;omega
theorem jS{a H:List Int}{n:Nat}(d:a.length=n)(b:HO H n):dZ ((a,(H,(NX H n,()))),(a,(H,(NX H n,()))),())=some (true,()):=by have e:=b.top;have f:=b.len;rw[ar,Wm];simp only[ON a (by omega),ON H (by omega),bk (NX H n) (by rw[iM];omega) (fun x c=>by have:=AQJ b c;omega)]
theorem Wn{a H:List Int}{n:Nat}(d:Rt a)(b:a.length=n)(c:HO H n):JC ((a,(H,(NX H n,()))),())=some (true,()):=by rw[Wo,RP];simp only[Si d b c,CH,jS b c]
structure WO(w:List Int)(n:Nat):Prop where
 len:w.length=n
 rng:∀ x∈w,0<=x/\x<=1
theorem WO.at{w:List Int}{n:Nat}(h:WO w n)(i:Nat):0<=w.getD i 0/\w.getD i 0<=1:=by
 rw[ARn];cases a:w[i]? with
  |none=>simp
  |some x=>exact h.rng x (ARu a)
def pre(w:List Int):Nat->Int
 |0=>0
 |j+1=>pre w j+w.getD j 0
def EZ(w:List Int)(n i:Nat):Nat->Int
 |0=>0
 |d+1=>EZ w n i d+w.getD ((i+d) % n) 0
theorem Pp{w:List Int}{n:Nat}(h:WO w n):∀ j,0<=pre w j/\pre w j<=(j:Int)
 |0=>by simp[pre]
 |j+1=>by have:=Pp h j;have:=h.at j;rw[pre];omega
theorem PZ{w:List Int}{n:Nat}(h:WO w n)(i:Nat):∀ d,0<=EZ w n i d/\EZ w n i d<=(d:Int)
 |0=>by simp[EZ]
 |d+1=>by have:=PZ h i d;have:=h.at ((i+d) % n);rw[EZ];omega
theorem jl(w:List Int){n i:Nat}(hi:i<n):∀ d,d<=n->EZ w n i d=if i+d<=n then pre w (i+d)-pre w i else pre w n-pre w i+pre w (i+d-n):=by
 intro d;induction d with
  |zero=>intro _;rw[ARt (by omega)];simp[EZ]
  |succ d b=>intro hd;rw[EZ,b (by omega),AG3 (by omega)];by_cases a:i+d<n;rw[ARt (by omega),ARt a,ARt (by omega),<- ATR,pre];omega;by_cases c:i+d=n;rw[ARt (by omega),ARv a,ARv (by omega),show i+(d+1)-n=0+1 by omega,show i+d-n=0 by omega,c];simp only[pre];omega;rw[ARv (by omega),ARv a,ARv (by omega),show i+(d+1)-n=i+d-n+1 by omega,pre];omega
def ou(w:List Int)(n i:Nat)(a:Nat):Int:=if a<=i then pre w a-pre w i+pre w n else pre w a-pre w i
theorem ADt(w:List Int){n i d:Nat}(hi:i<n)(c:1<=d)(hd:d<=n):ou w n i ((i+d) % n)=EZ w n i d:=by rw[jl w hi d hd,AG3 (by omega)];unfold ou;by_cases a:i+d<n;rw[ARt a,ARv (by omega),ARt (by omega)];rw[ARv a];by_cases b:i+d=n;rw[ARt (by omega),ARt (by omega),show i+d-n=0 by omega,b,pre];omega;rw[ARt (by omega),ARv (by omega)];omega
def smL(w H:List Int)(n i:Nat):List Int:=(List.range (hAt H i)).map fun h=>EZ w n i (kst H n i h)
def SM(w H:List Int)(n:Nat):List (List Int):=(List.range n).map (smL w H n)
def Pq(w:List Int)(n:Nat):List Int:=(List.range (n+1)).map (pre w)
theorem IX(w:List Int){n j:Nat}(h:j<=n):(Pq w n)[j]? = some (pre w j):=by unfold Pq;rw[ASX,AS9 (by omega)];rfl
theorem AFq(w:List Int)(n:Nat):(Pq w n).length=n+1:=by unfold Pq;simp
theorem AQn{w:List Int}{n:Nat}(g:WO w n)(t:n<=1000)(T H:List Int)(M:List (List Int))(z:Int):
  A6 H3 many (T,H,M,z,List.replicate (n+1) (0:Int),w,(n:Int),(0:Int),())=some (.inl (T,H,M,z,Pq w n,())):=by
 have u:=g.len
 have e:=DY (step:=H3) (fun i (A:List Int)=>(T,H,M,z,A,w,(n:Int),(i:Int),())) (List.range n) (fun k A=>.inl (A.set (k+1) (A.getD k 0+w.getD k 0))) (fun A=>.inl (T,H,M,z,A,())) (fun k A=>A.length=n+1/\∀ j,A.getD j 0=if j<=k then pre w j else 0) (by rw[AR2];omega)
  (fun k x A v q l=>by
   refine⟨fun y m => ?_,fun r m=>(by cases m)⟩
   cases m
   obtain⟨rfl,c⟩:=eb q
   obtain⟨o,d⟩:=l
   have B:=Pp g x
   have C:=g.at x
   have b:=d x
   rw[ARt (ARo x)]at b
   constructor
   ·unfold H3
    dsimp only
    rw[A7,ARk c,A8 (by omega)]
    simp only[DZ (xs:=w) 0 (show x<w.length by omega),DZ (xs:=A) 0 (show x<A.length by omega),DZ (xs:=A) 0 (show x+1<A.length by omega),LS,Jx]
    rw[b,BK (by omega)]
   ·refine⟨by rw[ASt];exact o,fun j => ?_⟩
    rw[ARn,ASr]
    by_cases a:x+1=j
    ·subst a
     rw[ARt rfl,ARt (by omega),ARt (ARo _),b]
     rfl
    ·rw[ARv a,<- ARn,d]
     by_cases f:j<=x
     ·rw[ARt f,ARt (by omega)]
     ·rw[ARv f,ARv (by omega)])
  (fun A _=>by
   rw[AR2]
   unfold H3
   dsimp only
   rw[A7,ARj (by omega)]) (List.replicate (n+1) 0) ⟨by simp,fun j=>by
    by_cases h:j<=0
    ·rw[ARt h,show j=0 by omega,pre]
     simp
    ·rw[ARv h,ARn,AT8]
     split<;>rfl⟩
 have p:=foldI (fun k (A:List Int)=>A.set (k+1) (A.getD k 0+w.getD k 0)) (fun k A=>A.length=n+1/\∀ j,A.getD j 0=if j<=k then pre w j else 0) n (List.replicate (n+1) 0) (fun x A c l=>by
  obtain⟨o,d⟩:=l;have b:=d x;rw[ARt (ARo x)]at b;refine⟨by rw[ASt];exact o,fun j => ?_⟩;rw[ARn,ASr];by_cases a:x+1=j;subst a;rw[ARt rfl,ARt (by omega),ARt (ARo _),b];rfl;rw[ARv a,<- ARn,d];by_cases f:j<=x;rw[ARt f,ARt (by omega)];rw[ARv f,ARv (by omega)]) ⟨by simp,fun j=>by
  by_cases h:j<=0;rw[ARt h,show j=0 by omega,pre];simp;rw[ARv h,ARn,AT8];split<;>rfl⟩
 have s:A6 H3 many (T,H,M,z,List.replicate (n+1) (0:Int),w,(n:Int),(0:Int),())=_:=e;rw[s,B5 (fun(k:Nat) (A:List Int)=>A.set (k+1) (A.getD k 0+w.getD k 0))];have:(List.range n).foldl (fun A k=>A.set (k+1) (A.getD k 0+w.getD k 0)) (List.replicate (n+1) 0)=Pq w n:=by refine Em 0 ?_ fun j a => ?_;rw[p.1,AFq];rw[p.1]at a;rw[p.2 j,ARt (by omega),ARn,IX w (by omega)];rfl
 rw[this]
def kK(w:List Int)(n i:Nat)(M:List (List Int))(a:Nat):List (List Int):=M.set i (M.getD i []++[ou w n i a])
theorem zZ(w:List Int)(n i:Nat):∀ (l:List Nat) (M:List (List Int)),i<M.length->l.foldl (kK w n i) M=M.set i (M.getD i []++l.map (ou w n i)):=by
 intro l;induction l with
  |nil=>intro M hi;rw[List.foldl_nil,ATJ,ASu];refine Em ([]:List Int) (by simp) fun j b => ?_;rw[ARn (l:=M.set _ _),ASr];by_cases h:i=j;subst h;rw[ARt rfl,ARt hi];rfl;rw[ARv h,<- ARn]
  |cons x l a=>intro M hi;rw[ASg,a _ (by unfold kK;rw[ASt];exact hi)];unfold kK;rw[List.set_set,ARn (l:=M.set _ _),ASr,ARt rfl,ARt hi];simp
def nxN(H:List Int)(n i:Nat):List Nat:=(List.range (hAt H i)).map fun h=>(i+kst H n i h) % n
theorem UU(H:List Int)(n i:Nat):nxL H n i=(nxN H n i).map fun(k:Nat)=>(k:Int):=by unfold nxL nxN hAt;rw[List.map_map];rfl
theorem APS{H:List Int}{n i:Nat}(a:0<n):∀ x∈nxN H n i,x<n:=by intro x b;obtain⟨h,_,rfl⟩:=ASC.1 b;exact ATB _ a
theorem AQl{w H:List Int}{n:Nat}(k:WO w n)(m:HO H n)(M:List (List Int))(o:M.length=n)(G:∀ x∈M,x.length<=8)(I:∀ i,M.getD i []=[]\/True)(c:List (List Int))(d:Int){i:Nat}(hi:i<n)(t:M.getD i []=[]):
  A6 Hz many ((n:Int),Pq w n,M,(i:Int),c,d,(i:Int),nxL H n i,A2 (nxL H n i),(0:Int),())=some (.inl ((n:Int),Pq w n,M.set i ((nxN H n i).map (ou w n i)),c,d,(i:Int),())):=by
 have A:=m.pos;have J:=m.top;obtain⟨K,L,N⟩:=m.hAt hi;have u:(nxN H n i).length=hAt H i:=by unfold nxN;simp
 have e:=DY (step:=Hz) (fun h (M:List (List Int))=>((n:Int),Pq w n,M,(i:Int),c,d,(i:Int),nxL H n i,A2 (nxL H n i),(h:Int),())) (nxN H n i) (fun a M=>.inl (kK w n i M a)) (fun M=>.inl ((n:Int),Pq w n,M,c,d,(i:Int),())) (fun j M=>M.length=n/\(M.getD i []).length<=j) (by omega)
  (fun j a M B v o=>by
   refine⟨fun O p => ?_,fun r p=>(by cases p)⟩
   cases p
   obtain⟨C,P⟩:=o
   have D:=APS A a (ARu v)
   have q:(nxL H n i)[j]? = some (a:Int):=by rw[UU,ASX,v];rfl
   have Q:=Pp k a
   have R:=Pp k i
   have S:=Pp k n
   constructor
   ·unfold Hz
    dsimp only
    rw[A',UU,ASZ,A7,ARk B,<- UU]
    simp only[BD q,BD (IX w (show a<=n by omega)),BD (IX w (show i<=n by omega)),BD (IX w (ARo n)),DZ (xs:=M) ([]:List Int) (show i<M.length by omega)]
    simp only[KV (IX w (show a<=n by omega)),KV (IX w (show i<=n by omega)),KV (IX w (ARo n)),LS,Jx,CH,ASJ]
    rw[Dt,BK (n:=pre w a-pre w i) (by omega),BK (n:=pre w a-pre w i+pre w n) (by omega),A8 (by omega)]
    have b:∀ z:Int,fits (A2 (M.getD i [])+A2 [z])=true:=fun z=>Cw (by simp only[A',ASb];omega)
    have f:∀ z:List Int,∃ y,idx (M.set i z) (i:Int)=some y:=fun z=>AHZ (by rw[ASt];omega)
    unfold kK ou
    by_cases g:a<=i
    ·obtain⟨y,s⟩:=f (Bk (M.getD i []) [pre w a-pre w i+pre w n])
     rw[ARk g,ARt g]
     simp only[b,s]
     rfl
    ·obtain⟨y,s⟩:=f (Bk (M.getD i []) [pre w a-pre w i])
     rw[ARj g,ARv g]
     simp only[b,s]
     rfl
   ·unfold kK
    refine⟨by rw[ASt];exact C,?_⟩
    rw[ARn (l:=M.set _ _),ASr,ARt rfl,ARt (by omega)]
    simp only[ASM,AR7,ASb]
    omega)
  (fun M _=>by
   unfold Hz
   dsimp only
   rw[A',UU,ASZ,A7,ARj (by omega)]) M ⟨o,by rw[t];simp⟩
 have E:A6 Hz many ((n:Int),Pq w n,M,(i:Int),c,d,(i:Int),nxL H n i,A2 (nxL H n i),(0:Int),())=_:=e;rw[E,B5 (fun(a:Nat) (M:List (List Int))=>kK w n i M a)];have:=zZ w n i (nxN H n i) M (by omega);rw[t,ASO]at this;have F:(nxN H n i).foldl (fun M a=>kK w n i M a) M=_:=this;rw[F]
theorem AFP(w:List Int){H:List Int}{n i:Nat}(a:HO H n)(hi:i<n):(nxN H n i).map (ou w n i)=smL w H n i:=by unfold nxN smL;rw[List.map_map];refine List.map_congr_left fun h b => ?_;rw[ASW]at b;obtain⟨_,_,e⟩:=a.hAt hi;obtain⟨c,d,_⟩:=X_ (H:=H) (h:=h) a.pos hi (by omega);exact ADt w hi c d
theorem AQm{w H:List Int}{n:Nat}(z:WO w n)(l:HO H n):
  A6 H0 many ((n:Int),Pq w n,List.replicate n ([]:List Int),NX H n,A2 (NX H n),(0:Int),())=some (.inl (SM w H n,())):=by
 have D:=l.pos;have E:=l.top;have d:(List.replicate n ([]:List Int)).length=n/\(∀ x∈List.replicate n ([]:List Int),x.length<=8)/\(∀ a,a<0->(List.replicate n ([]:List Int)).getD a []=smL w H n a)/\∀ a,0<=a->(List.replicate n ([]:List Int)).getD a []=[]:=by refine⟨by simp,fun x g => ?_,fun a h=>by omega,fun a _ => ?_⟩;rw[List.mem_replicate]at g;rw[g.2];simp;rw[ARn,AT8];split<;>rfl
 have f:∀ i,i<n->(smL w H n i).length<=8:=fun i hi=>by have:=l.hAt hi;unfold smL;rw[ASZ,AR2];omega
 have b:∀ (k:Nat) (M:List (List Int)),k<n->(M.length=n/\(∀ x∈M,x.length<=8)/\(∀ a,a<k->M.getD a []=smL w H n a)/\∀ a,k<=a->M.getD a []=[]) ->
   ((M.set k (smL w H n k)).length=n/\(∀ x∈M.set k (smL w H n k),x.length<=8)/\(∀ a,a<k+1->(M.set k (smL w H n k)).getD a []=smL w H n a)/\∀ a,k+1<=a->(M.set k (smL w H n k)).getD a []=[]):=by
  intro k M t ⟨m,o,u,p⟩
  refine⟨by rw[ASt];exact m,fun x g => ?_,fun a h => ?_,fun a h => ?_⟩
  ·rcases ATw g with h|rfl
   ·exact o x h
   ·exact f k t
  ·rw[ARn,ASr]
   by_cases e:k=a
   ·subst e;rw[ARt rfl,ARt (by omega)];rfl
   ·rw[ARv e,<- ARn];exact u a (by omega)
  ·rw[ARn,ASr,ARv (by omega),<- ARn]
   exact p a (by omega)
 have e:=DY (step:=H0) (fun i (M:List (List Int))=>((n:Int),Pq w n,M,NX H n,A2 (NX H n),(i:Int),())) (List.range n) (fun k M=>.inl (M.set k (smL w H n k))) (fun M=>.inl (M,())) (fun k M=>M.length=n/\(∀ x∈M,x.length<=8)/\(∀ a,a<k->M.getD a []=smL w H n a)/\∀ a,k<=a->M.getD a []=[]) (by rw[AR2];omega)
  (fun k x M t g v=>by
   refine⟨fun F q => ?_,fun r q=>(by cases q)⟩
   cases q
   obtain⟨rfl,c⟩:=eb g
   refine⟨?_,b x M c v⟩
   obtain⟨m,o,u,p⟩:=v
   unfold H0
   dsimp only
   rw[A',iM,A7,ARk c]
   simp only[BD (AJs H c)]
   rw[AQl z l M m o (fun _=>.inr trivial) (NX H n) (n:Int) c (p x (ARo x)),AFP w l c]
   simp only
   rw[A8 (by omega)])
  (fun M _=>by
   rw[AR2]
   unfold H0
   dsimp only
   rw[A',iM,A7,ARj (by omega)]) (List.replicate n []) d
 have A:=foldI (fun k (M:List (List Int))=>M.set k (smL w H n k)) (fun k M=>M.length=n/\(∀ x∈M,x.length<=8)/\(∀ a,a<k->M.getD a []=smL w H n a)/\∀ a,k<=a->M.getD a []=[]) n (List.replicate n []) b d;have B:A6 H0 many ((n:Int),Pq w n,List.replicate n ([]:List Int),NX H n,A2 (NX H n),(0:Int),())=_:=e;rw[B,B5 (fun(k:Nat) (M:List (List Int))=>M.set k (smL w H n k))];have:(List.range n).foldl (fun M k=>M.set k (smL w H n k)) (List.replicate n [])=SM w H n:=by obtain⟨y,_,C,_⟩:=A;refine Em ([]:List Int) ?_ fun j s => ?_;rw[y];unfold SM;simp;rw[y]at s;rw[C j s];unfold SM;rw[ARn,ASX,AS9 s];rfl
 rw[this]
theorem Ts{w:List Int}{n:Nat}(a:WO w n)(f:n<=1000):Hj (w,())=some (false,()):=by
 have b:=a.len
 have e:=zR (step:=EN) (fun k=>(w,(n:Int),(k:Int),())) n (.inr (.inl ())) (by omega)
  (fun k c=>by
   have:=a.at k
   unfold EN
   dsimp only
   rw[A7,ARk c]
   simp only[DZ (xs:=w) 0 (show k<w.length by omega),BP]
   rw[ARj (by omega),ARj (by omega),A8 (by omega)])
  (by unfold EN;dsimp only;rw[A7,ARj (by omega)])
 rw[Lm,Iz,MY,Js,A',b];have d:A6 EN many (w,(n:Int),(0:Int),())=_:=e;simp only[d,Bf];rfl
theorem XP{w a H:List Int}{n:Nat}(g:Rt a)(d:a.length=n)(b:WO w n)(c:HO H n):L_ ((a,(H,(NX H n,()))),w,())=some (SM w H n,0,()):=by have k:=c.pos;have e:=c.top;have h:=b.len;have i:CC ((n+1:Nat):Int)=true:=(Ei _).2 (by omega);have j:CC (n:Int)=true:=(Ei _).2 (by omega);have l:=iM H n;rw[bf,XQ];simp only[A',d,h,CH,ARp,Wn g d c,Ts b e];rw[A8 (by omega)];simp only[i,Dt,ARo,ARx,ASJ,SJ,tj,AQn b e];have f:=AQm b c;rw[A']at f;simp only[j,f,ASJ]
theorem AON{s:List Int}(h:wfD (.slice (.int .u32)) s):U32 s:=by intro x a;have:=h;simp only[wfD]at this;have:=this.2 x a;exact this
open Tok
section
variable (n:Int) (ts:List Tie)
end
section
variable (a0:Int) (a1:List Tie) (a2 a3 a4:Int) (a5:List (List Int)) (a6:Int) (a7:List (List Int)) (p q:List Edge)
end
abbrev oF:=(Int×(List (Int×Int×Int×Bool×Unit))×Unit)×Int×Int×Unit
abbrev Tw8:=(List Int)×(List Int)×(List (List Int))×Unit
def nZ(n:Int):Bool:=decide (0<=n)&&decide (n<=1099511627776)
theorem gD(n:Int):Mg (n,())=some (nZ n,()):=by rw[S',Oy,Bf,Bf,nZ];grind
theorem aJ(n:Int):KW (n,())=some (nZ n,()):=by rw[Qr,Mu,Bf,Bf,nZ];grind
structure SR(N:Nat)(ts:List Tie)(b c:Int):Prop where
 g:RG2 N ts
 hb:nZ b=true
 hc:nZ c=true
theorem AEc(n:Int)(a:List Tie)(b c:Int)(d:a.length<4611686018427387904):
  (Jo (((n,(a,())),(b,(c,()))),())=some (false,())/\Pj (((n,(a,())),(b,(c,()))),())=some (false,())) \/
  ∃ N:Nat,n=(N:Int)/\SR N a b c/\Jo (((n,(a,())),(b,(c,()))),())=some (true,())/\Pj (((n,(a,())),(b,(c,()))),())=some (true,()):=by
 rw[cO,YD,Xf,Rc];simp only[gD,aJ];rcases bt n a d with⟨g,i⟩|⟨N,rfl,h⟩
 grind;simp only[h.r21,h.lr];cases e:nZ b;simp;cases f:nZ c;simp;right;exact⟨N,rfl,⟨h,e,f⟩,rfl,rfl⟩
noncomputable def tw8(s:List Int)(a:List Int):Tw8:=(a,(a.map (htF s),(NX (a.map (htF s)) a.length,())))
theorem ho8{s:List Int}(b:U32 s){n:Int}{a:List Int}(h:RG n a):HO (a.map (htF s)) a.length:=⟨by simp,by
 cases a with
  |nil=>exact absurd rfl h.2.1
  |cons x xs=>simp,h.1.1,fun x c=>by
 obtain⟨t,_,rfl⟩:=ASC.1 c;exact AMX b t⟩
theorem yl{α β:Type}(f:α->β):∀ (xs:List α) (a:List β),xs.foldl (fun a x=>a++[f x]) a=a++xs.map f:=by
 intro xs;induction xs with
  |nil=>simp
  |cons x xs b=>grind
section
variable {s:List Int} {n:Int} {zs:List (List Int)}
theorem fa(d:U32 s)(h:zs.length<=64)(g:∀ z∈zs,RG n z):
  A6 Ih many (s,([]:List Tw8),zs,A2 zs,(0:Int),())=some (.inl (zs.map (tw8 s),())):=by
 have e:=DY (step:=Ih) (fun i (a:List Tw8)=>(s,a,zs,A2 zs,(i:Int),())) zs (fun x a=>.inl (a++[tw8 s x])) (fun a=>.inl (a,())) (fun i a=>a.length<=i) (by omega)
  (fun i x a hi f j=>by
   refine⟨fun k b => ?_,fun r b=>(by cases b)⟩
   cases b
   have c:=g x (ARu f)
   constructor
   ·rw[Ih,A',A7,ARk hi]
    simp only[BD f,Zj d x c.1.1,Si c.1 rfl (ho8 d c)]
    rw[A8 (by omega),Cw (by simp only[A',ASb];omega)]
    rfl
   grind)
  (fun a _=>by rw[Ih,A',A7,ARj (by omega)]) [] (ARo _)
 rw[B5 (fun(x:List Int) (a:List Tw8)=>a++[tw8 s x]),yl]at e;exact e
end
theorem FC.len{N:Nat}{a:List Tie}(h:RG2 N a){b:List (List Int)}{k:Int}(c:FC (N:Int) b (trk a k)):b.length<=64:=by have d:=c.count h.h1 h.hN (by have:=h.ht;unfold trk;grind) (h.inK k);have e:=ARL N (trk a k);have:=h.hN;omega
theorem mG{σ ρ:Type}{step:σ->Option (σ⊕ρ)}(I:Nat->σ->Prop)(Q:ρ->Prop)
  (h:∀ m s,I m s->(∃ a b,step s=some (.inl b)/\I a b/\a<m)\/∃ r,step s=some (.inr r)/\Q r) (m:Nat) (s:σ) (c:I m s) (f:m<9223372036854775808):∃ r,A6 step many s=some r/\Q r:=by
 have d:∀ (n m:Nat) (s:σ),I m s->m<n->∃ r,BC step n s=some r/\Q r:=by
  intro n;induction n with
   |zero=>intro m s _ h;omega
   |succ n g=>
    intro m s c f;rw[BC];rcases h m s c with⟨a,b,e,i,j⟩|⟨r,e,q⟩
    rw[e];exact g a b i (by omega);rw[e];exact⟨r,rfl,q⟩
 rw[Bj];exact d many m s c (by unfold many;omega)
theorem L4(w:List Int)(n i a:Nat):∀ b,EZ w n i (a+b)=EZ w n i a+EZ w n ((i+a) % n) b
 |0=>by simp[EZ]
 |b+1=>by rw[<- ATR,EZ,L4 w n i a b,EZ,<- ATR i a b,ATj];omega
section
variable {w toks H:List Int} {n:Nat}
theorem ur:(SM w H n).length=n:=by unfold SM;simp
theorem AJp{i:Nat}(hi:i<n):(SM w H n)[i]? = some (smL w H n i):=by unfold SM;rw[ASX,AS9 hi];rfl
theorem vc(i:Nat):(smL w H n i).length=hAt H i:=by unfold smL;simp
theorem vd{i h:Nat}(a:h<hAt H i):(smL w H n i)[h]? = some (EZ w n i (kst H n i h)):=by unfold smL;rw[ASX,AS9 a];rfl
theorem ALs{i h:Nat}(a:h<hAt H i):(nxL H n i)[h]? = some (((i+kst H n i h) % n:Nat):Int):=by unfold nxL;have:h<(H.getD i 0).toNat:=a;rw[ASX,AS9 this];rfl
theorem fX(c:HO H n){i h:Nat}(hi:i<n)(j:h<hAt H i):1<=kst H n i h/\kst H n i h<=n/\h<hAt H ((i+kst H n i h) % n)/\∀ k,1<=k->k<kst H n i h->hAt H ((i+k) % n)<=h:=by have d:=c.pos;obtain⟨e,f,l,g⟩:=X_ (H:=H) (h:=h) d hi (by have:=(c.hAt hi).2.2;omega);refine⟨e,f,?_,fun k a b => ?_⟩;have:=(c.hAt (ATB (i+kst H n i h) d)).2.2;omega;have:=g k a b;have:=(c.hAt (ATB (i+k) d)).2.2;omega
theorem mQ(a:HO H n){i:Nat}(hi:i<n):kst H n i 0=1:=by obtain⟨c,_,_,b⟩:=fX a hi (h:=0) (a.hAt hi).1;by_cases h:kst H n i 0=1;exact h;have:=b 1 (ARo _) (by omega);have:=(a.hAt (ATB (i+1) a.pos)).1;omega
theorem PY(h:Rt toks)(j:toks.length=n)(f:WO w n)(a:HO H n):J9 ((toks,(H,(NX H n,()))),SM w H n,())=some (w,()):=by
 have r:=a.top;have s:=f.len
 have e:=zR (step:=Gz) (fun k=>(SM w H n,toks,H,NX H n,w.take k,SM w H n,A2 (SM w H n),(k:Int),())) n (.inr (.inl (SM w H n,toks,H,NX H n,w,()))) (by omega)
  (fun k b=>by
   have l:=(a.hAt b).1
   have m:=mQ a b
   have o:(smL w H n k)[0]? = some (w.getD k 0):=by
    rw[vd l,m,EZ,EZ,AS0,AR9 b,Int.zero_add]
   have c:w[k]? = some (w.getD k 0):=by
    rw[ARs (by omega),ARn,ARs (by omega)];rfl
   have p:ieq (A2 (smL w H n k)) 0=false:=by rw[A',vc,CU,ATM];omega
   have d:idx (smL w H n k) (0:Int)=some (w.getD k 0):=BD (n:=0) o
   unfold Gz
   dsimp only
   rw[A',ur,A7,ARk b]
   simp only[BD (AJp b),p,d]
   rw[Cw (by simp only[A',ATC,ASb];omega),A8 (by omega)]
   have:Bk (w.take k) [w.getD k 0]=w.take (k+1):=by
    rw[AUC,c];rfl
   simp only[this])
  (by unfold Gz;dsimp only;rw[A',ur,A7,ARj (by omega),ASq (by omega)])
 have q:A6 Gz many (SM w H n,toks,H,NX H n,([]:List Int),SM w H n,A2 (SM w H n),(0:Int),())=_:=e;rw[Sk,OG];simp only[q,XP h j f a,CH,ARp,bk (SM w H n) (by rw[ur];omega) (fun x g=>by unfold SM at g;obtain⟨i,hi,rfl⟩:=ASC.1 g;rw[vc];have:=(a.hAt (ASW.1 hi)).2.1;omega)]
theorem ALy{xs:List Int}(g:xs≠[])(o:xs.length<=1000000):∃ M∈xs,ALz (xs,())=some (M,()):=by
 have h:0<xs.length:=ATu.2 g;obtain⟨x,d⟩:∃ x,xs[0]? = some x:=⟨_,ARs h⟩
 obtain⟨r,e,M,b,rfl⟩:=mG (step:=Py) (fun m s=>∃ (M:Int) (k:Nat),s=(xs,M,(k:Int),())/\M∈xs/\k<=xs.length/\m=xs.length-k) (fun r=>∃ M∈xs,r = .inl (M,()))
  (fun m s i=>by
   obtain⟨M,k,rfl,b,p,rfl⟩:=i
   by_cases q:k<xs.length
   ·obtain⟨y,f⟩:∃ y,xs[k]? = some y:=⟨_,ARs q⟩
    refine .inl ⟨xs.length-(k+1),(xs,imax M y,((k+1:Nat):Int),()),?_,⟨_,k+1,rfl,?_,by omega,rfl⟩,by omega⟩
    ·unfold Py
     dsimp only
     rw[A',A7,ARk q]
     simp only[BD f]
     rw[A8 (by omega)]
    ·rw[U']
     rcases Int.le_total M y with a|a
     ·rw[Int.max_eq_right a];exact ARu f
     ·rw[Int.max_eq_left a];exact b
   ·refine .inr ⟨.inl (M,()),?_,M,b,rfl⟩
    unfold Py
    dsimp only
    rw[A',A7,ARj q])
  (xs.length-1) (xs,x,((1:Nat):Int),()) ⟨x,1,rfl,ARu d,by omega,rfl⟩ (by omega)
 refine⟨M,b,?_⟩;have c:idx xs (0:Int)=some x:=BD (n:=0) d;have j:ilt (A2 xs) 1=false:=by rw[A'];have:=A7 xs.length 1;rw[ARj (by omega)]at this;exact this
 have l:A6 Py many (xs,x,(1:Int),())=_:=e;rw[wh,sc];simp only[j,c,l]
theorem ABj{xs:List Int}{x:Int}(d:x∈xs)(j:xs.length<=1000000):∃ i:Nat,i<xs.length/\MU (xs,x,())=some ((i:Int),()):=by
 obtain⟨r,e,i,hi,rfl⟩:=mG (step:=Eg) (fun m s=>∃ k:Nat,s=(xs,x,(xs.length:Int),(k:Int),())/\k<=xs.length/\m=xs.length-k/\x∈xs.drop k) (fun r=>∃ i:Nat,i<xs.length/\r = .inl ((i:Int),()))
  (fun m s f=>by
   obtain⟨k,rfl,l,rfl,a⟩:=f
   have q:k<xs.length:=by
    by_cases q:k<xs.length
    ·exact q
    ·rw[ATO (by omega)]at a;cases a
   have c:xs[k]? = some xs[k]:=ARs q
   rw[AST q]at a
   by_cases b:x=xs[k]
   ·refine .inr ⟨.inl ((k:Int),()),?_,k,q,rfl⟩
    unfold Eg
    dsimp only
    rw[A7,ARk q]
    simp only[BD c,<- b,CH]
   ·refine .inl ⟨xs.length-(k+1),(xs,x,(xs.length:Int),((k+1:Nat):Int),()),?_,⟨k+1,rfl,by omega,rfl,(AR4.1 a).resolve_left b⟩,by omega⟩
    have g:ieq x xs[k]=false:=by rw[CU,ATM];exact b
    unfold Eg
    dsimp only
    rw[A7,ARk q]
    simp only[BD c,g]
    rw[A8 (by omega)])
  xs.length (xs,x,(xs.length:Int),((0:Nat):Int),()) ⟨0,rfl,by omega,rfl,d⟩ (by omega)
 refine⟨i,hi,?_⟩;have h:A6 Eg many (xs,x,(xs.length:Int),(0:Int),())=_:=e;rw[R0,QF];simp only[A',h]
theorem ox(c:Rt toks)(d:toks.length=n)(a:HO H n):∃ i:Nat,i<n/\df ((toks,(H,(NX H n,()))),())=some ((i:Int),()):=by have j:=a.top;have b:=a.len;have k:=a.pos;obtain⟨M,e,f⟩:=ALy (xs:=H) (fun h=>by rw[h]at b;simp at b;omega) (by omega);obtain⟨i,hi,g⟩:=ABj e (by omega);refine⟨i,by omega,?_⟩;rw[aw,Wq];simp only[Wn c d a,ARp,f,g]
theorem XA(w:List Int){i:Nat}(hi:i<n):EZ w n i n=pre w n:=by rw[jl w hi n (ARo _)];by_cases h:i=0;subst h;rw[ARt (by omega)];simp[pre];rw[ARv (by omega),show i+n-n=i by omega];omega
theorem iG(c:HO H n){a l:Nat}(hi:a<n)(b:l<hAt H a):idx (SM w H n) (a:Int)=some (smL w H n a)/\idx (smL w H n a) (l:Int)=some (EZ w n a (kst H n a l)) /\
  idx (NX H n) (a:Int)=some (nxL H n a)/\idx (nxL H n a) (l:Int)=some (((a+kst H n a l) % n:Nat):Int):=⟨BD (AJp hi),BD (vd b),BD (AJs H hi),BD (ALs b)⟩
theorem ph(u:Rt toks)(v:toks.length=n)(k:WO w n)(c:HO H n):OI ((toks,(H,(NX H n,()))),SM w H n,())=some (pre w n,0,()):=by
 have O:=c.top;have E:=c.pos;have F:=k.len;obtain⟨i,hi,G⟩:=ox u v c;obtain⟨P,Q,I⟩:=c.hAt hi
 obtain⟨r,J,rfl⟩:=mG (step:=J_)
  (fun m s=>∃ (D:Nat) (f:Bool),s=(SM w H n,toks,H,NX H n,(i:Int),((hAt H i-1:Nat):Int),EZ w n i D,(((i+D) % n:Nat):Int),f,())/\D<=n/\hAt H i-1<hAt H ((i+D) % n)/\(f=true/\D=0\/f=false/\1<=D)/\m=n-D)
  (fun r=>r = .inl (pre w n,()))
  (fun m s l=>by
   obtain⟨D,f,rfl,R,x,y,rfl⟩:=l
   have e:(i+D) % n<n:=ATB _ E
   have g:=AG3 (a:=i+D) (b:=n) (by omega)
   by_cases j:D=n
   ·have o:f=false:=by rcases y with⟨_,h⟩|⟨h,_⟩<;>first|exact h|omega
    subst o
    refine .inr ⟨.inl (pre w n,()),?_,rfl⟩
    have:(i+D) % n=i:=by rw[g];split<;>omega
    unfold J_
    dsimp only
    rw[this,CH,j,XA w hi]
    rfl
   ·obtain⟨S,T,K,L⟩:=fX c e x
    obtain⟨z,A,B,C⟩:=iG (w:=w) c e x
    generalize hd:kst H n ((i+D) % n) (hAt H i-1)=d at *
    have p:D+d<=n:=by
     by_cases h:D+d<=n
     ·exact h
     ·have:=L (n-D) (by omega) (by omega)
      rw[ATj,show i+D+(n-D)=i+n by omega,AUD,AR9 hi]at this
      omega
    have q:=PZ k i (D+d)
    rw[L4]at q
    refine .inl ⟨n-(D+d),(SM w H n,toks,H,NX H n,(i:Int),((hAt H i-1:Nat):Int),EZ w n i (D+d),(((i+(D+d)) % n:Nat):Int),false,()),?_,⟨D+d,false,rfl,p,?_,.inr ⟨rfl,by omega⟩,rfl⟩,by omega⟩
    ·rw[L4,show(i+(D+d)) % n=((i+D) % n+d) % n by rw[ATj,ATR]]
     rcases y with⟨rfl,h⟩|⟨rfl,h⟩
     ·unfold J_
      dsimp only
      simp only[z,A,B,C]
      rw[BK (by omega)]
     ·have t:ieq (((i+D) % n:Nat):Int) (i:Int)=false:=by
       rw[VA,ARj]
       rw[g];split<;>omega
      unfold J_
      dsimp only
      simp only[t,ASF,z,A,B,C]
      rw[BK (by omega)]
    ·rw[show(i+(D+d)) % n=((i+D) % n+d) % n by rw[ATj,ATR]];exact K)
  n (SM w H n,toks,H,NX H n,(i:Int),((hAt H i-1:Nat):Int),0,(i:Int),true,()) ⟨0,true,by rw[AS0,AR9 hi];rfl,by omega,by rw[AS0,AR9 hi];omega,.inl ⟨rfl,rfl⟩,by omega⟩ (by omega)
 have M:ieq (A2 w) 0=false:=by rw[A',CU,ATM];omega
 have N:idx H (i:Int)=some (hAt H i:Int):=by rw[<- I];exact(c.at hi).2.2
 have l:w64 ((hAt H i:Int)-1)=((hAt H i-1:Nat):Int):=Br (by omega);rw[bN,XC];simp only[PY u v k c,M,G,N,l,J]
theorem vG(g:n<=1000){a d:Nat}(h:a<n)(i:1<=d)(hd:d<=n):rem? (w64 (w64 (w64 ((((a+d) % n:Nat):Int)-(a:Int))+(n:Int))-1)) (n:Int)=some ((d-1:Nat):Int):=by
 have c:0<n:=by omega
 have j:=ATB (a+d) c;have e:w64 (w64 (w64 ((((a+d) % n:Nat):Int)-(a:Int))+(n:Int))-1)=(((a+d) % n+n-a-1:Nat):Int):=by rw[BK (n:=(((a+d) % n:Nat):Int)-(a:Int)) (by omega),BK (n:=(((a+d) % n:Nat):Int)-(a:Int)+(n:Int)) (by omega),BK (by omega)];omega
 rw[e,UL c];congr 2;have f:=AG3 (a:=a+d) (b:=n) (by omega);rw[f];split;rw[show a+d+n-a-1=d-1+n by omega,AUD,AR9 (by omega)];rw[show a+d-n+n-a-1=d-1 by omega,AR9 (by omega)]
theorem Pf(P:Rt toks)(C:toks.length=n)(u:WO w n)(f:HO H n){a b e:Nat}(Q:a<n)(hb:b<n)(he:e<n)(h:(a+e) % n=b):∃ k,IQ ((toks,(H,(NX H n,()))),SM w H n,(a:Int),(b:Int),())=some (EZ w n a e,k,0,()):=by
 have E:=f.top;have R:=f.pos;have S:=u.len
 obtain⟨r,T,k,rfl⟩:=mG (step:=JJ)
  (fun m s=>∃ D L:Nat,s=(SM w H n,(b:Int),toks,H,NX H n,EZ w n a D,(L:Int),(n:Int),(((a+D) % n:Nat):Int),())/\D<=e/\L<=D/\m=e-D)
  (fun r=>∃ k,r = .inl (EZ w n a e,k,()))
  (fun m s i=>by
   obtain⟨D,L,rfl,hD,hL,rfl⟩:=i
   have c:(a+D) % n<n:=ATB _ R
   by_cases j:D=e
   ·refine .inr ⟨.inl (EZ w n a e,(L:Int),()),?_,_,rfl⟩
    unfold JJ
    dsimp only
    rw[j,h,CH]
    rfl
   ·have o:b=((a+D) % n+(e-D)) % n:=by rw[ATj,show a+D+(e-D)=a+e by omega,h]
    have v:ieq (((a+D) % n:Nat):Int) (b:Int)=false:=by
     rw[VA,ARj]
     have x:=AG3 (a:=(a+D) % n+(e-D)) (b:=n) (by omega)
     rw[o,x]
     split<;>omega
    generalize F:(a+D) % n=A at *
    obtain⟨q1,q2,U⟩:=f.hAt c
    obtain⟨r1,V,l,g,hk,rfl⟩:=mG (step:=JI)
     (fun m s=>∃ l:Nat,s=(SM w H n,(b:Int),toks,H,NX H n,EZ w n a D,(L:Int),(n:Int),(A:Int),(l:Int),())/\l<hAt H A/\m=l)
     (fun r=>∃ l:Nat,l<hAt H A/\kst H n A l<=e-D/\r = .inl (SM w H n,(b:Int),toks,H,NX H n,EZ w n a D,(L:Int),(n:Int),(A:Int),(l:Int),()))
     (fun m s i=>by
      obtain⟨l,rfl,g,y⟩:=i
      rw[y]
      obtain⟨G,I,W,X⟩:=fX f c g
      obtain⟨J,K,p,t⟩:=iG (w:=w) f c g
      have M:=vG E c G I
      have z:=vG E c (d:=e-D) (by omega) (by omega)
      rw[<- o]at z
      have N:w64 (((e-D-1:Nat):Int)+1)=((e-D:Nat):Int):=by rw[BK (by omega)];omega
      have O:w64 (((kst H n A l-1:Nat):Int)+1)=((kst H n A l:Nat):Int):=by rw[BK (by omega)];omega
      by_cases q:e-D<kst H n A l
      ·have Y:l≠0:=by
        rintro rfl
        rw[mQ f c]at q
        omega
       refine .inl ⟨l-1,(SM w H n,(b:Int),toks,H,NX H n,EZ w n a D,(L:Int),(n:Int),(A:Int),((l-1:Nat):Int),()),?_,⟨l-1,rfl,by omega,rfl⟩,by omega⟩
       unfold JI
       dsimp only
       simp only[p,t,M,z,N,O,A7,ARk q]
       rw[Br (by omega)]
      ·refine .inr ⟨_,?_,l,g,by omega,rfl⟩
       unfold JI
       dsimp only
       simp only[p,t,M,z,N,O,A7,ARj q])
     (hAt H A-1) (SM w H n,(b:Int),toks,H,NX H n,EZ w n a D,(L:Int),(n:Int),(A:Int),((hAt H A-1:Nat):Int),()) ⟨hAt H A-1,rfl,by omega,rfl⟩ (by omega)
    obtain⟨G,I,W,X⟩:=fX f c g
    obtain⟨J,K,p,t⟩:=iG (w:=w) f c g
    have B:=PZ u a (D+kst H n A l)
    have Z:idx H (A:Int)=some (hAt H A:Int):=by rw[<- U];exact(f.at c).2.2
    have i:w64 ((hAt H A:Int)-1)=((hAt H A-1:Nat):Int):=Br (by omega)
    refine .inl ⟨e-(D+kst H n A l),(SM w H n,(b:Int),toks,H,NX H n,EZ w n a (D+kst H n A l),((L+1:Nat):Int),(n:Int),(((a+(D+kst H n A l)) % n:Nat):Int),()),?_,⟨D+kst H n A l,L+1,rfl,by omega,by omega,rfl⟩,by omega⟩
    have ea:(a+(D+kst H n A l)) % n=(A+kst H n A l) % n:=by rw[<- F,ATj,ATR]
    rw[L4,F]at B |-
    rw[ea]
    unfold JJ
    dsimp only
    simp only[v,ASF,Z,i,V,J,K,p,t]
    rw[BK (by omega),A8 (by omega)])
  e (SM w H n,(b:Int),toks,H,NX H n,(0:Int),(0:Int),(n:Int),(a:Int),()) ⟨0,0,by rw[AS0,AR9 Q];rfl,by omega,by omega,by omega⟩ (by omega)
 refine⟨k,?_⟩;have h0:ieq (w.length:Int) 0=false:=by rw[CU,ATM];omega
 have x:ilt (Cn (a:Int) (b:Int)) 0=false:=by rw[BP,ARj];unfold Cn;omega
 have h2:ile (n:Int) (imax (a:Int) (b:Int))=false:=by rw[Bf,U',ARj (by omega)]
 rw[Sr,OM];simp only[PY P C u f,h0,x,A',C,h2,T]
end
theorem AE5{N:Nat}{a:List Tie}(h:RG2 N a):∃ out:List Int,bh (((N:Int),(a,())),())=some (out,true,())/\out.length=N/\I8 (N:Int) (a.map ed) out:=by
 have c:Sz (N:Int):=⟨by have:=h.h1;omega,by have:=h.hN;omega⟩
 obtain⟨d,e,b⟩:=eS (N:Int) (a.map ed) c (by rw[ASZ];have:=h.ht;omega) h.inE;refine⟨d,?_,by have:=b.len;omega,b⟩;rw[j8,eW];simp only[h.lr,ARp,sj (N:Int) a h.ht h.lr,e]
theorem mU{s:List Int}(f:U32 s){N:Nat}{a:List Tie}{b c:Int}(h:SR N a b c)(hi:Jo ((((N:Int),(a,())),(b,(c,()))),())=some (true,())):
  ∃ d,LD ((((N:Int),(a,())),(b,(c,()))),s,())=some (d.map (tw8 s),0,())/\FC (N:Int) d (trk a 0):=by obtain⟨d,i,e⟩:=mM h.g.h1 h.g.hN a h.g.ht h.g.oks h.g.lr;rw[AD6 h.g.oks]at e;refine⟨d,?_,e⟩;rw[YC,Ru];simp only[hi,ARp,i,fa f (FC.len h.g e) e.fr.rg]
def vtx(N:Nat)(a:List Int)(k:Nat):List Int:=(List.range a.length).map fun j=>if j<k/\a.getD j 0<(N:Int)then 1 else 0
theorem ADr(N:Nat)(a:List Int):vtx N a 0=List.replicate a.length 0:=by unfold vtx;rw[List.eq_replicate_iff];refine⟨by simp,fun x b => ?_⟩;obtain⟨j,_,rfl⟩:=ASC.1 b;rw[ARv (by omega)]
theorem PK(N:Nat)(a:List Int){k j:Nat}(b:j<a.length):(vtx N a k)[j]? = some (if j<k/\a.getD j 0<(N:Int)then 1 else 0):=by unfold vtx;rw[ASX,AS9 b];rfl
theorem T8(N:Nat)(a:List Int)(k:Nat):(vtx N a k).length=a.length:=by unfold vtx;simp
theorem ADs(N:Nat)(a:List Int){k:Nat}(c:k<a.length):vtx N a (k+1)=if a.getD k 0<(N:Int)then(vtx N a k).set k 1 else vtx N a k:=by apply AS5;intro j;by_cases b:j<a.length;rw[PK N a b];by_cases h:a.getD k 0<(N:Int);rw[ARt h];by_cases e:k=j;subst e;rw[ATl (by rw[T8];exact b),ARt ⟨by omega,h⟩];rw[ATL e,PK N a b];congr 1;by_cases q:a.getD j 0<(N:Int);by_cases p:j<k;rw[ARt ⟨by omega,q⟩,ARt ⟨p,q⟩];rw[ARv (by omega),ARv (by omega)];rw[ARv (fun x=>q x.2),ARv (fun x=>q x.2)];rw[ARv h,PK N a b];congr 1;by_cases q:a.getD j 0<(N:Int);by_cases e:k=j;subst e;exact absurd q h;by_cases p:j<k;rw[ARt ⟨by omega,q⟩,ARt ⟨p,q⟩];rw[ARv (by omega),ARv (by omega)];rw[ARv (fun x=>q x.2),ARv (fun x=>q x.2)];rw[ATp (by rw[T8];omega),ATp];split<;>simp[T8]<;>omega
theorem AOL(N:Nat)(a:List Int)(k:Nat):WO (vtx N a k) a.length:=⟨T8 ..,fun x b=>by unfold vtx at b;obtain⟨j,_,rfl⟩:=ASC.1 b;split<;>omega⟩
theorem vH(N:Nat)(a:List Int):∀ m,m<=a.length->pre (vtx N a a.length) m=(((a.take m).filter fun x=>decide (x<(N:Int))).length:Int)
 |0,_=>by simp[pre]
 |m+1,h=>by
  have b:a[m]? = some (a.getD m 0):=by rw[ARs (by omega),ARn,ARs (by omega)];rfl
  rw[pre,vH N a m (by omega),AUC,b,ATh,AR7,ARn,PK N a (by omega)];simp only[ASM,Option.toList_some];by_cases q:a.getD m 0<(N:Int);rw[ARt ⟨by omega,q⟩];simp only[ATN,List.filter_nil,q,ARx,ASR,ASb];omega;rw[ARv (fun x=>q x.2)];simp only[ATN,List.filter_nil,q,AR8,AR0,AR3,ASD];omega
theorem uZ{N:Nat}{n:List (List Int)}{l:List Edge}{out:List Int}(h:FC (N:Int) n l)(o:I8 (N:Int) l out){z:List Int}(j:z∈n):(z.filter fun x=>decide (x<(N:Int))).length=AP3 out N (cl out (hd z)):=by
 have i:=h.fr.rg z j;have f:=LY i;have p:=YS i.2.1;have m:(z.filter fun x=>decide (x<(N:Int))).Perm (((List.range N).filter fun k=>decide (out.getD k 0=cl out (hd z))).map fun(k:Nat)=>(k:Int)):=by
  refine(List.perm_ext_iff_of_nodup (i.1.2.2.filter _) ?_).2 fun v => ?_;exact List.Pairwise.map _ (fun a b e=>by omega) (List.nodup_range.filter _);rw[AS8,ASC];have q:∀ {v:Int},v∈z->v<(N:Int)->In (N:Int) v:=fun {v} c d=>⟨f.1,f.2.1,(i.1.2.1 v c).1,d⟩
  constructor;rintro⟨c,d⟩;have d:=ATT d;have g:=q c d;have r:=(cB h o j f p g).1 c;refine⟨v.toNat,AS8.2 ⟨ASW.2 (by have:=g.2.2;omega),ARk r⟩,by have:=g.2.2;omega⟩;rintro⟨k,s,rfl⟩;obtain⟨c,d⟩:=AS8.1 s;have c:=ASW.1 c;have g:In (N:Int) (k:Int):=⟨f.1,f.2.1,by omega,by omega⟩
  exact⟨(cB h o j f p g).2 (by unfold cl;rw[ASQ];exact ATT d),ARk (by omega)⟩
 have:=m.length_eq;rw[ASZ]at this;exact this
theorem AG2{x:Int}(h:0<=x/\x<=255){n:Nat}(b:1<=n)(a:n<=1000000):∃ q:Nat,rem? (w64 x) (n:Int)=some (q:Int)/\q<n:=by obtain⟨m,rfl⟩:=ARq h.1;exact⟨m % n,by rw[BK (by omega),UL (by omega)],ATB _ (by omega)⟩
theorem TY{N:Nat}{d:List Tie}{b c f g:Int}(a H:List Int)(M:List (List Int))(l:a.length<=1000):
  A6 Es many ((N:Int),d,b,c,f,g,a,H,M,List.replicate a.length (0:Int),(0:Int),())=some (.inl ((N:Int),d,b,c,f,g,a,H,M,vtx N a a.length,())):=by
 have e:=zR (step:=Es) (fun k=>((N:Int),d,b,c,f,g,a,H,M,vtx N a k,(k:Int),())) a.length (.inl ((N:Int),d,b,c,f,g,a,H,M,vtx N a a.length,())) (by omega)
  (fun k h=>by
   unfold Es
   dsimp only
   rw[A',A7,ARk h]
   have i:idx a (k:Int)=some (a.getD k 0):=DZ 0 h
   have j:=BD (PK N a h (k:=k))
   simp only[i,j,Jx,ADs N a h,BP]
   by_cases q:a.getD k 0<(N:Int)
   ·rw[ARk q,ARt q,A8 (by omega)]
   ·rw[ARj q,ARv q,A8 (by omega)])
  (by unfold Es;dsimp only;rw[A',A7,ARj (by omega)])
 rw[<- ADr N];exact e
theorem ZS(Y:PJ ()=some (true,()))(g:oF)(s d:List Int)(Z:wfD (.slice (.int .u32)) s)(h2:wfD (.arr 2 (.int .u8)) d):EE (g,s,d,())=some (true,()):=by
 have S:=AON Z;obtain⟨⟨n,j,⟨⟩⟩,b,c,⟨⟩⟩:=g;rw[Nu,Km];simp only[Y,A',BP];by_cases T:(30:Int)<j.length;rw[ARk T];rw[ARj T];by_cases U:(12:Int)<n;rw[ARk U];rw[ARj U];simp only;rcases bt n j (by omega)with⟨r1,r⟩|⟨N,rfl,h⟩
 simp only[XH n j r1,ASF];simp only[XG h];by_cases m:xa j;rotate_left;have:bw (xa j)=false:=by
  cases o:bw (xa j)with
   |false=>rfl
   |true=>exact absurd ((Re _).1 o) m
 simp only[this,ASF];simp only[(Re _).2 m,ARp];rcases AEc (N:Int) j b c (by omega)with⟨_,H⟩|⟨N',e,hS,hi,H⟩
 simp only[H,ASF];have e:=Int.ofNat.inj e;subst e;simp only[H,ARp];obtain⟨u,ez,F⟩:=mU S hS hi;have hlz:=FC.len h F;have I:0<u.length:=by have hN:=h.h1;have hN2:=h.hN;obtain⟨z,G,_⟩:=F.fr.cov 0 ⟨by omega,by omega,by omega,by omega⟩;exact List.length_pos_of_mem G
 have V:∀ k,0<=A5 d k (0:Int)/\A5 d k (0:Int)<=255:=by intro k;unfold A5;by_cases h:k<d.length;have:=h2.2 d[k] (ASj h);have h':0<=d[k]/\d[k]<=255:=this;simpa [h]using h';simp[ATp (Nat.le_of_not_lt h)]
 obtain⟨p,ep,hp⟩:=AG2 (V 0) (n:=u.length) I (by omega);obtain⟨z,G⟩:∃ z,u[p]? = some z:=⟨_,ARs hp⟩
 have v:=ARu G;have l:=F.fr.rg z v;have W:(u.map (tw8 s))[p]? = some (tw8 s z):=by rw[ASX,G];rfl
 have w:=l.1.1;have x:0<z.length:=ATu.2 l.2.1;obtain⟨q,eq,o⟩:=AG2 (V 1) (n:=z.length) x (by omega);have y:=ho8 S l;have A:=AOL N z z.length;have J:ieq (u.length:Int) 0=false:=by rw[CU,ATM];omega
 have B:CC (z.length:Int)=true:=ACB (by omega);have C:ile (z.length:Int) (z.length:Int)=true:=by rw[Bf];exact ARk (Int.le_refl _)
 simp only[ez,CH,ARp,ASZ,J,ep,BD W,KV W,tw8,B,C,AS4,AIa,TY z _ _ w];have f:=vH N z z.length (ARo _);rw[ASq (ARo _)]at f;obtain⟨out,es,K,hc⟩:=AE5 h;have L:I8 (N:Int) (trk j 0) out:=I8.congr (fun a b=>⟨fun c=>c.cut m,fun c=>c.sub (dj j 0)⟩) hc;rw[uZ F L v]at f;have X:=LY l;have M:idx z (0:Int)=some (hd z):=by
  have:z[0]? = some (hd z):=by
   cases z with
    |nil=>exact absurd rfl l.2.1
    |cons a r=>rfl
  exact BD (n:=0) this
 have D:Pg (((N:Int),(j,())),((3:Int),(hd z,((0:Int),()))),())=some (pre (vtx N z z.length) z.length,0,()):=by rw[Zl h.hN K es,f];unfold ans;rw[ARv (by simp),ARv (by simp),ARt rfl,ARt ⟨X.2.2.1,X.2.2.2⟩]
 obtain⟨k1,b1⟩:=Pf l.1 rfl A y (a:=0) (b:=q) (e:=q) (by omega) o o (by rw[ASP,AR9 o]);have O:IQ ((z,(z.map (htF s),(NX (z.map (htF s)) z.length,()))),SM (vtx N z z.length) (z.map (htF s)) z.length,(0:Int),(q:Int),())=_:=b1;obtain⟨k2,b2⟩:=Pf l.1 rfl A y (a:=q) (b:=0) (e:=if q=0 then 0 else z.length-q) o (by omega) (by split<;>omega) (by by_cases t:q=0;rw[ARt t,t];exact Nat.zero_mod _;rw[ARv t,show q+(z.length-q)=z.length by omega,Nat.mod_self])
 have P:IQ ((z,(z.map (htF s),(NX (z.map (htF s)) z.length,()))),SM (vtx N z z.length) (z.map (htF s)) z.length,(q:Int),(0:Int),())=_:=b2;simp only[XP l.1 rfl A y,ph l.1 rfl A y,M,D,eq,O,P,CH];by_cases t:q=0;subst t;have Q:ieq ((0:Nat):Int) 0=true:=CH 0;simp only[Q];have R:ieq (q:Int) 0=false:=by rw[CU,ATM];omega
 have hr:=PZ A 0 z.length;have E:EZ (vtx N z z.length) z.length 0 q+EZ (vtx N z z.length) z.length q (z.length-q)=pre (vtx N z z.length) z.length:=by rw[<- XA (vtx N z z.length) (n:=z.length) (i:=0) (by omega)];have:=L4 (vtx N z z.length) z.length 0 q (z.length-q);rw[ASP,AR9 o,show q+(z.length-q)=z.length by omega]at this;exact this.symm
 have ht:=y.top;rw[XA _ (by omega)]at hr;simp only[R,ARv t];rw[E,BK (by omega),CH]
abbrev uu:=Int×Int×(List Int)×Unit
abbrev Bt8:=Int×(List (Int×Int×Unit))×(List (Int×Int×Int×Unit))×Unit
abbrev Wy8:=Int×Int×(Int×Int×(List (List Int))×Unit)×Unit
theorem Cg{α β:Type}(f:Lk->α->β){a:α}{v:β}(h:f idI a=v):f lockI a=v:=by rw[X7];exact h
inductive Rn(w:Wy8):oF->List Bt8->oF->List uu->Prop
 |nil (s:oF):Rn w s [] s []
 |cons {s a t:oF} {x:Bt8} {r:uu} {xs:List Bt8} {l:List uu}:Ig (s,x,w,())=some (a,r,())->Rn w a xs t l->Rn w s (x::xs) t (r::l)
theorem Rn.iter{w:Wy8}{s t:oF}{c:List Bt8}{l:List uu}(h:Rn w s c t l):∀ (pre:List Bt8) (b:List uu) (e:Int) (m:Nat),c.length<m->b.length+c.length<1000000->pre.length+c.length<1000000 ->
  BC QD m (s.1.1,s.1.2.1,s.2.1,s.2.2.1,w.1,w.2.1,w.2.2.1.1,w.2.2.1.2.1,w.2.2.1.2.2.1,(0:Int),(0:Int),(0:Int),e,b,pre++c,A2 (pre++c),(pre.length:Int),())=some (.inl (t.1.1,t.1.2.1,t.2.1,t.2.2.1,0,0,0,e,b++l,())):=by
 induction h with
  |nil s=>
   intro pre b e m d _ _;obtain⟨k,rfl⟩:∃ k,m=k+1:=⟨m-1,by omega⟩
   rw[BC,QD,A',A7,ARj (by simp),ASu,ASu]
  |@cons s a t x r xs l ht _ ih=>
   intro pre b e m d g i;simp only[ARy]at d g i;obtain⟨k,rfl⟩:∃ k,m=k+1:=⟨m-1,by omega⟩
   have j:(pre++x::xs)[pre.length]? = some x:=by simp
   have f:=ih (pre++[x]) (b++[r]) e k (by omega) (by grind) (by grind);simp only[List.append_assoc,ATQ,AR7,ASb]at f;obtain⟨⟨n,o,⟨⟩⟩,p,q,⟨⟩⟩:=s;obtain⟨u,v,⟨y,z,A,⟨⟩⟩,⟨⟩⟩:=w;obtain⟨B,C,D,⟨⟩⟩:=x;obtain⟨E,F,G,⟨⟩⟩:=r;rw[BC,QD,A',A7,ARk (by simp)];simp only[BD j,ht];rw[Cw (by simp only[A',ASb];omega),A8 (by omega)];simp only[Ym,<- A'];exact f
theorem Rn.run{w:Wy8}{s t:oF}{a:List Bt8}{l:List uu}(h:Rn w s a t l)(d:Jo (s,())=some (true,())){b:List Int}{p e:Int}(f:Kr (b,())=some (a,p,e,()))(o:a.length<900000)(q:l.length<900000):
  AHM (s,b,w,())=some (t,l++(if e=0 then []else [(e,((0:Int),([],())))]),e,()):=by have g:=h.iter [] [] e many (by simp only[many];omega) (by grind) (by grind);rw[wu,sw];obtain⟨⟨i,j,⟨⟩⟩,k,m,⟨⟩⟩:=s;simp only[d,ARp,f];rw[Bj];have n:BC QD many (i,j,k,m,w.1,w.2.1,w.2.2.1.1,w.2.2.1.2.1,w.2.2.1.2.2.1,(0:Int),(0:Int),(0:Int),e,([]:List uu),a,A2 a,(0:Int),())=_:=g;simp only[n,ASO];rw[CG];by_cases c:e=0;grind;rw[ARj c,ARv c];simp only[ASF];rw[Cw (by simp only[A',ASb];omega)];rfl
theorem Kk:tR ()=some (8,3,2,3,[[0,1],[1,0],[2,0]],()):=by rw[xI];rfl
theorem AQb:Gg (((1:Int),(([(0,(1,())),(1,(2,())),(2,(0,())),(3,(2,()))]:List (Int×Int×Unit)),(([]:List (Int×Int×Int×Unit)),()))),())=some ([1,0,4,0,0,0,1,0,1,0,2,0,2,0,0,0,3,0,2],(0,())):=Cg (fun i=>@Gg i) (by kernel_rfl)
theorem AQa:Gg (((2:Int),(([(1,(0,()))]:List (Int×Int×Unit)),(([]:List (Int×Int×Int×Unit)),()))),())=some ([2,0,1,0,1,0,0],(0,())):=Cg (fun i=>@Gg i) (by kernel_rfl)
theorem AQZ:Gg (((3:Int),(([]:List (Int×Int×Unit)),(([(3,(3,(0,()))),(4,(0,(0,())))]:List (Int×Int×Int×Unit)),()))),())=some ([3,0,2,3,0,3,0,0,4,0,0,0,0],(0,())):=Cg (fun i=>@Gg i) (by kernel_rfl)
theorem WX:YO ((5:Int),())=some (((5,([],())),(0,(0,()))),(0,())):=Cg (fun i=>@YO i) (by kernel_rfl)
theorem WK:fits (A2 ([1,0,4,0,0,0,1,0,1,0,2,0,2,0,0,0,3,0,2]:List Int)+A2 ([2,0,1,0,1,0,0]:List Int))=true:=Cw (by simp[A2])
theorem WS:Bk ([1,0,4,0,0,0,1,0,1,0,2,0,2,0,0,0,3,0,2]:List Int) ([2,0,1,0,1,0,0]:List Int)=([1,0,4,0,0,0,1,0,1,0,2,0,2,0,0,0,3,0,2,2,0,1,0,1,0,0]:List Int):=rfl
theorem WJ:fits (A2 ([1,0,4,0,0,0,1,0,1,0,2,0,2,0,0,0,3,0,2,2,0,1,0,1,0,0]:List Int)+A2 ([3,0,2,3,0,3,0,0,4,0,0,0,0]:List Int))=true:=Cw (by simp[A2])
theorem WQ:Bk ([1,0,4,0,0,0,1,0,1,0,2,0,2,0,0,0,3,0,2,2,0,1,0,1,0,0]:List Int) ([3,0,2,3,0,3,0,0,4,0,0,0,0]:List Int)=([1,0,4,0,0,0,1,0,1,0,2,0,2,0,0,0,3,0,2,2,0,1,0,1,0,0,3,0,2,3,0,3,0,0,4,0,0,0,0]:List Int):=rfl
theorem AQQ:Kr (([1,0,4,0,0,0,1,0,1,0,2,0,2,0,0,0,3,0,2,2,0,1,0,1,0,0,3,0,2,3,0,3,0,0,4,0,0,0,0]:List Int),())=some ([(1,([(0,(1,())),(1,(2,())),(2,(0,())),(3,(2,()))],([],()))),(2,([(1,(0,()))],([],()))),(3,([],([(3,(3,(0,()))),(4,(0,(0,())))],())))],(39,(0,()))):=Cg (fun i=>@Kr i) (by kernel_rfl)
theorem AQP:Ig ((((5:Int),(([]:List (Int×Int×Int×Bool×Unit)),())),((0:Int),((0:Int),()))),((1:Int),(([(0,(1,())),(1,(2,())),(2,(0,())),(3,(2,()))]:List (Int×Int×Unit)),(([]:List (Int×Int×Int×Unit)),()))),((8:Int),((3:Int),(((2:Int),((3:Int),(([[0,1],[1,0],[2,0]]:List (List Int)),()))),()))),())=some (((5,([(0,(1,(0,(true,())))),(0,(2,(0,(true,())))),(1,(2,(0,(false,())))),(2,(3,(0,(true,()))))],())),(1,(16,()))),((0,(4,([],()))),())):=Cg (fun i=>@Ig i) (by kernel_rfl)
theorem AQO:Ig ((((5:Int),(([(0,(1,(0,(true,())))),(0,(2,(0,(true,())))),(1,(2,(0,(false,())))),(2,(3,(0,(true,()))))]:List (Int×Int×Int×Bool×Unit)),())),((1:Int),((16:Int),()))),((2:Int),(([(1,(0,()))]:List (Int×Int×Unit)),(([]:List (Int×Int×Int×Unit)),()))),((8:Int),((3:Int),(((2:Int),((3:Int),(([[0,1],[1,0],[2,0]]:List (List Int)),()))),()))),())=some (((5,([(0,(2,(0,(true,())))),(1,(2,(0,(true,())))),(2,(3,(0,(true,()))))],())),(2,(28,()))),((0,(1,([],()))),())):=Cg (fun i=>@Ig i) (by kernel_rfl)
theorem AQN:Ig ((((5:Int),(([(0,(2,(0,(true,())))),(1,(2,(0,(true,())))),(2,(3,(0,(true,()))))]:List (Int×Int×Int×Bool×Unit)),())),((2:Int),((28:Int),()))),((3:Int),(([]:List (Int×Int×Unit)),(([(3,(3,(0,()))),(4,(0,(0,())))]:List (Int×Int×Int×Unit)),()))),((8:Int),((3:Int),(((2:Int),((3:Int),(([[0,1],[1,0],[2,0]]:List (List Int)),()))),()))),())=some (((5,([(0,(2,(0,(true,())))),(1,(2,(0,(true,())))),(2,(3,(0,(true,()))))],())),(3,(29,()))),((0,(0,([4,2],()))),())):=Cg (fun i=>@Ig i) (by kernel_rfl)
theorem AQS:Rn ((8:Int),((3:Int),(((2:Int),((3:Int),(([[0,1],[1,0],[2,0]]:List (List Int)),()))),()))) (((5:Int),(([]:List (Int×Int×Int×Bool×Unit)),())),((0:Int),((0:Int),()))) ([((1:Int),(([(0,(1,())),(1,(2,())),(2,(0,())),(3,(2,()))]:List (Int×Int×Unit)),(([]:List (Int×Int×Int×Unit)),()))),((2:Int),(([(1,(0,()))]:List (Int×Int×Unit)),(([]:List (Int×Int×Int×Unit)),()))),((3:Int),(([]:List (Int×Int×Unit)),(([(3,(3,(0,()))),(4,(0,(0,())))]:List (Int×Int×Int×Unit)),())))]:List (Int×(List (Int×Int×Unit))×(List (Int×Int×Int×Unit))×Unit)) (((5:Int),(([(0,(2,(0,(true,())))),(1,(2,(0,(true,())))),(2,(3,(0,(true,()))))]:List (Int×Int×Int×Bool×Unit)),())),((3:Int),((29:Int),()))) [(0,(4,([],()))),(0,(1,([],()))),(0,(0,([4,2],())))]:=.cons AQP (.cons AQO (.cons AQN (.nil _)))
theorem AQX:Jo ((((5:Int),(([]:List (Int×Int×Int×Bool×Unit)),())),((0:Int),((0:Int),()))),())=some (true,()):=Cg (fun i=>@Jo i) (by kernel_rfl)
theorem N_:AHM ((((5:Int),(([]:List (Int×Int×Int×Bool×Unit)),())),((0:Int),((0:Int),()))),([1,0,4,0,0,0,1,0,1,0,2,0,2,0,0,0,3,0,2,2,0,1,0,1,0,0,3,0,2,3,0,3,0,0,4,0,0,0,0]:List Int),((8:Int),((3:Int),(((2:Int),((3:Int),(([[0,1],[1,0],[2,0]]:List (List Int)),()))),()))),())=some ((((5:Int),(([(0,(2,(0,(true,())))),(1,(2,(0,(true,())))),(2,(3,(0,(true,()))))]:List (Int×Int×Int×Bool×Unit)),())),((3:Int),((29:Int),()))),[(0,(4,([],()))),(0,(1,([],()))),(0,(0,([4,2],())))],0,()):=AQS.run AQX AQQ (ASI rfl) (ASI rfl)
theorem Vp:YE (([(0,(4,([],()))),(0,(1,([],()))),(0,(0,([4,2],())))]:List (Int×Int×(List Int)×Unit)),())=some ([0,0,4,0,0,0,0,1,0,0,0,0,0,0,2,0,4,0,2],(0,())):=Cg (fun i=>@YE i) (by kernel_rfl)
theorem AQd:UJ (([0,0,4,0,0,0,0,1,0,0,0,0,0,0,2,0,4,0,2]:List Int),())=some (0,(4,([],(5,(0,()))))):=Cg (fun i=>@UJ i) (by kernel_rfl)
theorem VV:LD ((((5:Int),(([(0,(2,(0,(true,())))),(1,(2,(0,(true,())))),(2,(3,(0,(true,()))))]:List (Int×Int×Int×Bool×Unit)),())),((3:Int),((29:Int),()))),([1,2,4,8]:List Int),())=some ([([0,7,16,1,12,2,18,3,22,15],([1,4,1,2,1,3,3,4,3,4],([[1],[2,3,5,7],[3],[4,5],[5],[6,6,6],[7,7,7],[8,8,8,9],[9,9,9],[0,1,1,1]],()))),([4],([1],([[0]],())))],(0,())):=Cg (fun i=>@LD i) (by kernel_rfl)
theorem Vy:A2 ([(0,(4,([],()))),(0,(1,([],()))),(0,(0,([4,2],())))]:List (Int×Int×(List Int)×Unit))=3:=rfl
theorem Vz:A2 ([([0,7,16,1,12,2,18,3,22,15],([1,4,1,2,1,3,3,4,3,4],([[1],[2,3,5,7],[3],[4,5],[5],[6,6,6],[7,7,7],[8,8,8,9],[9,9,9],[0,1,1,1]],()))),([4],([1],([[0]],())))]:List ((List Int)×(List Int)×(List (List Int))×Unit))=2:=rfl
theorem WC:idx ([([0,7,16,1,12,2,18,3,22,15],([1,4,1,2,1,3,3,4,3,4],([[1],[2,3,5,7],[3],[4,5],[5],[6,6,6],[7,7,7],[8,8,8,9],[9,9,9],[0,1,1,1]],()))),([4],([1],([[0]],())))]:List ((List Int)×(List Int)×(List (List Int))×Unit)) (0:Int)=some (([0,7,16,1,12,2,18,3,22,15]:List Int),(([1,4,1,2,1,3,3,4,3,4]:List Int),(([[1],[2,3,5,7],[3],[4,5],[5],[6,6,6],[7,7,7],[8,8,8,9],[9,9,9],[0,1,1,1]]:List (List Int)),()))):=BD (n:=0) rfl
theorem WG:A5 ([([0,7,16,1,12,2,18,3,22,15],([1,4,1,2,1,3,3,4,3,4],([[1],[2,3,5,7],[3],[4,5],[5],[6,6,6],[7,7,7],[8,8,8,9],[9,9,9],[0,1,1,1]],()))),([4],([1],([[0]],())))]:List ((List Int)×(List Int)×(List (List Int))×Unit)) 0 (([]:List (Int)),(([]:List (Int)),(([]:List (List Int)),())))=(([0,7,16,1,12,2,18,3,22,15]:List Int),(([1,4,1,2,1,3,3,4,3,4]:List Int),(([[1],[2,3,5,7],[3],[4,5],[5],[6,6,6],[7,7,7],[8,8,8,9],[9,9,9],[0,1,1,1]]:List (List Int)),()))):=rfl
theorem Vx:A2 ([0,7,16,1,12,2,18,3,22,15]:List Int)=10:=rfl
theorem WI:CC (10:Int)=true:=(Ei _).2 (by omega)
theorem WA:ile (10:Int) (10:Int)=true:=by rw[Bf];rfl
theorem Vr:C5 (A3 (10:Int)) (0:Int)=([0,0,0,0,0,0,0,0,0,0]:List Int):=rfl
theorem Vq:C5 (A3 (10:Int)) false=([false,false,false,false,false,false,false,false,false,false]:List Bool):=rfl
theorem VZ:L_ ((([0,7,16,1,12,2,18,3,22,15]:List Int),(([1,4,1,2,1,3,3,4,3,4]:List Int),(([[1],[2,3,5,7],[3],[4,5],[5],[6,6,6],[7,7,7],[8,8,8,9],[9,9,9],[0,1,1,1]]:List (List Int)),()))),([0,0,0,0,0,0,0,0,0,0]:List Int),())=some ([[0],[0,0,0,0],[0],[0,0],[0],[0,0,0],[0,0,0],[0,0,0,0],[0,0,0],[0,0,0,0]],(0,())):=Cg (fun i=>@L_ i) (by kernel_rfl)
theorem AQT:fA ((([0,7,16,1,12,2,18,3,22,15]:List Int),(([1,4,1,2,1,3,3,4,3,4]:List Int),(([[1],[2,3,5,7],[3],[4,5],[5],[6,6,6],[7,7,7],[8,8,8,9],[9,9,9],[0,1,1,1]]:List (List Int)),()))),([false,false,false,false,false,false,false,false,false,false]:List Bool),())=some ([[0],[0,0,0,0],[0],[0,0],[0],[0,0,0],[0,0,0],[0,0,0,0],[0,0,0],[0,0,0,0]],(0,())):=Cg (fun i=>@fA i) (by kernel_rfl)
theorem VY:OI ((([0,7,16,1,12,2,18,3,22,15]:List Int),(([1,4,1,2,1,3,3,4,3,4]:List Int),(([[1],[2,3,5,7],[3],[4,5],[5],[6,6,6],[7,7,7],[8,8,8,9],[9,9,9],[0,1,1,1]]:List (List Int)),()))),([[0],[0,0,0,0],[0],[0,0],[0],[0,0,0],[0,0,0],[0,0,0,0],[0,0,0],[0,0,0,0]]:List (List Int)),())=some (0,(0,())):=Cg (fun i=>@OI i) (by kernel_rfl)
theorem AQV:UN ((([0,7,16,1,12,2,18,3,22,15]:List Int),(([1,4,1,2,1,3,3,4,3,4]:List Int),(([[1],[2,3,5,7],[3],[4,5],[5],[6,6,6],[7,7,7],[8,8,8,9],[9,9,9],[0,1,1,1]]:List (List Int)),()))),([[0],[0,0,0,0],[0],[0,0],[0],[0,0,0],[0,0,0],[0,0,0,0],[0,0,0],[0,0,0,0]]:List (List Int)),(0:Int),(3:Int),())=some ([],(0,())):=Cg (fun i=>@UN i) (by kernel_rfl)
theorem WH:Gl (((5:Int),(([(0,(2,(0,(true,())))),(1,(2,(0,(true,())))),(2,(3,(0,(true,()))))]:List (Int×Int×Int×Bool×Unit)),())),(0:Int),())=some ((5,([[0,7,16,1,12,2,18,3,22,15],[4]],())),(0,())):=Cg (fun i=>@Gl i) (by kernel_rfl)
theorem AQY:xA (((5:Int),(([[0,7,16,1,12,2,18,3,22,15],[4]]:List (List Int)),())),(3:Int),())=some (4,(0,())):=Cg (fun i=>@xA i) (by kernel_rfl)
theorem WL:LB (((5:Int),(([(0,(2,(0,(true,())))),(1,(2,(0,(true,())))),(2,(3,(0,(true,()))))]:List (Int×Int×Int×Bool×Unit)),())),())=some ([(0,(2,())),(1,(2,())),(2,(3,()))],()):=Cg (fun i=>@LB i) (by kernel_rfl)
theorem WT:IP ((5:Int),([(0,(2,())),(1,(2,())),(2,(3,()))]:List (Int×Int×Unit)),())=some ([0,0,0,0,4],(0,())):=Cg (fun i=>@IP i) (by kernel_rfl)
theorem AQU:eo ((3:Int),())=some ([0,0,0],([2,1,0],(0,()))):=Cg (fun i=>@eo i) (by kernel_rfl)
theorem WU:SZ ((3:Int),(1:Int),(2:Int),())=some ([(0,(3,(-1,(0,()))))],(1,([false,false,false],([[0],[]],(false,(0,(0,(0,())))))))):=Cg (fun i=>@SZ i) (by kernel_rfl)
theorem AQM:dx ((4:Int),([3,1]:List Int),())=some (4,([0,0,0,0,0,0,0,0,0,1,0,0,0,3,0,0],([false,false,false,false,false,false,false,false,false,true,false,false,false,true,false,false],(0,())))):=Cg (fun i=>@dx i) (by kernel_rfl)
theorem WM:SK (([(0,(1,())),(1,(2,())),(2,(0,())),(3,(2,()))]:List (Int×Int×Unit)),((8:Int),((3:Int),(((2:Int),((3:Int),(([[0,1],[1,0],[2,0]]:List (List Int)),()))),()))),())=some ([(0,(1,())),(0,(2,())),(1,(2,())),(2,(3,()))],(13,(0,()))):=Cg (fun i=>@SK i) (by kernel_rfl)
theorem WD:AH5 (((5:Int),(([(0,(2,(0,(true,())))),(1,(2,(0,(true,())))),(2,(3,(0,(true,()))))]:List (Int×Int×Int×Bool×Unit)),())),([(1,(0,()))]:List (Int×Int×Unit)),())=some (5,([(0,(1,(0,(false,())))),(0,(2,(0,(true,())))),(1,(2,(0,(true,())))),(2,(3,(0,(true,()))))],(1,(0,())))):=Cg (fun i=>@AH5 i) (by kernel_rfl)
theorem Vt:ku (((5:Int),(([(0,(1,(0,(false,())))),(0,(2,(0,(true,())))),(1,(2,(0,(true,())))),(2,(3,(0,(true,()))))]:List (Int×Int×Int×Bool×Unit)),())),([(1,(0,()))]:List (Int×Int×Unit)),())=some ((5,([(0,(2,(0,(true,())))),(1,(2,(0,(true,())))),(2,(3,(0,(true,()))))],())),([(false,(false,((0,(0,())),(0,()))))],(0,()))):=Cg (fun i=>@ku i) (by kernel_rfl)
theorem Vv:O1 ((4:Int),((2:Int),((3:Int),(([[0,1],[1,0],[2,0]]:List (List Int)),()))),())=some ([2,3,0,1],(3,(0,()))):=Cg (fun i=>@O1 i) (by kernel_rfl)
theorem WY:ZD (((5:Int),(([(0,(2,(0,(true,())))),(1,(2,(0,(true,())))),(2,(3,(0,(true,()))))]:List (Int×Int×Int×Bool×Unit)),())),((3:Int),(([]:List (Int×Int×Unit)),(([(3,(3,(0,()))),(4,(0,(0,())))]:List (Int×Int×Int×Unit)),()))),((8:Int),((3:Int),(((2:Int),((3:Int),(([[0,1],[1,0],[2,0]]:List (List Int)),()))),()))),())=some (3,([],([(3,(3,(0,()))),(4,(0,(0,())))],(0,(0,()))))):=Cg (fun i=>@ZD i) (by kernel_rfl)
theorem WW:Jp (([0,0,0,0,4]:List Int),([0,0,0,0,4]:List Int),())=some (true,()):=Cg (fun i=>@Jp i) (by kernel_rfl)
theorem Vu:A2 ([2,1,0]:List Int)=3:=rfl
theorem AQc:gX (((([(0,(3,(-1,(0,()))))]:List (Int×Int×Int×Int×Unit)),((1:Int),(([false,false,false]:List Bool),()))),(([[0],[]]:List (List Int)),(false,((0:Int),((0:Int),()))))),())=some (5,()):=Cg (fun i=>@gX i) (by kernel_rfl)
theorem AQW:dy (((4:Int),(([0,0,0,0,0,0,0,0,0,1,0,0,0,3,0,0]:List Int),(([false,false,false,false,false,false,false,false,false,true,false,false,false,true,false,false]:List Bool),()))),())=some ([1,3],()):=Cg (fun i=>@dy i) (by kernel_rfl)
theorem V_:A2 ([1,3]:List Int)=2:=rfl
theorem WN:A2 ([(0,(1,())),(0,(2,())),(1,(2,())),(2,(3,()))]:List (Int×Int×Unit))=4:=rfl
theorem AQR:UH (((5:Int),(([(0,(2,(0,(true,())))),(1,(2,(0,(true,())))),(2,(3,(0,(true,()))))]:List (Int×Int×Int×Bool×Unit)),())),())=some (true,()):=Cg (fun i=>@UH i) (by kernel_rfl)
theorem Vo:mJ (((5:Int),(([(0,(2,(0,(true,())))),(1,(2,(0,(true,())))),(2,(3,(0,(true,()))))]:List (Int×Int×Int×Bool×Unit)),())),((5:Int),(([(0,(2,(0,(true,())))),(1,(2,(0,(true,())))),(2,(3,(0,(true,()))))]:List (Int×Int×Int×Bool×Unit)),())),())=some (true,()):=Cg (fun i=>@mJ i) (by kernel_rfl)
theorem Vw:A2 ([2,3,0,1]:List Int)=4:=rfl
theorem WB:idx ([(0,(4,([],()))),(0,(1,([],()))),(0,(0,([4,2],())))]:List (Int×Int×(List Int)×Unit)) (2:Int)=some ((0:Int),((0:Int),(([4,2]:List Int),()))):=BD (n:=2) rfl
theorem WE:A5 ([(0,(4,([],()))),(0,(1,([],()))),(0,(0,([4,2],())))]:List (Int×Int×(List Int)×Unit)) 2 ((0:Int),((0:Int),(([]:List (Int)),())))=((0:Int),((0:Int),(([4,2]:List Int),()))):=rfl
theorem WV:Jp (([4,2]:List Int),([4,2]:List Int),())=some (true,()):=Cg (fun i=>@Jp i) (by kernel_rfl)
theorem VX:Ji (((5:Int),(([[0,7,16,1,12,2,18,3,22,15],[4]]:List (List Int)),())),())=some (true,()):=Cg (fun i=>@Ji i) (by kernel_rfl)
theorem VW:JC ((([0,7,16,1,12,2,18,3,22,15]:List Int),(([1,4,1,2,1,3,3,4,3,4]:List Int),(([[1],[2,3,5,7],[3],[4,5],[5],[6,6,6],[7,7,7],[8,8,8,9],[9,9,9],[0,1,1,1]]:List (List Int)),()))),())=some (true,()):=Cg (fun i=>@JC i) (by kernel_rfl)
theorem Vs:A2 ([]:List Int)=0:=rfl
theorem oq:PJ ()=some (true,()):=by rw[jQ,dV,AQb,AQa,AQZ,AQU,AQM];simp only[Kk,WX,WK,WS,WJ,WQ,N_,Vp,VV,Vy,Vz,WC,WG,Vx,WI,WA,Vr,Vq,VZ,VY,WH,WL,WT,WU,WM,WD,Vt,Vv,WY,WW,Vu,V_,WN,Vo,Vw,WB,WE,WV,VX,VW,Vs,CH,ARp,AS4,ASJ];rw[AQd];simp only[Kk,WX,WK,WS,WJ,WQ,N_,Vp,VV,Vy,Vz,WC,WG,Vx,WI,WA,Vr,Vq,VZ,VY,WH,WL,WT,WU,WM,WD,Vt,Vv,WY,WW,Vu,V_,WN,Vo,Vw,WB,WE,WV,VX,VW,Vs,CH,ARp,AS4,ASJ];rw[AQT];simp only[Kk,WX,WK,WS,WJ,WQ,N_,Vp,VV,Vy,Vz,WC,WG,Vx,WI,WA,Vr,Vq,VZ,VY,WH,WL,WT,WU,WM,WD,Vt,Vv,WY,WW,Vu,V_,WN,Vo,Vw,WB,WE,WV,VX,VW,Vs,CH,ARp,AS4,ASJ];rw[AQV];simp only[Kk,WX,WK,WS,WJ,WQ,N_,Vp,VV,Vy,Vz,WC,WG,Vx,WI,WA,Vr,Vq,VZ,VY,WH,WL,WT,WU,WM,WD,Vt,Vv,WY,WW,Vu,V_,WN,Vo,Vw,WB,WE,WV,VX,VW,Vs,CH,ARp,AS4,ASJ];rw[AQY];simp only[Kk,WX,WK,WS,WJ,WQ,N_,Vp,VV,Vy,Vz,WC,WG,Vx,WI,WA,Vr,Vq,VZ,VY,WH,WL,WT,WU,WM,WD,Vt,Vv,WY,WW,Vu,V_,WN,Vo,Vw,WB,WE,WV,VX,VW,Vs,CH,ARp,AS4,ASJ];rw[AQc];simp only[Kk,WX,WK,WS,WJ,WQ,N_,Vp,VV,Vy,Vz,WC,WG,Vx,WI,WA,Vr,Vq,VZ,VY,WH,WL,WT,WU,WM,WD,Vt,Vv,WY,WW,Vu,V_,WN,Vo,Vw,WB,WE,WV,VX,VW,Vs,CH,ARp,AS4,ASJ];rw[AQW];simp only[Kk,WX,WK,WS,WJ,WQ,N_,Vp,VV,Vy,Vz,WC,WG,Vx,WI,WA,Vr,Vq,VZ,VY,WH,WL,WT,WU,WM,WD,Vt,Vv,WY,WW,Vu,V_,WN,Vo,Vw,WB,WE,WV,VX,VW,Vs,CH,ARp,AS4,ASJ];rw[AQR]
theorem TW(g:oF)(s a:List Int){P:Prop}(_:P)(b:wfD (.slice (.int .u32)) s)(c:wfD (.arr 2 (.int .u8)) a):EE (g,s,a,())=some (true,()):=ZS oq g s a b c
end Go.Pev.Pl
end
section
namespace Go.Pev
open Go.Proofs
noncomputable section
def APy:=Chn.g ⟨dH,ic⟩ ⟨35,0,0,0,0,none,AIU,[(.ret,APx)],APw,[],[]⟩ tR Tryz.func35 xI
def AJ1:=Chn.g APy ⟨9,0,0,0,0,none,AIU,[(.ret,BH)],A4,[(28,[[44],[44],[10],[],[8,248],[],[],[],[],[],[265]]),(24,[[2],[2],[],[0,196]]),(15,[[],[86],[86],[],[86],[86],[86],[],[],[104]]),(14,[[],[86],[86],[],[86],[86],[86],[],[],[94]]),(8,[[44],[],[],[13,20],[],[47,28],[],[48,50],[],[],[],[],[45]])],[]⟩ PJ Tryz.func9 jQ
def dU:=Chn.g AJ1 ⟨3,0,0,3,0,none,Kl,[(.ret,BH)],A4,[(11,[[4],[4],[],[],[],[0],[0],[0]]),(15,[[0],[0],[4],[4]])],[(0,Zg,ZT)]⟩ EE Tryz.func3 Nu
end
end Go.Pev
end
section

end
