/- A part of the proofs of this seat: NKC T19a NKD T22a T21a T23a T23b T24a PlnC NKE NKF NKG NKH NU24a NU24b NU24c NU24d NU23a NU23b NU23c NU23d NU23e T24b NU24f NU24g NU24h NU24i NU24j NU24k NU24l NU24m NU24n PlnD NU21a NU21b NSIg NU23f NU23g PlnE NU23h NU23i NU23n W33a T05a T05b T05c CU26a CU26b CU26c CU26d CU26e CU26f T26a CU26g CU26h CBW22v CU26i. -/
import Derived.Test.YthlfbbnpdfjdiaaGreatDoorP55b7499d84
import Derived.KernelRfl
set_option linter.unusedVariables false
set_option linter.unusedSimpArgs false
set_option linter.unusedSectionVars false
set_option maxRecDepth 100000
section
section
namespace Go.Pev.Pl.SG
open Go.Sort
variable {α β:Type} {S:SP α β}
theorem xR(hi first:Nat):∀ (k a:Nat) (d:Array (EL S)) (n:Nat),hi-a=k->a<=hi->first+hi<=d.size->d.size<4294967296->(hi=0\/a<hi)->k<n ->
  BA (Sl S.z S.c S.t) n ((rep d),(hi:Int),(first:Int),(a:Int),())=some (.inl ((rep (siftDown ltX hi first a d)),())) \/
  BA (Sl S.z S.c S.t) n ((rep d),(hi:Int),(first:Int),(a:Int),())=some (.inr (.inl ((rep (siftDown ltX hi first a d)),()))):=by
 intro k;induction k using Nat.strongRecOn with
  |_ k b=>
   intro a d n l m o p q r;obtain⟨n,rfl⟩:∃ k,n=k+1:=⟨n-1,by omega⟩
   rw[siftDown];simp (disch:=omega) only[BA,Sl,AEH,A6,wrap_add,FJ,A4];by_cases f:hi<=2*a+1;grind;have s:first+a<d.size:=by omega
   have u:first+(2*a+1)<d.size:=by omega
   simp only[f,AZQ,ge_iff_le,AZL,dite_false];simp (disch:=omega) only[Bv,CU,Dq,En];by_cases g:2*a+1+1<hi;have v:first+(2*a+2)<d.size:=by omega
   have h:2*a+1+1=2*a+2:=by omega
   have i:first+(2*a+1)+1=first+(2*a+2):=by omega
   have j:2*a+2<hi:=by omega
   simp only[h,i,j,AZD];simp (disch:=omega) only[Bv,CU,Dq,En,LI];cases w:ltX d[first+(2*a+1)]! d[first+(2*a+2)]!;simp only[Bool.and_false,AZH,AZL];cases e:ltX d[first+a]! d[first+(2*a+1)]!;simp;simp only[AY4,AZH,AZL];rw[Bv (by grind)];simp only[Lq];exact b (hi-(2*a+1)) (by omega) (2*a+1) _ n rfl (by omega) (by rw[size_swp];omega) (by rw[size_swp];omega) (by omega) (by omega);simp only[Aaj,AZa];cases e:ltX d[first+a]! d[first+(2*a+2)]!;simp;simp only[AY4,AZH,AZL,dite_true];rw[Bv (by grind)];simp only[Lq];exact b (hi-(2*a+2)) (by omega) (2*a+2) _ n rfl (by omega) (by rw[size_swp];omega) (by rw[size_swp];omega) (by omega) (by omega);simp only[g,AZQ,Bool.false_and,AZH,AZL,LI];cases e:ltX d[first+a]! d[first+(2*a+1)]!;simp;simp only[AY4,AZH,AZL];rw[Bv (by grind)];simp only[Lq];exact b (hi-(2*a+1)) (by omega) (2*a+1) _ n rfl (by omega) (by rw[size_swp];omega) (by rw[size_swp];omega) (by omega) (by omega)
theorem iH(d:Array (EL S))(a hi first:Nat)(b:first+hi<=d.size)(e:d.size<4294967296)(f:hi=0/\a=0\/a<hi):(Sm S.z S.c S.t) ((rep d),(a:Int),(hi:Int),(first:Int),())=some ((rep (siftDown ltX hi first a d)),()):=by
 have g:d.size<many:=by simp only[many];omega
 rw[ALO,Ky];simp only[BO];rcases xR hi first (hi-a) a d many rfl (by omega) b e (by omega) (by omega)with h|h<;>rw[h]
theorem Fa(lt:(EL S)->(EL S)->Bool)(hi first:Nat):∀ (k a:Nat) (d:Array (EL S)),hi-a=k->(siftDown lt hi first a d).size=d.size:=by
 intro k;induction k using Nat.strongRecOn with
  |_ k b=>intro a d c;rw[siftDown];split;rfl;split;split;rfl;split;rw[b (hi-(2*a+2)) (by omega) _ _ rfl,size_swp];rfl;split;rfl;rw[b (hi-(2*a+1)) (by omega) _ _ rfl,size_swp]
theorem tx(hi first:Nat):∀ (k:Nat) (d:Array (EL S)) (n:Nat),(hi=0/\k<=1\/k<=hi)->first+hi<=d.size->d.size<4294967296->k<n ->
  BA (Th S.z S.c S.t) n ((rep d),(first:Int),(0:Int),(hi:Int),(k:Int)-1,())=some (.inl ((rep (heapBuild ltX hi first k d)),(first:Int),(0:Int),(hi:Int),())):=by
 intro k;induction k with
  |zero=>
   intro d n e a b f;obtain⟨n,rfl⟩:∃ k,n=k+1:=⟨n-1,by omega⟩
   rw[BA,Th,BQ,AYz (by omega)];rfl
  |succ k g=>
   intro d n e a b f;obtain⟨n,rfl⟩:∃ k,n=k+1:=⟨n-1,by omega⟩
   have h:((k+1:Nat):Int)-1=(k:Int):=by omega
   rw[BA,Th,h,BQ,AY0 (by omega)];simp only[iH d k hi first a b (by omega)];rw[BI (by omega)];exact g _ n (by omega) (by rw[Fa _ _ _ _ _ _ rfl];omega) (by rw[Fa _ _ _ _ _ _ rfl];omega) (by omega)
theorem OH(lt:(EL S)->(EL S)->Bool)(hi first:Nat):∀ (k:Nat) (d:Array (EL S)),(heapBuild lt hi first k d).size=d.size:=by
 intro k;induction k with
  |zero=>intro d;rfl
  |succ k a=>intro d;rw[heapBuild,a,Fa _ _ _ _ _ _ rfl]
theorem AIA(first:Nat):∀ (k:Nat) (d:Array (EL S)) (n:Nat),first+k<=d.size->d.size<4294967296->k<n ->
  BA (Tg S.z S.c S.t) n ((rep d),(first:Int),(0:Int),(k:Int)-1,())=some (.inl ((rep (heapPop ltX first k d)),())):=by
 intro k;induction k with
  |zero=>
   intro d n a b e;obtain⟨n,rfl⟩:∃ k,n=k+1:=⟨n-1,by omega⟩
   rw[BA,Tg,BQ,AYz (by omega)];rfl
  |succ k f=>
   intro d n a b e;obtain⟨n,rfl⟩:∃ k,n=k+1:=⟨n-1,by omega⟩
   have g:((k+1:Nat):Int)-1=(k:Int):=by omega
   have h:first<d.size:=by omega
   have i:first+k<d.size:=by omega
   rw[BA,Tg,g,BQ,AY0 (by omega)];simp (disch:=omega) only[wrap_add,Bv,CU,LI];rw[Bv (by grind)];simp only[Lq];have:=iH (swp d first (first+k)) 0 k first (by rw[size_swp];omega) (by rw[size_swp];omega) (by omega)
   simp only[Int.natCast_zero]at this;simp only[this];rw[BI (by omega)];exact f _ n (by rw[Fa _ _ _ _ _ _ rfl,size_swp];omega) (by rw[Fa _ _ _ _ _ _ rfl,size_swp];omega) (by omega)
theorem AH9(d:Array (EL S))(a b:Nat)(f:a<b)(i:b<=d.size)(g:d.size<4294967296):(Xq S.z S.c S.t) ((rep d),(a:Int),(b:Int),())=some ((rep (heapSort ltX d a b)),()):=by
 have j:4294967296<many:=by simp only[many];omega
 rw[AOW,LC];simp (disch:=omega) only[FZ,Bx,AYB,BO];have e:(((b-a-1)/2:Nat):Int)=(((b-a-1)/2+1:Nat):Int)-1:=by omega
 rw[e,tx (b-a) a _ d many (by omega) (by omega) g (by omega)];have h:(((b-a-1:Nat)):Int)=((b-a:Nat):Int)-1:=by omega
 simp (disch:=omega) only[Bx,h];rw[AIA a (b-a) _ many (by rw[OH];omega) (by rw[OH];omega) (by omega)];rfl
end Go.Pev.Pl.SG
end
section
namespace Go.Pev.Pl.SG
open Go.Sort
variable {α β:Type} {S:SP α β}
theorem AFe:∀ (k i j:Nat) (d:Array (EL S)) (n:Nat),j-i=k->(j<d.size)->d.size<4294967296->k<n ->
  BA (l6 S.z S.c S.t) n ((rep d),(i:Int),(j:Int),())=some (.inl ((rep (reverseLoop i j d)),())):=by
 intro k;induction k using Nat.strongRecOn with
  |_ k b=>
   intro i j d n e a f g;obtain⟨n,rfl⟩:∃ k,n=k+1:=⟨n-1,by omega⟩
   rw[reverseLoop,BA,l6];simp only[A4];by_cases h:i<j;have hi:i<d.size:=by omega
   simp only[h,AZD,AZa,Bv a,Bv hi,CU hi,CU a,LI];rw[Bv (by grind)];simp (disch:=omega) only[Lq,A6,Bx];exact b (j-1-(i+1)) (by omega) (i+1) (j-1) _ n rfl (by rw[size_swp];omega) (by rw[size_swp];omega) (by omega);grind
theorem ALs(d:Array (EL S))(a b:Nat)(e:a<b)(g:b<=d.size)(f:d.size<4294967296):(rJ S.z S.c S.t) ((rep d),(a:Int),(b:Int),())=some ((rep (reverseRange d a b)),()):=by
 have h:4294967296<many:=by simp only[many];omega
 rw[AR0,OT];simp (disch:=omega) only[Bx,BO];rw[AFe (b-1-a) a (b-1) d many rfl (by omega) f (by omega)];rfl
theorem FU{d:Array (EL S)}{i j:Nat}(hi:i<d.size)(a:j<d.size):idx (Bb (rep d) (A2 (i:Int)) (A7 (rep d) (A2 (j:Int)) S.z)) (j:Int)=some ((d.setIfInBounds i d[j]!)[j]!).val /\
  Bb (Bb (rep d) (A2 (i:Int)) (A7 (rep d) (A2 (j:Int)) S.z)) (A2 (j:Int)) (A7 (rep d) (A2 (i:Int)) S.z)=(rep (swp d i j)):=by rw[CU hi,CU a,LI,LI];exact⟨Bv (by grind),rfl⟩
theorem ld(step:List α×Int×Int×Int×Unit->Option ((List α×Int×Int×Int×Unit)⊕(List α×Int×Int×Int×Unit)⊕Unit))(p:(EL S)->Bool)(d:Array (EL S))(a j:Nat)(e:d.size<4294967296)(f:j<d.size)
  (h:∀ i:Nat,i<=d.size->step ((rep d),(a:Int),(i:Int),(j:Int),())=if i<=j/\p d[i]! then some (.inl ((rep d),(a:Int),((i+1:Nat):Int),(j:Int),()))else some (.inr (.inl ((rep d),(a:Int),(i:Int),(j:Int),())))) :
  ∀ (k i n:Nat),j+1-i=k->i<=d.size->k<n->BA step n ((rep d),(a:Int),(i:Int),(j:Int),())=some (.inl ((rep d),(a:Int),((scanUp p d j i:Nat):Int),(j:Int),())):=by
 intro k;induction k using Nat.strongRecOn with
  |_ k c=>
   intro i n g hi l;obtain⟨n,rfl⟩:∃ k,n=k+1:=⟨n-1,by omega⟩
   rw[scanUp,BA,h i hi];by_cases b:i<=j/\p d[i]! = true;rw[AZA b,AZA (by grind)];exact c (j+1-(i+1)) (by omega) (i+1) n rfl (by omega) (by omega);rw[AY7 b,AY7 (by grind)]
theorem Vp(step:List α×Int×Int×Int×Unit->Option ((List α×Int×Int×Int×Unit)⊕(List α×Int×Int×Int×Unit)⊕Unit))(p:(EL S)->Bool)(d:Array (EL S))(a i:Nat)(hi:1<=i)
  (h:∀ j:Nat,j<d.size->step ((rep d),(a:Int),(i:Int),(j:Int),())=if i<=j/\p d[j]! then some (.inl ((rep d),(a:Int),(i:Int),((j-1:Nat):Int),()))else some (.inr (.inl ((rep d),(a:Int),(i:Int),(j:Int),())))) :
  ∀ (j n:Nat),j<d.size->j<n->BA step n ((rep d),(a:Int),(i:Int),(j:Int),())=some (.inl ((rep d),(a:Int),(i:Int),((scanDown p d i j:Nat):Int),())):=by
 intro j;induction j with
  |zero=>
   intro n b c;obtain⟨n,rfl⟩:∃ k,n=k+1:=⟨n-1,by omega⟩
   rw[BA,h 0 b,AY7 (by omega)];rfl
  |succ j e=>
   intro n b c;obtain⟨n,rfl⟩:∃ k,n=k+1:=⟨n-1,by omega⟩
   rw[scanDown,BA,h (j+1) b];grind
section
variable (d:Array (EL S)) (a i j:Nat) (hs:d.size<4294967296) (ha:a<d.size) (hj:j<d.size)
include hs ha hj
theorem tA(hi:i<=d.size):(bM S.z S.c S.t) ((rep d),(a:Int),(i:Int),(j:Int),())=if i<=j/\(fun x=>ltX x d[a]!) d[i]! = true then some (.inl ((rep d),(a:Int),((i+1:Nat):Int),(j:Int),()))else some (.inr (.inl ((rep d),(a:Int),(i:Int),(j:Int),()))):=by
 rw[bM];simp only[FJ];by_cases h:i<=j;have b:i<d.size:=by omega
 simp (disch:=omega) only[h,AZD,Bv,CU,Dq,En,A6,Abs];cases ltX d[i]! d[a]!<;>simp;simp only[h,AZQ,Abr,AZL]
theorem s8(hi:i<=d.size):(bJ S.z S.c S.t) ((rep d),(a:Int),(i:Int),(j:Int),())=if i<=j/\(fun x=>ltX x d[a]!) d[i]! = true then some (.inl ((rep d),(a:Int),((i+1:Nat):Int),(j:Int),()))else some (.inr (.inl ((rep d),(a:Int),(i:Int),(j:Int),()))):=by
 rw[bJ];simp only[FJ];by_cases h:i<=j;have b:i<d.size:=by omega
 simp (disch:=omega) only[h,AZD,Bv,CU,Dq,En,A6,Abs];cases ltX d[i]! d[a]!<;>simp;simp only[h,AZQ,Abr,AZL]
theorem s9(hi:1<=i):(bL S.z S.c S.t) ((rep d),(a:Int),(i:Int),(j:Int),())=if i<=j/\(fun x => !ltX x d[a]!) d[j]! = true then some (.inl ((rep d),(a:Int),(i:Int),((j-1:Nat):Int),()))else some (.inr (.inl ((rep d),(a:Int),(i:Int),(j:Int),()))):=by rw[bL];simp only[FJ];by_cases h:i<=j;simp (disch:=omega) only[h,AZD,Bv,CU,Dq,En,Bx,Abs];cases ltX d[j]! d[a]!<;>simp;simp only[h,AZQ,Abr,AZL]
theorem s7(hi:1<=i):(bI S.z S.c S.t) ((rep d),(a:Int),(i:Int),(j:Int),())=if i<=j/\(fun x => !ltX x d[a]!) d[j]! = true then some (.inl ((rep d),(a:Int),(i:Int),((j-1:Nat):Int),()))else some (.inr (.inl ((rep d),(a:Int),(i:Int),(j:Int),()))):=by rw[bI];simp only[FJ];by_cases h:i<=j;simp (disch:=omega) only[h,AZD,Bv,CU,Dq,En,Bx,Abs];cases ltX d[j]! d[a]!<;>simp;simp only[h,AZQ,Abr,AZL]
theorem eZ(hi:i<=d.size):(RZ S.z S.c S.t) ((rep d),(a:Int),(i:Int),(j:Int),())=if i<=j/\(fun x => !ltX d[a]! x) d[i]! = true then some (.inl ((rep d),(a:Int),((i+1:Nat):Int),(j:Int),()))else some (.inr (.inl ((rep d),(a:Int),(i:Int),(j:Int),()))):=by
 rw[RZ];simp only[FJ];by_cases h:i<=j;have b:i<d.size:=by omega
 simp (disch:=omega) only[h,AZD,Bv,CU,Dq,En,A6,Abs];cases ltX d[a]! d[i]!<;>simp;simp only[h,AZQ,Abr,AZL]
theorem eY(hi:1<=i):(RY S.z S.c S.t) ((rep d),(a:Int),(i:Int),(j:Int),())=if i<=j/\(fun x=>ltX d[a]! x) d[j]! = true then some (.inl ((rep d),(a:Int),(i:Int),((j-1:Nat):Int),()))else some (.inr (.inl ((rep d),(a:Int),(i:Int),(j:Int),()))):=by rw[RY];simp only[FJ];by_cases h:i<=j;simp (disch:=omega) only[h,AZD,Bv,CU,Dq,En,Bx,Abs];grind;grind
end
theorem OL(p:(EL S)->Bool)(d:Array (EL S))(j i:Nat)(a:j<d.size)(hi:i<=d.size):scanUp p d j i<=d.size:=by
 suffices h:∀ (k i:Nat),j+1-i=k->i<=d.size->scanUp p d j i<=d.size from h _ i rfl hi
 intro k;induction k using Nat.strongRecOn with
  |_ k b=>intro i c hi;rw[scanUp];split;all_goals grind
theorem yo(a:Nat):∀ (k i j:Nat) (d:Array (EL S)) (n:Nat),j+1-i=k->a<d.size->1<=i->i<=d.size->j<d.size->d.size<4294967296->k<n ->
  BA (bK S.z S.c S.t) n ((rep d),(a:Int),(i:Int),(j:Int),())=some (.inl ((rep (partLoop ltX a i j d).2),(a:Int),(((partLoop ltX a i j d).1:Nat):Int),()))/\(partLoop ltX a i j d).1<=j/\(partLoop ltX a i j d).2.size=d.size:=by
 intro k;induction k using Nat.strongRecOn with
  |_ k ih=>
   intro i j d n hk ha hi hi' hj hs hn;have hm:4294967296<many:=by simp only[many];omega
   obtain⟨n,rfl⟩:∃ k,n=k+1:=⟨n-1,by omega⟩
   rw[partLoop_eq,BA,bK];have u1:=scanUp_ge (fun x=>ltX x d[a]!) d j i;have u2:=OL (fun x=>ltX x d[a]!) d j i hj hi';rw[BO,ld _ (fun x=>ltX x d[a]!) d a j hs hj (fun i h=>s8 d a i j hs ha hj h) _ i many rfl hi' (by omega)];generalize scanUp (fun x=>ltX x d[a]!) d j i=i2 at *;have v1:=scanDown_le (fun x => !ltX x d[a]!) d i2 j;simp only[BO];rw[Vp _ (fun x => !ltX x d[a]!) d a i2 (by omega) (fun j h=>s7 d a i2 j hs ha h (by omega)) j many hj (by omega)];generalize scanDown (fun x => !ltX x d[a]!) d i2 j=j2 at *;simp only[A4];by_cases h:j2<i2;grind;have hi2:i2<d.size:=by omega
   have hj2:j2<d.size:=by omega
   simp only[h,AZQ,gt_iff_lt,AZL,Bv hi2,Bv hj2,(FU hi2 hj2).1,(FU hi2 hj2).2];simp (disch:=omega) only[A6,Bx];obtain⟨q1,q2,q3⟩:=ih (j2-1+1-(i2+1)) (by omega) (i2+1) (j2-1) (swp d i2 j2) n rfl (by rw[size_swp];omega) (by omega) (by rw[size_swp];omega) (by rw[size_swp];omega) (by rw[size_swp];omega) (by omega);exact⟨q1,by omega,by rw[q3,size_swp]⟩
theorem AGA(d:Array (EL S))(a b p:Nat)(ha:a<=p)(hp:p<b)(hb:b<=d.size)(hs:d.size<4294967296):
  (Qr S.z S.c S.t) ((rep d),(a:Int),(b:Int),(p:Int),())=some ((rep (partition ltX d a b p).2.2),(((partition ltX d a b p).1:Nat):Int),(partition ltX d a b p).2.1,()):=by
 have hm:4294967296<many:=by simp only[many];omega
 have ha':a<d.size:=by omega
 have hp':p<d.size:=by omega
 rw[AND,K3,partition];simp only[Bv ha',Bv hp',(FU ha' hp').1,(FU ha' hp').2];have hs':=hs;rw[<- size_swp d a p]at ha' hs' hb;generalize swp d a p=d at *;simp (disch:=omega) only[A6,Bx,BO];have u1:=scanUp_ge (fun x=>ltX x d[a]!) d (b-1) (a+1);have u2:=OL (fun x=>ltX x d[a]!) d (b-1) (a+1) (by omega) (by omega);rw[ld _ (fun x=>ltX x d[a]!) d a (b-1) hs' (by omega) (fun i h=>tA d a i (b-1) hs' ha' (by omega) h) _ (a+1) many rfl (by omega) (by omega)];generalize scanUp (fun x=>ltX x d[a]!) d (b-1) (a+1)=i2 at *;have v1:=scanDown_le (fun x => !ltX x d[a]!) d i2 (b-1);simp only[];rw[Vp _ (fun x => !ltX x d[a]!) d a i2 (by omega) (fun j h=>s9 d a i2 j hs' ha' h (by omega)) (b-1) many (by omega) (by omega)];generalize scanDown (fun x => !ltX x d[a]!) d i2 (b-1)=j2 at *;simp only[A4];have hj2:j2<d.size:=by omega
 by_cases h:j2<i2;simp only[h,AZD,gt_iff_lt,AZa,Bv ha',Bv hj2,(FU hj2 ha').1,(FU hj2 ha').2];have hi2:i2<d.size:=by omega
 simp only[h,AZQ,gt_iff_lt,AZL,Bv hi2,Bv hj2,(FU hi2 hj2).1,(FU hi2 hj2).2];simp (disch:=omega) only[A6,Bx];obtain⟨q1,q2,q3⟩:=yo a (j2-1+1-(i2+1)) (i2+1) (j2-1) (swp d i2 j2) many rfl (by rw[size_swp];omega) (by omega) (by rw[size_swp];omega) (by rw[size_swp];omega) (by rw[size_swp];omega) (by omega);simp only[q1];rw[size_swp]at q3;generalize partLoop ltX a (i2+1) (j2-1) (swp d i2 j2)=r at *;have h1:r.1<r.2.size:=by omega
 have h2:a<r.2.size:=by omega
 simp only[Bv h1,Bv h2,(FU h1 h2).1,(FU h1 h2).2]
theorem mY(a:Nat):∀ (k i j:Nat) (d:Array (EL S)) (n:Nat),j+1-i=k->a<d.size->1<=i->i<=d.size->j<d.size->d.size<4294967296->k<n ->
  BA (Ra S.z S.c S.t) n ((rep d),(a:Int),(i:Int),(j:Int),())=some (.inl ((rep (partEqLoop ltX a i j d).2),(((partEqLoop ltX a i j d).1:Nat):Int),())):=by
 intro k;induction k using Nat.strongRecOn with
  |_ k ih=>
   intro i j d n hk ha hi hi' hj hs hn;have hm:4294967296<many:=by simp only[many];omega
   obtain⟨n,rfl⟩:∃ k,n=k+1:=⟨n-1,by omega⟩
   rw[partEqLoop_eq,BA,Ra];have u1:=scanUp_ge (fun x => !ltX d[a]! x) d j i;have u2:=OL (fun x => !ltX d[a]! x) d j i hj hi';rw[BO,ld _ (fun x => !ltX d[a]! x) d a j hs hj (fun i h=>eZ d a i j hs ha hj h) _ i many rfl hi' (by omega)];generalize scanUp (fun x => !ltX d[a]! x) d j i=i2 at *;have v1:=scanDown_le (fun x=>ltX d[a]! x) d i2 j;simp only[BO];rw[Vp _ (fun x=>ltX d[a]! x) d a i2 (by omega) (fun j h=>eY d a i2 j hs ha h (by omega)) j many hj (by omega)];generalize scanDown (fun x=>ltX d[a]! x) d i2 j=j2 at *;simp only[A4];by_cases h:j2<i2;grind;have hi2:i2<d.size:=by omega
   have hj2:j2<d.size:=by omega
   simp only[h,AZQ,gt_iff_lt,AZL,Bv hi2,Bv hj2,(FU hi2 hj2).1,(FU hi2 hj2).2];simp (disch:=omega) only[A6,Bx];exact ih (j2-1+1-(i2+1)) (by omega) (i2+1) (j2-1) (swp d i2 j2) n rfl (by rw[size_swp];omega) (by omega) (by rw[size_swp];omega) (by rw[size_swp];omega) (by rw[size_swp];omega) (by omega)
theorem tB(d:Array (EL S))(a b p:Nat)(ha:a<=p)(hp:p<b)(hb:b<=d.size)(hs:d.size<4294967296):
  (K4 S.z S.c S.t) ((rep d),(a:Int),(b:Int),(p:Int),())=some ((rep (partitionEqual ltX d a b p).2),(((partitionEqual ltX d a b p).1:Nat):Int),()):=by
 have hm:4294967296<many:=by simp only[many];omega
 have ha':a<d.size:=by omega
 have hp':p<d.size:=by omega
 rw[zG,GH,partitionEqual];simp only[Bv ha',Bv hp',(FU ha' hp').1,(FU ha' hp').2];have hs':=hs;rw[<- size_swp d a p]at ha' hs' hb;generalize swp d a p=d at *;simp (disch:=omega) only[A6,Bx,BO];rw[mY a _ (a+1) (b-1) d many rfl ha' (by omega) (by omega) (by omega) hs' (by omega)]
end Go.Pev.Pl.SG
end
section
namespace Go.Pev.Pl.SG
open Go.Sort
variable {α β:Type} {S:SP α β}
theorem Sn(d:Array (EL S))(b:Nat):∀ (k i:Nat),b-i=k->i<=b->i<=scanSorted ltX d b i/\scanSorted ltX d b i<=b:=by
 intro k;induction k using Nat.strongRecOn with
  |_ k a=>intro i c hi;rw[scanSorted];split;all_goals grind
theorem eV(d:Array (EL S))(a b s:Nat)(f:b<=d.size)(g:d.size<4294967296):∀ (k i n:Nat),b-i=k->1<=i->i<=b->k<n ->
  BA (Od S.z S.c S.t) n ((rep d),(a:Int),(b:Int),(i:Int),(s:Int),())=some (.inl ((rep d),(a:Int),(b:Int),((scanSorted ltX d b i:Nat):Int),(s:Int),())):=by
 intro k;induction k using Nat.strongRecOn with
  |_ k e=>
   intro i n j l hi m;obtain⟨n,rfl⟩:∃ k,n=k+1:=⟨n-1,by omega⟩
   rw[scanSorted,BA,Od];simp only[A4];by_cases h:i<b;have o:i<d.size:=by omega
   have p:i-1<d.size:=by omega
   simp (disch:=omega) only[h,AZD,Bx,A6,Bv,CU,Dq,En,Ab4];cases q:ltX d[i]! d[i-1]!;simp only[AZO,AZa];exact e (b-(i+1)) (by omega) (i+1) n rfl (by omega) (by omega) (by omega);simp;grind
theorem eX(a b i s:Nat):∀ (j:Nat) (d:Array (EL S)) (n:Nat),j<d.size->d.size<4294967296->j<n ->
  BA (K2 S.z S.c S.t) n ((rep d),(a:Int),(b:Int),(i:Int),(s:Int),(j:Int),())=some (.inl ((rep (shiftDown ltX j d)),(a:Int),(b:Int),(i:Int),(s:Int),())):=by
 intro j;induction j with
  |zero=>
   intro d n f h l;obtain⟨n,rfl⟩:∃ k,n=k+1:=⟨n-1,by omega⟩
   rw[BA,K2,BQ,AYz (by omega)];rfl
  |succ j m=>
   intro d n f h l;obtain⟨n,rfl⟩:∃ k,n=k+1:=⟨n-1,by omega⟩
   have e:j<d.size:=by omega
   rw[shiftDown,BA,K2,BQ,AY0 (by omega)];simp (disch:=omega) only[Bx,Nat.add_sub_cancel,Bv,CU,Dq,En];cases o:ltX d[j+1]! d[j]!;simp;have g:=FU f e;simp only[CU f,CU e]at g;simp only[AY4,AZH,AZL,g];exact m _ n (by rw[size_swp];omega) (by rw[size_swp];omega) (by omega)
theorem Xc(a b i s:Nat):∀ (k j:Nat) (d:Array (EL S)) (n:Nat),b-j=k->1<=j->b<=d.size->d.size<4294967296->k<n ->
  BA (K1 S.z S.c S.t) n ((rep d),(a:Int),(b:Int),(i:Int),(s:Int),(j:Int),())=some (.inl ((rep (shiftUp ltX b j d)),(a:Int),(b:Int),(i:Int),(s:Int),())):=by
 intro k;induction k using Nat.strongRecOn with
  |_ k l=>
   intro j d n m o p q r;obtain⟨n,rfl⟩:∃ k,n=k+1:=⟨n-1,by omega⟩
   rw[shiftUp,BA,K1];simp only[A4];by_cases h:j<b;have e:j<d.size:=by omega
   have f:j-1<d.size:=by omega
   simp (disch:=omega) only[h,AZD,AZa,Bx,A6,Bv,CU,Dq,En];cases u:ltX d[j]! d[j-1]!;simp;have g:=FU e f;simp only[CU e,CU f]at g;simp only[AY4,AZH,AZL,g];exact l (b-(j+1)) (by omega) (j+1) _ n rfl (by omega) (by rw[size_swp];omega) (by rw[size_swp];omega) (by omega);grind
theorem aI:∀ (j:Nat) (d:Array (EL S)),(shiftDown ltX j d).size=d.size:=by
 intro j;induction j with
  |zero=>intro d;rfl
  |succ j a=>intro d;rw[shiftDown];split;rfl;rw[a,size_swp]
theorem JA(b:Nat):∀ (k j:Nat) (d:Array (EL S)),b-j=k->(shiftUp ltX b j d).size=d.size:=by
 intro k;induction k using Nat.strongRecOn with
  |_ k a=>intro j d c;rw[shiftUp];split;split;rfl;rw[a (b-(j+1)) (by omega) (j+1) _ rfl,size_swp];rfl
theorem eW(a b:Nat)(hab:a<b):∀ (k i s:Nat) (d:Array (EL S)) (n:Nat),s+k=5->a+1<=i->i<=b->b<=d.size->d.size<4294967296->k<n ->
  BA (Ew S.z S.c S.t) n ((rep d),(a:Int),(b:Int),(i:Int),(s:Int),())=some (.inl ((rep (partialIns ltX a b k i d).1),(partialIns ltX a b k i d).2,())) \/
  ((partialIns ltX a b k i d).2=false/\BA (Ew S.z S.c S.t) n ((rep d),(a:Int),(b:Int),(i:Int),(s:Int),())=some (.inr (.inl ((rep (partialIns ltX a b k i d).1),())))):=by
 intro k;induction k with
  |zero=>
   intro i s d n hk h1 hi hb hs hn;obtain⟨n,rfl⟩:∃ k,n=k+1:=⟨n-1,by omega⟩
   rw[BA,Ew,BG,AYz (by omega)];exact .inr ⟨rfl,rfl⟩
  |succ k ih=>
   intro i s d n hk h1 hi hb hs hn;have hm:4294967296<many:=by simp only[many];omega
   have es:w64 ((s:Int)+1)=((s+1:Nat):Int):=A6 (by omega);obtain⟨n,rfl⟩:∃ k,n=k+1:=⟨n-1,by omega⟩
   rw[BA,Ew,BG,AY0 (by omega),partialIns];simp only[BO,eV d a b s hb hs (b-i) i many rfl (by omega) hi (by omega)];have hsc:=Sn d b _ i rfl hi;generalize scanSorted ltX d b i=i2 at *;simp only[nN];by_cases h2:i2=b;grind;simp (disch:=omega) only[h2,AZQ,AZL,FZ,BG,BQ];by_cases h3:b-a<50;grind;have i0:i2<d.size:=by omega
   have i1:i2-1<d.size:=by omega
   rw[AY7 h3,AYz (by omega)];simp (disch:=omega) only[Bx,A6,Bv i0,Bv i1,(FU i0 i1).1,(FU i0 i1).2];have hsz:=size_swp d i2 (i2-1);generalize swp d i2 (i2-1)=d2 at *;by_cases h4:i2-a≥2;rw[AZA h4,AY0 (show(2:Int)<=((i2-a:Nat):Int) by omega)];simp only[eX a b i2 s (i2-1) d2 many (by omega) (by omega) (by omega)];have hsz2:=aI (i2-1) d2;generalize shiftDown ltX (i2-1) d2=d3 at *;simp (disch:=omega) only[FZ,A6];by_cases h5:b-i2≥2;rw[AZA h5,AY0 (show(2:Int)<=((b-i2:Nat):Int) by omega)];simp only[Xc a b i2 s _ (i2+1) d3 many rfl (by omega) (by omega) (by omega) (by omega)];simp only[es];exact ih i2 (s+1) (shiftUp ltX b (i2+1) d3) n (by omega) (by omega) (by omega) (by rw[JA b (b-(i2+1)) (i2+1) _ rfl];omega) (by rw[JA b (b-(i2+1)) (i2+1) _ rfl];omega) (by omega);rw[AY7 h5,AYz (show ¬ (2:Int)<=((b-i2:Nat):Int) by omega)];simp only[es];exact ih i2 (s+1) d3 n (by omega) (by omega) (by omega) (by omega) (by omega) (by omega);rw[AY7 h4,AYz (show ¬ (2:Int)<=((i2-a:Nat):Int) by omega)];by_cases h5:b-i2≥2;rw[AZA h5,AY0 (show(2:Int)<=((b-i2:Nat):Int) by omega)];simp only[Xc a b i2 s _ (i2+1) d2 many rfl (by omega) (by omega) (by omega) (by omega)];simp only[es];exact ih i2 (s+1) (shiftUp ltX b (i2+1) d2) n (by omega) (by omega) (by omega) (by rw[JA b (b-(i2+1)) (i2+1) _ rfl];omega) (by rw[JA b (b-(i2+1)) (i2+1) _ rfl];omega) (by omega);omega
theorem mX(d:Array (EL S))(a b:Nat)(e:a<b)(g:b<=d.size)(i:d.size<4294967296):
  (IT S.z S.c S.t) ((rep d),(a:Int),(b:Int),())=some ((rep (partialInsertionSort ltX d a b).1),(partialInsertionSort ltX d a b).2,()):=by
 have k:4294967296<many:=by simp only[many];omega
 rw[sg,Ex,partialInsertionSort];simp (disch:=omega) only[A6,BO];have h:=eW a b e 5 (a+1) 0 d many rfl (AY8 _) (by omega) g i (by omega);rcases h with h|⟨j,h⟩
 have f:BA (Ew S.z S.c S.t) many ((rep d),(a:Int),(b:Int),((a+1:Nat):Int),(0:Int),())=_:=h;rw[f];have f:BA (Ew S.z S.c S.t) many ((rep d),(a:Int),(b:Int),((a+1:Nat):Int),(0:Int),())=_:=h;rw[f,j]
theorem Og(d:Array (EL S))(a b:Nat)(s:Int)(e:a<d.size)(f:b<d.size):
  ∃ g p q,(Hs S.z S.c S.t) ((rep d),(a:Int),(b:Int),s,())=some ((rep d),g,((p:Nat):Int),((q:Nat):Int),())/\(p=a/\q=b\/p=b/\q=a):=by rw[zP,GM];simp only[Bv e,Bv f,CU e,CU f,Dq,En];cases ltX d[b]! d[a]!;all_goals grind
theorem Om(d:Array (EL S))(a b c:Nat)(s:Int)(e:a<d.size)(f:b<d.size)(g:c<d.size):
  ∃ h p,(Hv S.z S.c S.t) ((rep d),(a:Int),(b:Int),(c:Int),s,())=some ((rep d),h,((p:Nat):Int),())/\(p=a\/p=b\/p=c):=by rw[zi,GP];obtain⟨i,j,k,l,q⟩:=Og d a b s e f;simp only[l];obtain⟨m,n,r,o,u⟩:=Og d k c i (by omega) g;simp only[o];obtain⟨v,w,x,y,A⟩:=Og d j n m (by omega) (by omega);grind
theorem On(d:Array (EL S))(a:Nat)(s:Int)(b:1<=a)(e:a+1<d.size)(g:d.size<4294967296):
  ∃ f p,(Hw S.z S.c S.t) ((rep d),(a:Int),s,())=some ((rep d),f,((p:Nat):Int),())/\a<=p+1/\p<=a+1:=by rw[zo,GQ];simp (disch:=omega) only[Bx,A6];obtain⟨h,i,j,b⟩:=Om d (a-1) a (a+1) s (by omega) (by omega) e;grind
theorem yC(d:Array (EL S))(a b:Nat)(i:a+8<=b)(w:b<=d.size)(e:d.size<4294967296):
  ∃ p h,(OX S.z S.c S.t) ((rep d),(a:Int),(b:Int),())=some ((rep d),((p:Nat):Int),h,())/\a<=p/\p<b:=by
 rw[AFu,IP];simp (disch:=omega) only[FZ,rL,AEG,Pc,fT,wrap_add,BQ];rw[AY0 (show(8:Int)<=((b-a:Nat):Int) by omega)];simp only[];by_cases h:50<=b-a;rw[AY0 (show(50:Int)<=((b-a:Nat):Int) by omega)];simp only[];obtain⟨j,k,l,x⟩:=On d (a+(b-a)/4*1) 0 (by omega) (by omega) e;simp only[l];obtain⟨m,n,o,y⟩:=On d (a+(b-a)/4*2) j (by omega) (by omega) e;simp only[o];obtain⟨q,r,s,A⟩:=On d (a+(b-a)/4*3) m (by omega) (by omega) e;simp only[s];obtain⟨f,u,g,v⟩:=Om d k n r q (by omega) (by omega) (by omega);grind
 ·rw[AYz (show ¬ (50:Int)<=((b-a:Nat):Int) by omega)];simp only[];obtain⟨f,u,g,v⟩:=Om d (a+(b-a)/4*1) (a+(b-a)/4*2) (a+(b-a)/4*3) 0 (by omega) (by omega) (by omega);simp only[g];cases ieq f 0;·cases ieq f 12;all_goals grind
  grind
end Go.Pev.Pl.SG
end
section
namespace Go.Pev.Pl
open Go.Sort
theorem AHe:(List.range 256).all (fun k=>match Iw[k]? with
  |some v=>decide (0<=v)&&(decide (v<=8)&&decide (2 ^ v.toNat<=max 1 (2*k)))
  |none=>false)=true:=by decide +kernel
theorem AHf{k:Nat}(h:k<256):∃ v:Nat,idx Iw (k:Int)=some (v:Int)/\v<=8/\2 ^ v<=max 1 (2*k):=by
 have:=AZR.1 AHe k (AZY.2 h);rw[idx_eq,cJ,AY7 (by omega),AZX];cases e:Iw[k]? with
  |none=>grind
  |some v=>rw[e]at this;simp only[AY3,AY2]at this;exact⟨v.toNat,by grind,by omega,this.2.2⟩
theorem Yx(n s:Nat)(h:s<=64):shr? .u64 (n:Int) (s:Int)=some ((n/2 ^ s:Nat):Int):=by rw[RJ,lY,AY7 (by omega),AZX,show min s (IntKind.bits .u64)=s from AZ9 h,Abe _ (Int.pow_nonneg (by omega))];rfl
theorem u8_in{n:Int}(h:0<=n/\n<=255):IntKind.wrap .u8 n=n:=IntWalk.u8_in n h
theorem u64_in{n:Int}(h:0<=n/\n<=18446744073709551615):IntKind.wrap .u64 n=n:=IntWalk.u64_in n h
theorem AHg(n:Nat)(k:n<4294967296):∃ v:Nat,ADG ((n:Int),())=some ((v:Int),())/\v<=32/\2 ^ v<=max 1 (2*n):=by
 rw[tX,m7,BQ,AYz (by omega)];simp only[BQ];have a:∀ (s m:Nat),s<=24->m<256->m*2 ^ s<=n->(s=0\/1<=m)->∃ v:Nat,idx Iw (m:Int)=some (v:Int)/\v<=8/\2 ^ (s+v)<=max 1 (2*n):=by
  intro s m l i j d;obtain⟨v,e,c,b⟩:=AHf i;refine⟨v,e,c,?_⟩;rcases d with rfl|d;grind;have f:2 ^ v<=2*m:=by omega
  have o:2 ^ (s+v)<=2*(m*2 ^ s):=by rw[Nat.pow_add,Nat.mul_comm (2 ^ s),<- Nat.mul_assoc];exact AZ1 _ f
  omega
 by_cases d:65536<=n;rw[AY0 (show(65536:Int)<=(n:Int) by omega)];have g:shr? .u64 (n:Int) 16=some ((n/65536:Nat):Int):=Yx n 16 (by omega);simp only[g];by_cases f:256<=n/65536;rw[AY0 (show(256:Int)<=((n/65536:Nat):Int) by omega)];have h:shr? .u64 ((n/65536:Nat):Int) 8=some ((n/65536/256:Nat):Int):=Yx _ 8 (by omega);obtain⟨v,e,c,b⟩:=a 24 (n/65536/256) (by omega) (by omega) (by omega) (by omega);simp only[h];rw[u8_in (by omega)];simp only[e];refine⟨24+v,?_,by omega,b⟩;rw[BI (n:=0+16) (by omega),BI (n:=(0:Int)+16+8) (by omega),BI (n:=(v:Int)) (by omega),BI (by omega)];congr 2;rw[AYz (show ¬ (256:Int)<=((n/65536:Nat):Int) by omega)];obtain⟨v,e,c,b⟩:=a 16 (n/65536) (by omega) (by omega) (by omega) (by omega);simp only[];rw[u8_in (by omega)];simp only[e];refine⟨16+v,?_,by omega,b⟩;rw[BI (n:=0+16) (by omega),BI (n:=(v:Int)) (by omega),BI (by omega)];congr 2;rw[AYz (show ¬ (65536:Int)<=(n:Int) by omega)];by_cases f:256<=n;have h:shr? .u64 (n:Int) 8=some ((n/256:Nat):Int):=Yx n 8 (by omega);obtain⟨v,e,c,b⟩:=a 8 (n/256) (by omega) (by omega) (by omega) (by omega);simp only[];rw[AY0 (show(256:Int)<=(n:Int) by omega)];simp only[h];rw[u8_in (by omega)];simp only[e];refine⟨8+v,?_,by omega,b⟩;rw[BI (n:=0+8) (by omega),BI (n:=(v:Int)) (by omega),BI (by omega)];congr 2;obtain⟨v,e,c,b⟩:=a 0 n (by omega) (by omega) (by omega) (by omega);simp only[];rw[AYz (show ¬ (256:Int)<=(n:Int) by omega)];simp only[];rw[u8_in (by omega)];simp only[e];refine⟨0+v,?_,by omega,b⟩;rw[BI (n:=(v:Int)) (by omega),BI (by omega)];congr 2
theorem X_(n:Nat)(a:n<4294967296):∃ v:Nat,bitsLen ((n:Int),())=some ((v:Int),())/\v<=32/\2 ^ v<=max 1 (2*n):=by rw[dO,W_];obtain⟨v,e,h⟩:=AHg n a;grind
theorem tH(n:Nat)(b:1<=n)(c:n<4294967296):∃ m:Nat,ZB ((n:Int),())=some ((m:Int),())/\1<=m/\m<=2*n:=by
 rw[bW,WN,u64_in (by omega)];obtain⟨v,e,a,d⟩:=X_ n c;simp only[e];have f:shl? .u64 (1:Int) (v:Int)=some ((2 ^ v:Nat):Int):=by
  rw[OI,eM,AY7 (by omega),AZX,show min v (IntKind.bits .u64)=v from AZ9 (by show v<=64;omega),Int.one_mul];have:2 ^ v<=2 ^ 32:=AZw (by omega) a;have b:1<=2 ^ v:=Nat.one_le_two_pow;have e:((2:Int) ^ v)=((2 ^ v:Nat):Int):=by simp
  rw[e,u64_in (by omega)]
 grind
theorem po(r:Int):∃ a y,xorNext (r,())=some (a,y,()):=by rw[Zf,VK,OI,eM,AY7 (by omega)];simp only[];rw[RJ,lY,AY7 (by omega)];simp only[];rw[OI,eM,AY7 (by omega)];simp
theorem ANM(y:Int)(m:Nat)(b:1<=m)(c:m<18446744073709551616):∃ o:Nat,IntKind.wrap .u64 ((BitVec.ofInt (IntKind.bits .u64) y &&& BitVec.ofInt (IntKind.bits .u64) (IntKind.wrap .u64 ((m:Int)-1))).toNat)=(o:Int)/\o<m:=by
 rw[u64_in (n:=(m:Int)-1) (by omega),show(m:Int)-1=((m-1:Nat):Int) by omega,BitVec.toNat_and];have a:(BitVec.ofInt (IntKind.bits .u64) ((m-1:Nat):Int)).toNat=m-1:=by rw[Aak,Aat];exact AZz (by show m-1<18446744073709551616;omega)
 rw[a];have d:(BitVec.ofInt (IntKind.bits .u64) y).toNat &&& (m-1)<=m-1:=Nat.and_le_right;exact⟨_,u64_in (by omega),by omega⟩
end Go.Pev.Pl
end
section
namespace Go.Pev.Pl.SG
open Go.Sort
variable {α β:Type} {S:SP α β}
theorem vS(a b:Nat)(m:Nat)(E:a+8<=b)(j:1<=m)(F:m<=2*(b-a)):∀ (k t:Nat) (d:Array (EL S)) (r:Int) (n:Nat),t+k=3->b<=d.size->d.size<4294967296->k<n ->
  ∃ f:Array (EL S),BA (Mj S.z S.c S.t) n ((rep d),(a:Int),((b-a:Nat):Int),r,(m:Int),((a+(b-a)/4*2-1+t:Nat):Int),())=some (.inl ((rep f),()))/\PermIn a b d f:=by
 intro k;induction k with
  |zero=>
   intro t d r n v s w x;obtain⟨n,rfl⟩:∃ k,n=k+1:=⟨n-1,by omega⟩
   rw[BA,Mj];simp (disch:=omega) only[rL,Pc,wrap_add,A6,FJ];rw[AYz (by omega)];exact⟨d,rfl,permIn_refl d a b⟩
  |succ k A=>
   intro t d r n v s w x;obtain⟨n,rfl⟩:∃ k,n=k+1:=⟨n-1,by omega⟩
   rw[BA,Mj];simp (disch:=omega) only[rL,Pc,wrap_add,A6,FJ];rw[AY0 (show a+(b-a)/4*2-1+t<=a+(b-a)/4*2+1 by omega)];obtain⟨u,y,e⟩:=po r;obtain⟨o,B,G⟩:=ANM y m j (by omega);simp only[e,B];rw[BI (n:=(o:Int)) (by omega)];simp only[FJ];have i:a+(b-a)/4*2-1+t<d.size:=by omega
   have fin:∀ q:Nat,a<=q->q<b->∃ f:Array (EL S),BA (Mj S.z S.c S.t) n ((rep (swp d (a+(b-a)/4*2-1+t) q)),(a:Int),((b-a:Nat):Int),u,(m:Int),((a+(b-a)/4*2-1+t+1:Nat):Int),())=some (.inl ((rep f),()))/\PermIn a b d f:=by intro q l p;obtain⟨f,C,D⟩:=A (t+1) (swp d (a+(b-a)/4*2-1+t) q) u n (by omega) (by rw[size_swp];omega) (by rw[size_swp];omega) (by omega);exact⟨f,C,permIn_trans _ _ _ a b (swp_permIn d a b _ q (by omega) (by omega) l p s) D⟩
   by_cases h:b-a<=o;have g:a+(o-(b-a))<d.size:=by omega
   simp (disch:=omega) only[h,AZD,FZ,wrap_add,A6,Bv i,Bv g,(FU i g).1,(FU i g).2];exact fin _ (by omega) (by omega);have g:a+o<d.size:=by omega
   simp (disch:=omega) only[h,AZQ,FZ,wrap_add,A6,Bv i,Bv g,(FU i g).1,(FU i g).2];exact fin _ (by omega) (by omega)
theorem ABg(d:Array (EL S))(a b:Nat)(g:a<=b)(i:b<=d.size)(j:d.size<4294967296):
  ∃ f:Array (EL S),(PO S.z S.c S.t) ((rep d),(a:Int),(b:Int),())=some ((rep f),())/\PermIn a b d f:=by
 have o:4294967296<many:=by simp only[many];omega
 rw[AJn,Ih];simp (disch:=omega) only[FZ,BQ];by_cases h:8<=b-a;rw[AY0 (show(8:Int)<=((b-a:Nat):Int) by omega)];obtain⟨m,e,k,l⟩:=tH (b-a) (by omega) (by omega);simp only[e];rw[u64_in (n:=((b-a:Nat):Int)) (by omega)];simp (disch:=omega) only[rL,Pc,wrap_add,Bx,BO];obtain⟨f,p,q⟩:=vS a b m (by omega) k l 3 0 d ((b-a:Nat):Int) many rfl i j (by omega);grind;rw[AYz (show ¬ (8:Int)<=((b-a:Nat):Int) by omega)];exact⟨d,rfl,permIn_refl d a b⟩
end Go.Pev.Pl.SG
end
section
namespace Go.Pev.Pl.SG
open Go.Sort
variable {α β:Type} {S:SP α β}
abbrev AYc(α:Type):=List α×Int×Int×Int×Bool×Bool×Unit
abbrev AD1(α:Type):=AYc α⊕(List α×Unit)⊕Unit
def dX(d:Array (EL S))(a b:Nat):AD1 α->Prop
 |.inl (xs,x,y,l,_,_,_)=>∃ (e:Array (EL S)) (i j:Nat),xs=(rep e)/\x=(i:Int)/\y=(j:Int)/\0<=l/\l<=100/\i<=j/\j<=e.size/\e.size=d.size/\j-i<b-a/\Below ltX i j e /\
   ∀ R,PermIn i j e R->SortedIn ltX i j R->PermIn a b d R/\SortedIn ltX a b R
 |.inr (.inl (xs,_))=>∃ R:Array (EL S),xs=(rep R)/\PermIn a b d R/\SortedIn ltX a b R
 |.inr (.inr _)=>False
def G5(self:(List α×Int×Int×Int×Unit)->Option ((List α×Unit)))(m:Nat):Prop:=
 ∀ (d:Array (EL S)) (a b:Nat) (l:Int),a<=b->b<=d.size->d.size<4294967296->0<=l->l<=100->Below ltX a b d->2*(b-a)<m ->
  ∃ R:Array (EL S),self ((rep d),(a:Int),(b:Int),l,())=some ((rep R),())/\PermIn a b d R/\SortedIn ltX a b R
section
variable {self:(List α×Int×Int×Int×Unit)->Option ((List α×Unit))} {d:Array (EL S)} {a b:Nat} {l:Int}
theorem rq(f:G5 (S:=S) self (b-a))(G:b<=d.size)(H:d.size<4294967296)(j:0<=l/\l<=100)
  {d3:Array (EL S)} {p:Nat} (q:PermIn a b d d3) (I:Below ltX a b d3) (r:a<=p) (s:p<b) :
  ∃ o,(match(Qr S.z S.c S.t) ((rep d3),(a:Int),(b:Int),(p:Int),())with
  |none=>none
  |some (y20,y21,y22,_)=>match quo? .i64 (w64 ((b:Int)-(a:Int))) (8:Int)with
   |none=>none
   |some u=>match(ilt (w64 (y21-(a:Int))) (w64 ((b:Int)-y21)))with
    |true=>match self (y20,(a:Int),y21,l,())with
     |none=>none
     |some (y24,_)=>some ((.inl (y24,(w64 (y21+(1:Int))),(b:Int),l,(ile u (w64 (y21-(a:Int)))),y22,())):AD1 α)
    |false=>match self (y20,(w64 (y21+(1:Int))),(b:Int),l,())with
     |none=>none
     |some (y25,_)=>some (.inl (y25,(a:Int),y21,l,(ile u (w64 ((b:Int)-y21))),y22,())))=some o/\dX d a b o:=by
 have F:b<=d3.size:=by rw[q.1];exact G
 have J:d3.size<4294967296:=by rw[q.1];exact H
 rw[AGA d3 a b p r s F J];rcases K:partition ltX d3 a b p with⟨mid,O,w⟩
 obtain⟨M,P,v,x,y,k,i⟩:=round_part AKu (partition_holds _) r s F I K;simp (disch:=omega) only[FZ,A6,AYA,A4];have N:b<=w.size:=by omega
 by_cases h:mid-a<b-mid;obtain⟨L,e,m,A⟩:=f w a mid l M (by omega) (by omega) j.1 j.2 x (by omega);simp only[h,AZD,e];obtain⟨n,g⟩:=k _ m A;refine⟨_,rfl,L,mid+1,b,rfl,rfl,rfl,j.1,j.2,by omega,by rw[m.1];exact N,by rw[m.1,v,q.1],by omega,n,fun R B C => ?_⟩;obtain⟨D,E⟩:=g R B C;exact⟨permIn_trans _ _ _ a b q D,E⟩;obtain⟨L,e,m,A⟩:=f w (mid+1) b l (by omega) (by omega) (by omega) j.1 j.2 y (by omega);simp only[h,AZQ,e];obtain⟨n,g⟩:=i _ m A;refine⟨_,rfl,L,a,mid,rfl,rfl,rfl,j.1,j.2,by omega,by rw[m.1];omega,by rw[m.1,v,q.1],by omega,n,fun R B C => ?_⟩;obtain⟨D,E⟩:=g R B C;exact⟨permIn_trans _ _ _ a b q D,E⟩
theorem S2(e:G5 (S:=S) self (b-a))(k:b<=d.size)(m:d.size<4294967296)(j:0<=l/\l<=100)
  {d3:Array (EL S)} {p:Nat} (u wp:Bool) (h:PermIn a b d d3) (n:Below ltX a b d3) (f:a<=p) (g:p<b) :
  ∃ o,(WC S.z S.c S.t) self (rep d3) (a:Int) (b:Int) (p:Int) l u wp=some o/\dX d a b o:=by
 have s:b<=d3.size:=by rw[h.1];exact k
 have v:d3.size<4294967296:=by rw[h.1];exact m
 rw[WC,BG];by_cases w:0<a;rw[AY0 (by omega)];have H:a-1<d3.size:=by omega
 have I:p<d3.size:=by omega
 simp (disch:=omega) only[Bx,Bv,CU,Dq,En];cases x:ltX d3[a-1]! d3[p]!;simp only[AZO];rw[tB d3 a b p f g s v];rcases y:partitionEqual ltX d3 a b p with⟨mid,A⟩
 obtain⟨B,C,q,r,i⟩:=round_eq AKu (partitionEqual_holds _) w f g s n x y;refine⟨_,rfl,A,mid,b,rfl,rfl,rfl,j.1,j.2,by omega,by omega,by rw[q,h.1],by omega,r,fun R D E => ?_⟩;obtain⟨F,G⟩:=i R D E;exact⟨permIn_trans _ _ _ a b h F,G⟩;simp only[AY4];exact rq e k m j h n f g;rw[AYz (by omega)];exact rq e k m j h n f g
theorem ACQ(e:G5 (S:=S) self (b-a))(j:a<b)(k:b<=d.size)(m:d.size<4294967296)(q:0<=l/\l<=100)
  {d3:Array (EL S)} {p:Nat} (h:Int) (u wp:Bool) (i:PermIn a b d d3) (n:Below ltX a b d3) (f:a<=p) (g:p<b) :
  ∃ o,(mV S.z S.c S.t) self (rep d3) (a:Int) (b:Int) (p:Int) h l u wp=some o/\dX d a b o:=by
 have r:b<=d3.size:=by rw[i.1];exact k
 have y:d3.size<4294967296:=by rw[i.1];exact m
 unfold mV;cases u;exact S2 e k m q _ _ i n f g;cases wp;exact S2 e k m q _ _ i n f g;simp only[];cases ieq h 1;exact S2 e k m q _ _ i n f g;simp only[];rw[mX d3 a b j r y];obtain⟨s,v⟩:=partialInsertionSort_holds (lt:=ltX) AKu d3 a b j r n;rcases A:partialInsertionSort ltX d3 a b with⟨w,fin⟩
 rw[A]at s v;have x:PermIn a b d w:=permIn_trans _ _ _ a b i s;cases fin;exact S2 e k m q _ _ x (n.perm r s) f g;exact⟨_,rfl,w,rfl,x,v rfl⟩
theorem ACP(f:G5 (S:=S) self (b-a))(j:a+8<=b)(k:b<=d.size)(m:d.size<4294967296)(r:0<=l/\l<=100)
  {d3:Array (EL S)} (w wp:Bool) (g:PermIn a b d d3) (s:Below ltX a b d3) :
  ∃ o,(mU S.z S.c S.t) self (rep d3) (a:Int) (b:Int) l w wp=some o/\dX d a b o:=by
 have i:b<=d3.size:=by rw[g.1];exact k
 have u:d3.size<4294967296:=by rw[g.1];exact m
 rw[mU];obtain⟨p,h,e,n,q⟩:=yC d3 a b j i u;simp only[e];cases ieq h 2;exact ACQ f (by omega) k m r h _ _ g s n q;simp only[ALs d3 a b (by omega) i u];have v:=reverseRange_holds (α:=(EL S)) d3 a b (by omega) i;simp (disch:=omega) only[Bx,FZ];exact ACQ f (by omega) k m r 1 _ _ (permIn_trans _ _ _ a b g v) (s.perm i v) (by omega) (by omega)
theorem AF0(f:G5 (S:=S) self (b-a))(g:a<=b)(h:b<=d.size)(j:d.size<4294967296)(n:0<=l/\l<=100)(m p:Bool)(B:Below ltX a b d):
  ∃ o,(JB S.z S.c S.t) self ((rep d),(a:Int),(b:Int),l,m,p,())=some o/\dX d a b o:=by rw[JB];simp (disch:=omega) only[FZ,BQ,B1];by_cases q:b-a<=12;rw[AY0 (show((b-a:Nat):Int)<=12 by omega)];simp only[AN1 d a b g h j];obtain⟨i,k⟩:=insertionSort_holds (lt:=ltX) AKu d a b g h;exact⟨_,rfl,_,rfl,i,k⟩;rw[AYz (show ¬ ((b-a:Nat):Int)<=12 by omega)];simp only[];by_cases r:l=0;subst r;simp only[BEq.rfl,AH9 d a b (by omega) h j];obtain⟨i,k⟩:=heapSort_holds (lt:=ltX) AKu d a b g h;exact⟨_,rfl,_,rfl,i,k⟩;rw[show(l==0)=false by grind];simp only[];cases m;obtain⟨s,e,i⟩:=ABg d a b g h j;simp only[AZO,e];rw[BI (by omega)];exact ACP f (by omega) h j (by omega) _ _ i (B.perm h i);simp only[AY4];exact ACP f (by omega) h j n _ _ (permIn_refl d a b) B
end
theorem ru{self:(List α×Int×Int×Int×Unit)->Option ((List α×Unit))}{m:Nat}(g:G5 (S:=S) self m):∀ (k:Nat) (d:Array (EL S)) (a b:Nat) (l:Int) (p q:Bool) (n:Nat),b-a=k->k<=m->a<=b->b<=d.size->d.size<4294967296->0<=l->l<=100->Below ltX a b d->k<n ->
  ∃ R:Array (EL S),BA ((JB S.z S.c S.t) self) n ((rep d),(a:Int),(b:Int),l,p,q,())=some (.inl ((rep R),()))/\PermIn a b d R/\SortedIn ltX a b R:=by
 intro k;induction k using Nat.strongRecOn with
  |_ k w=>
   intro d a b l p q n U V r A C s u B W;obtain⟨n,rfl⟩:∃ k,n=k+1:=⟨n-1,by omega⟩
   have f:G5 (S:=S) self (b-a):=fun d D b' l E F G H I J X=>g d D b' l E F G H I J (by omega);obtain⟨o,e,h⟩:=AF0 f r A C ⟨s,u⟩ p q B;rw[BA,e];match o,h with
  |.inl (xs,x,y,l',wb',wp',_),h=>obtain⟨K,i,j,rfl,rfl,rfl,L,M,N,O,Y,Z,P,v⟩:=h;obtain⟨R,e2,Q,T⟩:=w (j-i) (by omega) K i j l' wb' wp' n rfl (by omega) N O (by omega) L M P (by omega);grind
  |.inr (.inl (xs,_)),h=>obtain⟨R,rfl,Q,T⟩:=h;grind
theorem AF1:∀ k:Nat,G5 (S:=S) ((Iv S.z S.c S.t) (k+1)) (2 ^ k):=by
 intro k;have f:4294967296<many:=by simp only[many];omega
 induction k with
  |zero=>
   intro d a b l g i j m n o r;have:G5 (S:=S) ((Iv S.z S.c S.t) 0) 0:=fun _ _ _ _ _ _ _ _ _ _ h=>by omega
   obtain⟨R,e,p,q⟩:=ru this (b-a) d a b l true true many rfl (by omega) g i j m n o (by omega);refine⟨R,?_,p,q⟩;rw[Iv,OY];simp only[BO,e]
  |succ k s=>
   intro d a b l g i j m n o r;have u:2 ^ (k+1)=2*2 ^ k:=by omega
   obtain⟨R,e,p,q⟩:=ru s (b-a) d a b l true true many rfl (by omega) g i j m n o (by omega);refine⟨R,?_,p,q⟩;rw[Iv,OY];simp only[BO,e]
theorem IJ{α β:Type}(S:SP α β)(xs:List α)(h:xs.length<4294967296)(a:∀ x∈xs,S.ok x):∃ ys,(aH S.z S.c S.t) (xs,())=some (ys,())/\ys.Perm xs/\ys.Pairwise fun x y=>S.lt y x=false:=by
 obtain⟨d,rfl⟩:∃ d:Array (EL S),xs=rep d:=by refine⟨(xs.attach.map fun x=>⟨x.val,a x.val x.property⟩).toArray,?_⟩;simp only[rep,List.map_map];simp
 have m:(rep d).length=d.size:=by simp[rep]
 rw[m]at h;rw[AK7,Kt];rw[ADi,u64_in (by omega)];obtain⟨v,e,s,_⟩:=X_ d.size h;simp only[e];obtain⟨R,n,k,o⟩:=AF1 99 d 0 d.size (v:Int) (by omega) (by omega) h (by omega) (by omega) (.inl rfl) (by omega)
 have p:(ry S.z S.c S.t) (rep d,(0:Int),(d.size:Int),(v:Int),())=some (rep R,()):=by rw[ASY];exact n
 refine⟨rep R,by simp only[p],?_,?_⟩;obtain⟨q,_,l⟩:=k;have r:R.extract 0 d.size=R:=by grind
 rw[r,Array.extract_size]at l;exact l.map _;rw[rep,AaN,AaH];intro i j hi u b;have f:i<R.size:=by omega
 have g:j<R.size:=by omega
 have:=o i j (AbR _) b (by rw[<- k.1];omega);rw[getElem!_pos R j g,getElem!_pos R i f]at this;simpa [ltX]using this
end Go.Pev.Pl.SG
end
section
namespace Go.Pev.Pl.SL
open Go.Sort
def ok(l:List Int):Prop:=l≠[]
def okz:List Int:=[0]
theorem WK:ok okz:=by simp[ok,okz]
def lt(x y:List Int):Bool:=ltInt (x.headD 0) (y.headD 0)
theorem swo:SWO lt:=⟨fun x=>swo_ltInt.irrefl _,fun x y z=>swo_ltInt.trans _ _ _,fun x y z=>swo_ltInt.ntrans _ _ _⟩
theorem R7{x y:List Int}(d:ok x)(e:ok y):∃ c,DA (x,y,())=some (c,())/\ilt c (0:Int)=lt x y:=by
 cases x with
  |nil=>exact absurd rfl d
  |cons a x=>
   cases y with
    |nil=>exact absurd rfl e
    |cons b y=>
     rw[px,kL];have f:idx (a::x) (0:Int)=some a:=by rw[idx_eq];rfl
     have g:idx (b::y) (0:Int)=some b:=by rw[idx_eq];rfl
     simp only[f,g,Ie,Hi,K7,M'];simp only[B1,BG,lt,Abk,ltInt];by_cases h:a<b;simp[h];by_cases i:b<a;grind;simp[h,i]
noncomputable def S:SG.SP (List Int) Int:=⟨([]:List (Int)),DA,tLt,ok,okz,WK,lt,swo,fun a b=>R7 a b⟩
theorem IJ(xs:List (List Int))(h:xs.length<4294967296)(a:∀ x∈xs,ok x):∃ ys,ACC (xs,())=some (ys,())/\ys.Perm xs/\ys.Pairwise fun x y=>lt y x=false:=SG.IJ S xs h a
end Go.Pev.Pl.SL
end
end
section
namespace Go.Pev.Pl
abbrev Edge:=Int×Int×Unit
inductive Con(l:List Edge):Int->Int->Prop
 |refl (a:Int):Con l a a
 |F8 (e:Edge):e∈l->Con l e.1 e.2.1
 |symm {a b:Int}:Con l a b->Con l b a
 |trans {a b c:Int}:Con l a b->Con l b c->Con l a c
theorem Con.mono{l j:List Edge}(h:∀ e∈l,∃ d∈j,(d.1=e.1/\d.2.1=e.2.1)\/(d.1=e.2.1/\d.2.1=e.1)){a b:Int}(c:Con l a b):Con j a b:=by
 induction c with
  |refl a=>exact .refl a
  |F8 e m=>obtain⟨d,k,f|f⟩:=h e m;have:=Con.F8 d k;rw[f.1,f.2]at this;exact this;have:=Con.F8 d k;rw[f.1,f.2]at this;exact this.symm
  |symm _ n=>exact n.symm
  |trans _ _ g i=>exact g.trans i
theorem Con.snoc{l:List Edge}{e:Edge}{a b:Int}:Con (l++[e]) a b↔Con l a b\/(Con l a e.1/\Con l e.2.1 b)\/(Con l a e.2.1/\Con l e.1 b):=by
 constructor;intro h;induction h with
  |refl a=>exact .inl (.refl a)
  |F8 n k=>rcases AY5.1 k with h|h;exact .inl (.F8 n h);simp only[AZW]at h;subst h;exact .inr (.inl ⟨.refl _,.refl _⟩)
  |symm _ p=>
   rcases p with h|⟨c,d⟩|⟨c,d⟩
   exact .inl h.symm;exact .inr (.inr ⟨d.symm,c.symm⟩);exact .inr (.inl ⟨d.symm,c.symm⟩)
  |trans _ _ o i=>
   rcases o with h|⟨c,d⟩|⟨c,d⟩
   rcases i with g|⟨j,f⟩|⟨j,f⟩
   exact .inl (h.trans g);exact .inr (.inl ⟨h.trans j,f⟩);exact .inr (.inr ⟨h.trans j,f⟩);rcases i with g|⟨j,f⟩|⟨j,f⟩
   exact .inr (.inl ⟨c,d.trans g⟩);exact .inr (.inl ⟨c,f⟩);exact .inl (c.trans f);rcases i with g|⟨j,f⟩|⟨j,f⟩
   exact .inr (.inr ⟨c,d.trans g⟩);exact .inl (c.trans f);exact .inr (.inr ⟨c,f⟩)
 have m:∀ {x y},Con l x y->Con (l++[e]) x y:=fun h=>h.mono fun n k=>⟨n,by simp[k],.inl ⟨rfl,rfl⟩⟩
 have k:Con (l++[e]) e.1 e.2.1:=.F8 e (by simp);rintro (h|⟨c,d⟩|⟨c,d⟩);exact m h;exact(m c).trans (k.trans (m d));exact(m c).trans (k.symm.trans (m d))
theorem Con.nil{a b:Int}(h:Con [] a b):a=b:=by
 induction h with
  |refl a=>rfl
  |F8 e f=>cases f
  |symm _ g=>exact g.symm
  |trans _ _ c d=>exact c.trans d
theorem Con.within{l:List Edge}{I:Int->Prop}(h:∀ e∈l,I e.1/\I e.2.1){a b:Int}(c:Con l a b):a=b\/(I a/\I b):=by
 induction c with
  |refl a=>exact .inl rfl
  |F8 e i=>exact .inr (h e i)
  |symm _ j=>rcases j with h|h;exact .inl h.symm;exact .inr ⟨h.2,h.1⟩
  |trans _ _ f d=>rcases f with rfl|g;exact d;rcases d with rfl|k;exact .inr g;exact .inr ⟨g.1,k.2⟩
theorem Con.const{l:List Edge}{f:Int->Int}(h:∀ e∈l,f e.1=f e.2.1){a b:Int}(c:Con l a b):f a=f b:=by
 induction c with
  |refl a=>rfl
  |F8 e i=>exact h e i
  |symm _ j=>exact j.symm
  |trans _ _ d g=>exact d.trans g
end Go.Pev.Pl
end
section
section
namespace Go.Pev.Pl
open Tok
def ER{α:Type}(P:Nat->Bool):Nat->List α->List α
 |_,[]=>[]
 |i,x::xs=>if P i then ER P (i+1) xs else x::ER P (i+1) xs
theorem ua{α:Type}(P:Nat->Bool):∀ (xs:List α) (s:Nat),(∀ k,s<=k->P k=false)->ER P s xs=xs:=by
 intro xs;induction xs with
  |nil=>intro s _;rfl
  |cons x xs a=>intro s h;rw[ER,h s (AY8 _),a (s+1) fun k b=>h k (by omega)];rfl
theorem AAu{α:Type}(P:Nat->Bool)(i:Nat):∀ (xs:List α) (s:Nat),s<=i->(∀ k,s<=k->P k=decide (k=i))->ER P s xs=xs.eraseIdx (i-s):=by
 intro xs;induction xs with
  |nil=>intro s _ _;rfl
  |cons x xs a=>intro s c h;rw[ER,h s (AY8 _)];by_cases e:s=i;subst e;rw[ua P xs (s+1) fun k b=>by grind];simp;rw[a (s+1) (by omega) fun k b=>h k (by omega)];rw[AYz e,AY7 (by simp),show i-s=(i-(s+1))+1 by omega,AbH]
theorem cq{α:Type}(P:Nat->Bool)(i j:Nat)(a:i<j):∀ (xs:List α) (s:Nat),s<=i->(∀ k,s<=k->P k=decide (k=i\/k=j))->ER P s xs=(xs.eraseIdx (j-s)).eraseIdx (i-s):=by
 intro xs;induction xs with
  |nil=>intro s _ _;rfl
  |cons x xs b=>intro s d h;rw[ER,h s (AY8 _)];by_cases e:s=i;subst e;rw[AAu P j xs (s+1) (by omega) fun k c=>by rw[h k (by omega)];grind];rw[AY0 (.inl rfl),AZA rfl,show j-s=(j-(s+1))+1 by omega,AbH,Aam,List.eraseIdx_zero];rfl;rw[b (s+1) (by omega) fun k c=>h k (by omega)];rw[AYz (by omega),AY7 (by simp),show j-s=(j-(s+1))+1 by omega,AbH,show i-s=(i-(s+1))+1 by omega,AbH]
theorem ub{α:Type}(P:Nat->Bool):∀ (xs:List α) (b:List α) (k:Nat),(xs.foldl (fun(a:List α×Nat) x=>(if P a.2 then a.1 else a.1++[x],a.2+1)) (b,k)).1=b++ER P k xs:=by
 intro xs;induction xs with
  |nil=>intro b k;simp[ER]
  |cons x xs c=>intro b k;rw[AZm,c,ER];grind
theorem AAv{α:Type}(P:Nat->Bool):∀ (xs:List α) (k:Nat),(ER P k xs).length<=xs.length/\∀ x∈ER P k xs,x∈xs:=by
 intro xs;induction xs with
  |nil=>intro k;simp[ER]
  |cons x xs a=>intro k;obtain⟨b,c⟩:=a (k+1);rw[ER];grind
theorem AEW(n:Int)(c:List (List Int))(d:List Int)(g:List (List Int))(u:c.length<1073741824)(E:d.length<1073741824)(F:g.length<1073741824)
  (q:∀ l∈c,l≠[]) (s:∀ r∈g,plain r≠[]) :
  ∃ ys,AB2 ((n,(c,())),d,g,())=some (n,ys,())/\ys.Perm (ER (fun k=>decide ((k:Int)∈d)) 0 c++g.map plain)/\ys.Pairwise (fun a b=>¬ hd b<hd a):=by
 rw[qD,lF]
 have e:=Er (step:=OB) (fun i (a:List (List Int)×Nat)=>(d,g,n,c,(0:Int),a.1,c,A3 c,(i:Int),())) c
  (fun x a=>.inl (if decide ((a.2:Int)∈d)then a.1 else a.1++[x],a.2+1)) (fun a=>.inl (g,n,c,(0:Int),a.1,())) (fun i a=>a.2=i/\a.1.length<=i) (by omega)
  (fun i x a hi o ⟨v,G⟩=>by
   refine⟨fun w j => ?_,fun r j=>by cases j⟩
   cases j
   subst v
   rw[OB,A9,A4,AY0 hi]
   simp only[BB o,H3 d _ (show d.length<9223372036854775808 by omega)]
   rw[A6 (by omega),CN (by simp only[A9,AZC,AZP];omega)]
   by_cases h:(a.2:Int)∈d
   ·grind
   ·simp only[h,AZQ,AZO]
    exact⟨by trivial,by trivial,by grind⟩)
  (fun a _=>by rw[OB,A9,A4,AYz (by omega)]) ([],0) ⟨rfl,by simp⟩
 have y:A_ OB many (d,g,n,c,(0:Int),[],c,A3 c,(0:Int),())=_:=e;rw[y,Ch];have t:(c.foldl (fun(a:List (List Int)×Nat) x=>(if decide ((a.2:Int)∈d)then a.1 else a.1++[x],a.2+1)) ([],0)).1=ER (fun k=>decide ((k:Int)∈d)) 0 c:=by have:=ub (fun k=>decide ((k:Int)∈d)) c [] 0;grind
 simp only[t];obtain⟨H,z⟩:=AAv (fun k=>decide ((k:Int)∈d)) c 0;generalize ER (fun k=>decide ((k:Int)∈d)) 0 c=rest at *
 have f:=Er (step:=OA) (fun i (a:List (List Int))=>(n,c,(0:Int),a,g,A3 g,(i:Int),())) g
  (fun x a=>.inl (a++[plain x])) (fun a=>.inl (n,c,(0:Int),a,())) (fun i a=>a.length=rest.length+i) (by omega)
  (fun i x a hi o v=>by
   refine⟨fun w j => ?_,fun r j=>by cases j⟩
   cases j
   rw[OA,A9,A4,AY0 hi]
   simp only[BB o,xb]
   rw[A6 (by omega),CN (by simp only[A9,AZC,AZP];omega)]
   exact⟨rfl,by grind⟩)
  (fun a _=>by rw[OA,A9,A4,AYz (by omega)]) rest rfl
 have A:A_ OA many (n,c,(0:Int),rest,g,A3 g,(0:Int),())=_:=f;rw[A,Ch];have m:∀ (l p:List (List Int)),l.foldl (fun a x=>a++[plain x]) p=p++l.map plain:=by
  intro l;induction l with
   |nil=>simp
   |cons x l I=>grind
 simp only[m];obtain⟨ys,J,B,C⟩:=SL.IJ (rest++g.map plain) (by grind) (fun x o=>by rcases AY5.1 o with h|h;exact q x (z x h);obtain⟨r,D,rfl⟩:=AZG.1 h;exact s r D)
 refine⟨ys,by grind,B,C.imp fun {a b} h => ?_⟩;simp only[SL.lt,Go.Sort.ltInt,AZc]at h;exact h
def AFi(a:List (List Int))(p:List Int):List (List Int):=a.take (a.findIdx fun x => !decide (hd x<hd p))++p::a.drop (a.findIdx fun x => !decide (hd x<hd p))
theorem AFh(a:List (List Int))(p:List Int):(AFi a p).Perm (p::a):=by rw[AFi];refine List.perm_middle.trans ?_;simp
theorem AR7{c:List (List Int)}{p:List Int}(h:c.Pairwise (fun a b=>hd a<hd b))(g:∀ x∈c,hd x≠hd p):(AFi c p).Pairwise (fun a b=>hd a<hd b):=by
 rw[AFi];have k:∀ x∈c.take (c.findIdx fun x => !decide (hd x<hd p)),hd x<hd p:=by intro x d;obtain⟨j,m,e⟩:=Abl.1 d;grind
 have l:∀ x∈c.drop (c.findIdx fun x => !decide (hd x<hd p)),hd p<hd x:=by
  intro x d;by_cases f:(c.findIdx fun x => !decide (hd x<hd p))<c.length;have n:=List.findIdx_getElem (p:=fun x => !decide (hd x<hd p)) (xs:=c) (w:=f);rw[AZh f]at d;have o:¬ hd c[c.findIdx fun x => !decide (hd x<hd p)]<hd p:=by grind
  have q:=g _ (Aaa f);rcases AZJ.1 d with rfl|d;omega;have i:(c.drop (c.findIdx fun x => !decide (hd x<hd p))).Pairwise (fun a b=>hd a<hd b):=h.sublist (List.drop_sublist _ _);rw[AZh f,AZj]at i;grind;grind
 rw[AbD,AZj];grind
end Go.Pev.Pl
end
section
namespace Go.Pev.Pl
open Tok
theorem pD{n u v:Int}(h:okT n (.arc u v)):n<=Qm n u v:=by rw[Ki h];exact(ZO h.1 h.2.1).1
def DO(n:Int)(A B:List Int)(u v:Int):List Int:=u::Qm n u v::(DK B v++Qm n v u::(DK A u).tail)
theorem WX{n u v:Int}{A B:List Int}(q:TI n A)(r:TI n B)(j:u∈A)(k:v∈B)(i:In n u)(m:In n v)(hd:Dis n A B):
  TI n (DO n A B u v)/\DK A u=u::(DK A u).tail/\(∀ t,t<n->(t∈DO n A B u v↔t∈A\/t∈B))/\u≠v/\okT n (.arc u v):=by
 obtain⟨a,s,w,y⟩:=vc q (t:=.ver u) i j;obtain⟨b,z,C,J⟩:=vc r (t:=.ver v) m k;have d:DK A u=(Tok.ver u::a).map (Ib n):=s;have f:DK B v=(Tok.ver v::b).map (Ib n):=z;have g:u≠v:=by rintro rfl;exact hd u j i.2.2.2 k
 have e:okT n (.arc u v):=⟨i,m,g⟩
 have D:=(Et j).perm;have o:=(Et k).perm;have c:DK A u=u::(DK A u).tail:=by rw[d];rfl
 have h:DO n A B u v=(Tok.ver u :: .arc u v::(.ver v::b ++ .arc v u::a)).map (Ib n):=by rw[DO,d,f,Ki e,Ki (Oi e)];grind
 refine⟨⟨_,h,fun t c => ?_,T.join w C fun x p l => ?_⟩,c,fun t E => ?_,g,e⟩;rcases AZJ.1 c with rfl|c;exact i;rcases AZJ.1 c with rfl|c;exact e;rcases AY5.1 c with c|c;grind;rcases AZJ.1 c with rfl|c;exact Oi e;grind;have F:=y _ p;have G:x∈A:=D.mem_iff.2 (by rw[d];exact AZG.2 ⟨_,p,rfl⟩);have H:x∈B:=o.mem_iff.2 (by rw[f];exact AZG.2 ⟨_,l,rfl⟩);exact hd x G F.2.2.2 H;have K:=pD e;have L:=pD (Oi e);have I:t∈A↔t=u\/t∈(DK A u).tail:=by grind
 rw[DO,AZJ,AZJ,AY5,AZJ,I,<- o.mem_iff];grind
theorem Tw{n:Int}{a b:List (List Int)}(h:a.Perm b)(c:a.Pairwise (Dis n)):b.Pairwise (Dis n):=(h.pairwise_iff fun {_ _} d=>d.symm).1 c
theorem AUu{n:Int}{c d m:List (List Int)}{A B p:List Int}(h:FR n c)(o:c.Perm (A::B::d))(w:RG n p)(q:∀ t,t<n->(t∈p↔t∈A\/t∈B))(k:m.Perm (p::d))(x:m.Pairwise (fun a b=>hd a<hd b)):FR n m:=by have f:=Tw o h.dis;rw[AZj,AZj]at f;obtain⟨y,z,C⟩:=f;refine⟨h.sz,fun l i => ?_,x,Tw k.symm ?_,fun v s => ?_⟩;rcases AZJ.1 (k.mem_iff.1 i)with rfl|i;exact w;exact h.rg l (o.mem_iff.2 (by simp[i]));rw[AZj];refine⟨fun r u t D e => ?_,C⟩;rcases(q t e).1 D with g|g;exact y r (by simp[u]) t g e;exact z r u t g e;obtain⟨l,i,j⟩:=h.cov v s;have:=o.mem_iff.1 i;simp only[AZJ]at this;rcases this with rfl|rfl|g;exact⟨p,k.mem_iff.2 (by simp),(q v s.2.2.2).2 (.inl j)⟩;exact⟨p,k.mem_iff.2 (by simp),(q v s.2.2.2).2 (.inr j)⟩;grind
theorem jv(n:Int)(a:List (List Int))(u v:Int)(b:Dom a):asked ((n,(a,())),u,v,())=some (if RF n a then if In n u/\In n v then 0 else 10 else 1,()):=by rw[vW,oy];simp only[RB n a b.1 b.2,Yr];grind
theorem AS1{n:Int}{c:List (List Int)}{u v:Int}{i j:Nat}{A B:List Int}(h:FR n c)(K:In n u)(L:In n v)(hi:c[i]? = some A)(w:c[j]? = some B)(H:u∈A)(I:v∈B)(y:i≠j):
  ∃ M d,gp ((n,(c,())),u,v,())=some (n,M,0,())/\FR n M/\c.Perm (A::B::d)/\M.Perm (plain (DO n A B u v)::d)/\Dis n A B:=by
 have J:=h.dom;have N:=dW.2 h;have O:=h.rg A (AY9 hi);have rB:=h.rg B (AY9 w);have X:=(AZM.1 hi).1;have Y:=(AZM.1 w).1;have Z:plc c u=(i:Int):=h.xx hi K.2.2.2 H;have pv:plc c v=(j:Int):=h.xx w L.2.2.2 I;have f:c.Perm (A::B::(c.eraseIdx (max i j)).eraseIdx (min i j)):=by rcases Nat.lt_or_gt_of_ne y with g|g;rw[Nat.max_eq_right (by omega),AZ9 (by omega)];exact Xy g hi w;rw[Nat.max_eq_left (by omega),Nat.min_eq_right (by omega)];exact(Xy g w hi).trans (List.Perm.swap _ _ _)
 have q:Dis n A B:=by have:=Tw f h.dis;simp_all
 obtain⟨l1,l2,T,huv,ho⟩:=WX O.2.2.2 rB.2.2.2 H I K L q;obtain⟨o,r⟩:=ve l1;have U:DO n A B u v=u::Qm n u v::(DK B v++Qm n v u::(DK A u).tail):=rfl;have lA:(DK A u).length<=1000:=by rw[<- (Et H).perm.length_eq];exact O.1.1
 have lB:(DK B v).length<=1000:=by rw[<- (Et I).perm.length_eq];exact rB.1.1
 have m:((c.eraseIdx (max i j)).eraseIdx (min i j)).Sublist c:=(List.eraseIdx_sublist _ _).trans (List.eraseIdx_sublist _ _);have P:ER (fun k=>decide ((k:Int)∈[(i:Int),(j:Int)])) 0 c=(c.eraseIdx (max i j)).eraseIdx (min i j):=by rcases Nat.lt_or_gt_of_ne y with g|g;rw[Nat.max_eq_right (by omega),AZ9 (by omega)];exact cq _ i j g c 0 (by omega) fun k _=>Aa4.2 (by simp only[AZJ,Ab7,or_false];omega);rw[Nat.max_eq_left (by omega),Nat.min_eq_right (by omega)];exact cq _ j i g c 0 (by omega) fun k _=>Aa4.2 (by simp only[AZJ,Ab7,or_false];omega)
 have hrl:((c.eraseIdx (max i j)).eraseIdx (min i j)).length<=c.length:=m.length_le;generalize (c.eraseIdx (max i j)).eraseIdx (min i j)=d at *;have z:d.Pairwise (fun a b=>hd a<hd b):=h.up.sublist m;have C:∀ l∈d,l≠[]:=fun l D=>(h.rg l (m.subset D)).2.1;have s:=Tw f h.dis;rw[AZj,AZj]at s;have p:∀ x∈d,hd x≠hd (plain (DO n A B u v)):=by intro x Q e;have R:=UK o;have g2:=(T _ R.2.2.2).1 (r.perm.mem_iff.2 (nW o.2.1));have V:hd (plain (DO n A B u v))∈x:=e▸nW (C x Q);rcases g2 with g|g;exact s.1 x (by simp[Q]) _ g R.2.2.2 V;exact s.2.1 x Q _ g R.2.2.2 V
 have E:=AR7 z p;have F:=AFh d (plain (DO n A B u v));refine⟨AFi d (plain (DO n A B u v)),d,?_,AUu h f o (fun t ht=>by rw[<- r.perm.mem_iff];exact T t ht) F E,f,F,q⟩;obtain⟨ys,W,y2,y3⟩:=AEW n c [(i:Int),(j:Int)] [DO n A B u v] J.1 (by simp) (by simp) (fun l D=>(h.rg l D).2.1) (by simp;exact o.2.1);have S:ys=AFi d (plain (DO n A B u v)):=by refine qY E (y2.trans ?_) y3;grind
 rw[S]at W;rw[Z5,Yo];have s1:Ci (DK A u) (0:Int) (1:Int)=some [u]:=by have:=Gh (xs:=DK A u) (l:=0) (h:=1) (by omega) (by grind);grind
 have s2:Ci (DK A u) (1:Int) (A3 (DK A u))=some (DK A u).tail:=by have:=Sf (xs:=DK A u) (l:=1) (by grind);grind
 have d1:C' 0 (A2 (A3 [u])) (DK A u)=[u]:=by rw[l2];rfl
 have d2:C' 1 (A2 (A3 (DK A u).tail)) (DK A u)=(DK A u).tail:=by rw[C',A9,EA,Ab3,AZT]
 have G:QO ([[u],[Qm n u v],DK B v,[Qm n v u],(DK A u).tail],())=some (DO n A B u v,()):=by rw[X6 _ (by simp) (by simp;omega)];simp[DO]
 have ne:((i:Int))≠(j:Int):=by omega
 simp only[jv n c u v J,N,K,L,and_self,AZa,BL,RC n c _ J.1 (fun l D=>(J.2 l D).1),Z,pv,ne,AZD,AZQ,AY4,BB hi,BB w,AFd,ni,O.1,rB.1,H,I,s1,s2,AKr,d1,d2,G,W]
theorem zy{n:Int}{a:List (List Int)}{u v:Int}(h:FR n a)(d:In n u)(e:In n v)(f:plc a u=plc a v):
  gp ((n,(a,())),u,v,())=some (n,a,5,()):=by have b:=h.dom;have c:=dW.2 h;rw[Z5,Yo];simp only[jv n a u v b,c,d,e,and_self,AZa,BL,RC n a _ b.1 (fun l g=>(b.2 l g).1),f,AZD,AY4]
end Go.Pev.Pl
end
section
namespace Go.Pev.Pl
open Tok
def SC(c:List (List Int))(a b:Int):Prop:=∃ A∈c,a∈A/\b∈A
structure FC(n:Int)(rings:List (List Int))(l:List Edge):Prop where
 fr:FR n rings
 sam:∀ a b,In n a->In n b->(SC rings a b↔Con l a b)
 arcs:∀ A∈rings,∀ u v,okT n (.arc u v)->Qm n u v∈A->∃ e∈l,(e.1=u/\e.2.1=v)\/(e.1=v/\e.2.1=u)
theorem FR.ALW{n:Int}{c:List (List Int)}(h:FR n c){a b:Int}(g:In n a)(l:In n b):plc c a=plc c b↔SC c a b:=by
 obtain⟨i,A,pa,hi,m,_⟩:=Vz (h.cov a g);obtain⟨j,B,p,f,o,_⟩:=Vz (h.cov b l);rw[pa,p];constructor;intro e;have:i=j:=by omega
 subst this;rw[hi]at f;cases f;exact⟨A,AY9 hi,m,o⟩;rintro⟨K,q,r,s⟩;obtain⟨k,d⟩:∃ k:Nat,c[k]? = some K:=by obtain⟨k,d,rfl⟩:=AZv q;exact⟨k,AZE d⟩
 rw[h.uniq hi d g.2.2.2 m r,h.uniq f d l.2.2.2 o s]
theorem FR.one{n:Int}{a:List (List Int)}(h:FR n a){A B:List Int}(b:A∈a)(c:B∈a){v:Int}(d:v<n)(e:v∈A)(f:v∈B):A=B:=by obtain⟨i,hi,rfl⟩:=AZv b;obtain⟨j,g,rfl⟩:=AZv c;have:=h.uniq (AZE hi) (AZE g) d e f;grind
theorem SC.perm{a b:List (List Int)}(h:a.Perm b)(x y:Int):SC a x y↔SC b x y:=by constructor;rintro⟨A,c,d⟩;exact⟨A,h.mem_iff.1 c,d⟩;rintro⟨A,c,d⟩;exact⟨A,h.mem_iff.2 c,d⟩
theorem AHc{n u v x y:Int}{A B:List Int}(e:TI n A)(f:TI n B)(c:u∈A)(d:v∈B)(i:In n u)(j:In n v)(hd:Dis n A B)(b:okT n (.arc x y))(h:Qm n x y∈DO n A B u v):Qm n x y∈A\/Qm n x y∈B\/(x=u/\y=v)\/(x=v/\y=u):=by obtain⟨_,l,_,k,a⟩:=WX e f c d i j hd;have m:=(Et c).perm;have o:=(Et d).perm;have g:=pD b;rw[DO,AZJ,AZJ,AY5,AZJ]at h;rcases h with h|h|h|h|h;grind;rw[Ki b,Ki a]at h;have:=Tt b a h;grind;grind;rw[Ki b,Ki (Oi a)]at h;have:=Tt b (Oi a) h;grind;grind
theorem AUv{n:Int}{d:List (List Int)}{l:List Edge}{e:Edge}(h:FC n d l)(k:In n e.1)(m:In n e.2.1):
  ∃ z q,gp ((n,(d,())),e.1,e.2.1,())=some (n,z,q,())/\FC n z (l++[e])/\(q=0/\z.length+1=d.length\/q=5/\z=d):=by
 have o:=h.fr;obtain⟨i,A,pu,hi,D,_⟩:=Vz (o.cov _ k);obtain⟨j,B,pv,V,E,_⟩:=Vz (o.cov _ m);have P:=AY9 hi;have Q:=AY9 V;by_cases R:i=j;have F:plc d e.1=plc d e.2.1:=by omega
 refine⟨d,5,zy o k m F,⟨o,fun a b p r => ?_,fun A hA u v W G => ?_⟩,.inr ⟨rfl,rfl⟩⟩;rw[h.sam a b p r,Con.snoc];have X:Con l e.1 e.2.1:=(h.sam _ _ k m).1 ((o.ALW k m).1 F);constructor;grind;rintro (g|⟨H,I⟩|⟨H,I⟩);exact g;exact H.trans (X.trans I);exact H.trans (X.symm.trans I);obtain⟨C,J,L⟩:=h.arcs A hA u v W G;grind
 ·obtain⟨z,f,q1,q3,Y,S,Z⟩:=AS1 o k m hi V D E R;have gA:=o.rg A P;have gB:=o.rg B Q;obtain⟨l1,l2,l3,huv,W⟩:=WX gA.2.2.2 gB.2.2.2 D E k m Z;obtain⟨hRG,s⟩:=ve l1;have M:=Y.length_eq;have N:=S.length_eq;simp only[AZC]at M N;refine⟨z,0,q1,⟨q3,fun a b p r => ?_,fun K t x y O G => ?_⟩,.inl ⟨rfl,by omega⟩⟩;rw[SC.perm S,Con.snoc,<- h.sam a b p r,<- h.sam a _ p k,<- h.sam _ b m r,<- h.sam a _ p m,<- h.sam _ b k r];have w:∀ x,In n x->(x∈plain (DO n A B e.1 e.2.1)↔x∈A\/x∈B):=fun x T=>by rw[<- s.perm.mem_iff];exact l3 x T.2.2.2
  have sA:∀ x,In n x->(SC d x e.1↔x∈A):=fun x T=>by constructor;rintro⟨K,t,J,L⟩;rw[o.one P t k.2.2.2 D L];exact J;intro U;exact⟨A,P,U,D⟩
  have sB:∀ x,In n x->(SC d x e.2.1↔x∈B):=fun x T=>by constructor;rintro⟨K,t,J,L⟩;rw[o.one Q t m.2.2.2 E L];exact J;intro U;exact⟨B,Q,U,E⟩
  have sy:∀ x y,SC d x y↔SC d y x:=fun x y=>⟨fun ⟨K,a,b,c⟩=>⟨K,a,c,b⟩,fun ⟨K,a,b,c⟩=>⟨K,a,c,b⟩⟩
  rw[sA a p,sB a p,sy e.2.1 b,sB b r,sy e.1 b,sA b r];have hs:SC d a b↔(a∈A/\b∈A)\/(a∈B/\b∈B)\/∃ K∈f,a∈K/\b∈K:=by rw[SC.perm Y];simp only[SC,AZJ,exists_eq_or_imp]
  have hz:SC (plain (DO n A B e.1 e.2.1)::f) a b↔((a∈A\/a∈B)/\(b∈A\/b∈B))\/∃ K∈f,a∈K/\b∈K:=by simp only[SC,AZJ,exists_eq_or_imp,w a p,w b r]
  grind
  ·have old:∀ K∈d,Qm n x y∈K->∃ C∈l++[e],(C.1=x/\C.2.1=y)\/(C.1=y/\C.2.1=x):=fun K t G=>by obtain⟨C,J,L⟩:=h.arcs K t x y O G;grind
   rcases AZJ.1 (S.mem_iff.1 t)with rfl|t
   ·rcases AHc gA.2.2.2 gB.2.2.2 D E k m Z O (s.perm.mem_iff.2 G)with g|g|⟨H,I⟩|⟨H,I⟩
    all_goals grind
   grind
theorem ABp{N:Nat}(d:1<=N)(e:N<=64):FC (N:Int) (DN N) []:=by
 have f:∀ A∈DN N,∃ k:Nat,k<N/\A=[(k:Int)]:=fun A c=>by simp only[DN,AZG,AZY]at c;grind
 have g:∀ k,k<N->In (N:Int) (k:Int):=fun k i=>⟨by omega,by omega,by omega,by omega⟩
 refine⟨⟨⟨by omega,by omega⟩,fun l n => ?_,?_,?_,fun v j => ?_⟩,fun a b m s => ?_,fun A c u v o p => ?_⟩;obtain⟨k,i,rfl⟩:=f l n;refine⟨⟨by simp,fun x w => ?_,by simp⟩,by simp,rfl,(AXU (N:Int) k).2 (g k i)⟩;grind;rw[DN,AaN];exact List.pairwise_lt_range.imp fun h=>by simp only[hd,Abk];omega
 rw[DN,AaN];exact List.pairwise_lt_range.imp fun {a b} h t y _ q=>by grind
 obtain⟨k,rfl⟩:=AY6 j.2.2.1;have:=j.2.2.2;exact⟨[(k:Int)],by simp only[DN,AZG,AZY];grind,by simp⟩;constructor;rintro⟨A,c,d,e⟩;obtain⟨k,_,rfl⟩:=f A c;simp only[AZW]at d e;rw[d,e];exact .refl _;intro r;have:=r.nil;subst this;obtain⟨k,rfl⟩:=AY6 m.2.2.1;have:=m.2.2.2;exact⟨[(k:Int)],by simp only[DN,AZG,AZY];grind,by simp,by simp⟩;obtain⟨k,i,rfl⟩:=f A c;simp only[AZW]at p;have:=pD o;omega
theorem uV(l:List Edge)(g:l.length<1073741824):ends (l,())=some (l.flatMap fun e=>[e.1,e.2.1],()):=by
 rw[ADd,AAi]
 have e:=Er (step:=Ts) (fun i (a:List Int)=>(a,l,A3 l,(i:Int),())) l (fun x a=>.inl (a++[x.1,x.2.1])) (fun a=>.inl (a,())) (fun i a=>a.length=2*i) (by omega)
  (fun i x a hi d h=>by
   refine⟨fun j c => ?_,fun r c=>by cases c⟩
   cases c
   rw[Ts,A9,A4,AY0 hi]
   simp only[BB d]
   rw[A6 (by omega),CN (by simp only[A9,AZC,AZP];omega)]
   exact⟨rfl,by grind⟩)
  (fun a _=>by rw[Ts,A9,A4,AYz (by omega)]) [] rfl
 have f:A_ Ts many ([],l,A3 l,(0:Int),())=_:=e;rw[f,Ch];have k:∀ (xs:List Edge) (b:List Int),xs.foldl (fun a x=>a++[x.1,x.2.1]) b=b++xs.flatMap fun e=>[e.1,e.2.1]:=by
  intro xs;induction xs with
   |nil=>simp
   |cons x xs m=>grind
 grind
theorem AO9(n:Int)(l:List Edge):((l.flatMap fun e=>[e.1,e.2.1]).all fun v=>decide (In n v))=l.all fun e=>decide (In n e.1/\In n e.2.1):=by simp
theorem AO8(l:List Edge):(l.flatMap fun e=>[e.1,e.2.1]).length=2*l.length:=by
 induction l with
  |nil=>rfl
  |cons e l a=>grind
theorem zx{n:Int}(l:List Edge)(w:l.length<1073741824)(o:∀ e∈l,In n e.1/\In n e.2.1):
  ∀ (m i cnt:Nat) (a:List (List Int)) (b:List Bool),i+m=l.length->b.length=i->FC n a (l.take i)->m<cnt ->
  ∃ g d,BA Ic cnt (n,a,(0:Int),b,l,(l.length:Int),(i:Int),())=some (.inl (n,g,(0:Int),d,()))/\FC n g l/\d.length=l.length:=by
 intro m;induction m with
  |zero=>
   intro i cnt a b hi j h p;obtain⟨cnt,rfl⟩:∃ c,cnt=c+1:=⟨cnt-1,by omega⟩
   rw[AZq (by omega)]at h;refine⟨a,b,?_,h,by omega⟩;rw[BA,Ic,A4,AYz (by omega)]
  |succ m r=>
   intro i cnt a b hi j h p;obtain⟨cnt,rfl⟩:∃ c,cnt=c+1:=⟨cnt-1,by omega⟩
   have f:i<l.length:=by omega
   have s:l[i]? = some l[i]:=AZE f;obtain⟨t,u⟩:=o _ (Aaa f);obtain⟨g,q,v,k,_⟩:=AUv h t u;rw[BA,Ic,A4,AY0 f];simp only[BB s,v];rw[A6 (by omega),CN (by simp only[A9,AZC,AZP];omega)];rw[<- AZf f]at k;exact r (i+1) cnt g _ (by omega) (by simp[I0,j]) k (by omega)
theorem ADY(k:Int)(l:List Edge)(j:Sz k)(d:l.length<1073741824):
  ((∀ e∈l,In k e.1/\In k e.2.1)/\∃ a,fof (k,l,())=some ((k,(a,())),0,())/\FC k a l) \/
  (¬ (∀ e∈l,In k e.1/\In k e.2.1)/\fof (k,l,())=some ((0,([],())),10,())):=by
 have f:9223372036854775808<many:=by simp only[many];omega
 rw[AOs,AOt];have n:ZD k=(k,DN k.toNat,0,()):=by rw[ZD,AZA j]
 obtain⟨r,s⟩:=j;obtain⟨N,rfl⟩:=AY6 (show 0<=k by omega);have m:=ABp (N:=N) (by omega) (by omega);have o:=m.fr.dom;have g:=dW.2 m.fr;have p:=AO8 l;have b:R0 (((N:Int),(DN N,())),l.flatMap fun e=>[e.1,e.2.1],())=some (if ∀ e∈l,In (N:Int) e.1/\In (N:Int) e.2.1 then 0 else 10,()):=by rw[cT _ _ _ o (by omega),AO9,AUk,AZA g];grind
 simp only[AEi,n,AZX,E1,AY4];rw[ja,cY,X3,R3];by_cases c:∀ e∈l,In (N:Int) e.1/\In (N:Int) e.2.1;refine .inl ⟨c,?_⟩;rw[AZA c]at b;obtain⟨t,h,q,u,_⟩:=zx l d c l.length 0 many (DN N) [] (by omega) rfl (by grind) (by omega);have i:BA Ic many ((N:Int),DN N,(0:Int),[],l,(l.length:Int),(0:Int),())=_:=q;simp only[uV l d,b,E1,AY4,BO,A9,i];grind;refine .inr ⟨c,?_⟩;rw[AY7 c]at b;simp only[uV l d,b,BL];rfl
end Go.Pev.Pl
end
section
namespace Go.Pev.Pl
open Tok
def cl(out:List Int)(v:Int):Int:=out.getD v.toNat 0
def CI(N:Nat)(l:List Edge)(out:List Int):Prop:=out.length=N/\∀ k,k<N->0<=out.getD k 0/\out.getD k 0<=(k:Int)/\Con l (k:Int) (out.getD k 0)
theorem AB9:∀ (l:List Int) (k:Nat) (x:Int),k<l.length->(l.set k x).sum=l.sum-l.getD k 0+x:=by
 intro l;induction l with
  |nil=>simp
  |cons y l a=>
   intro k x h;cases k with
    |zero=>grind
    |succ k=>grind
theorem RH{N:Nat}{l:List Edge}{out:List Int}(h:CI N l out)(e:N<=64):0<=out.sum/\out.sum<=4096:=by
 obtain⟨f,g⟩:=h;have a:∀ (xs:List Int),(∀ x∈xs,0<=x/\x<=64)->0<=xs.sum/\xs.sum<=64*(xs.length:Int):=by
  intro xs;induction xs with
   |nil=>simp
   |cons x xs b=>intro h;have i:=b fun y c=>h y (AaQ _ c);have j:=h x (by simp);grind
 have:=a out fun x d=>by obtain⟨k,m,rfl⟩:=AZv d;grind
 omega
theorem AXy(N:Nat)(l:List Edge)(V:l.length<1073741824)(L:∀ e∈l,In (N:Int) e.1/\In (N:Int) e.2.1):
  ∀ (m i cnt:Nat) (out:List Int) (d:Bool),i+m=l.length->CI N l out->m<cnt ->
  ∃ b a,BA Gz cnt ((N:Int),l,out,d,(i:Int),())=some (.inl ((N:Int),l,b,a,()))/\CI N l b /\
   ((a=d/\b=out/\∀ e∈l.drop i,cl out e.1=cl out e.2.1)\/(a=true/\b.sum<out.sum)):=by
 intro m;induction m with
  |zero=>
   intro i cnt out d hi h M;obtain⟨cnt,rfl⟩:∃ c,cnt=c+1:=⟨cnt-1,by omega⟩
   refine⟨out,d,?_,h,.inl ⟨rfl,rfl,?_⟩⟩;rw[BA,Gz,A9,A4,AYz (by omega)];grind
  |succ m C=>
   intro i cnt out d hi h M;obtain⟨cnt,rfl⟩:∃ c,cnt=c+1:=⟨cnt-1,by omega⟩
   have j:i<l.length:=by omega
   have O:l[i]? = some l[i]:=AZE j;have D:=Aaa j;have t:l.drop i=l[i]::l.drop (i+1):=AZh j;rw[BA,Gz,A9,A4,AY0 j];simp only[BB O];rw[t,A6 (by omega)];generalize l[i]=e at *;obtain⟨w,x⟩:=L e D;have f:=Con.F8 e D;obtain⟨W,ev,P⟩:=e;simp only at w x f |-;obtain⟨u,rfl⟩:=AY6 w.2.2.1;obtain⟨v,rfl⟩:=AY6 x.2.2.1;have E:u<N:=by have:=w.2.2.2;omega
   have F:v<N:=by have:=x.2.2.2;omega
   have p:u<out.length:=by rw[h.1];exact E
   have y:v<out.length:=by rw[h.1];exact F
   rw[BG,AYz (by omega)];simp only[];rw[BG,AYz (by omega)];simp only[];rw[BQ,AYz (by omega)];simp only[];rw[BQ,AYz (by omega)];simp only[Cd (0:Int) p,Cd (0:Int) y,Ek,FX,BL];by_cases z:out.getD u 0=out.getD v 0;rw[AY0 z];obtain⟨b,a,G,H,I⟩:=C (i+1) cnt out d (by omega) h (by omega);refine⟨b,a,G,H,?_⟩;rcases I with⟨Q,R,X⟩|g;refine .inl ⟨Q,R,fun Y q => ?_⟩;rcases AZJ.1 q with rfl|q;simpa [cl]using z;grind;grind;rw[AYz z];have S:u≠v:=by grind
   have r:Cl (out.getD u 0) (out.getD v 0)=if out.getD v 0<out.getD u 0 then out.getD v 0 else out.getD u 0:=rfl
   generalize T:Cl (out.getD u 0) (out.getD v 0)=low at *;have n:v<(out.set u low).length:=by grind
   simp only[Cd (0:Int) n];have Z:=h.2 u E;have A:=h.2 v F;have s:∀ k,k<N->((out.set u low).set v low).getD k 0=if k=u\/k=v then low else out.getD k 0:=by grind
   have o:0<=low/\low<=(u:Int)/\low<=(v:Int)/\Con l (u:Int) low:=by rw[r];split;exact⟨A.1,by omega,A.2.1,f.trans A.2.2⟩;grind
   have U:CI N l ((out.set u low).set v low):=by refine⟨by simp[h.1],fun k J => ?_⟩;rw[s k J];split;rename_i B;rcases B with rfl|rfl;grind;exact⟨o.1,o.2.2.1,f.symm.trans o.2.2.2⟩;exact h.2 k J
   have K:((out.set u low).set v low).sum<out.sum:=by rw[AB9 _ _ _ n,AB9 _ _ _ p];grind
   obtain⟨b,a,G,H,I⟩:=C (i+1) cnt _ true (by omega) U (by omega);grind
theorem AVc(N:Nat)(i:N<=64)(l:List Edge)(n:l.length<1073741824)(o:∀ e∈l,In (N:Int) e.1/\In (N:Int) e.2.1):
  ∀ (m cnt:Nat) (out:List Int),out.sum.toNat=m->CI N l out->m+1<cnt ->
  ∃ a,BA JN cnt ((N:Int),l,out,true,())=some (.inl (a,()))/\CI N l a/\∀ e∈l,cl a e.1=cl a e.2.1:=by
 have b:9223372036854775808<many:=by simp only[many];omega
 intro m;induction m using Nat.strongRecOn with
  |_ m p=>
   intro cnt out s h t;obtain⟨cnt,rfl⟩:∃ c,cnt=c+1:=⟨cnt-1,by omega⟩
   rw[BA,JN];obtain⟨a,d,q,j,r⟩:=AXy N l n o l.length 0 many out false (by omega) h (by omega);have f:BA Gz many ((N:Int),l,out,false,(0:Int),())=_:=q;simp only[BO,f];rcases r with⟨g,k,u⟩|⟨g,k⟩
   subst g k;obtain⟨cnt,rfl⟩:∃ c,cnt=c+1:=⟨cnt-1,by omega⟩
   rw[BA,JN];grind;subst g;have v:=RH h i;have w:=RH j i;exact p a.sum.toNat (by omega) cnt a rfl j (by omega)
structure fQ(n:Int)(l:List Edge)(out:List Int):Prop where
 len:(out.length:Int)=n
 same:∀ a b,In n a->In n b->(cl out a=cl out b↔Con l a b)
 isin:∀ a,In n a->In n (cl out a)
 con:∀ a,In n a->Con l a (cl out a)
 least:∀ a b,In n a->In n b->Con l a b->cl out a<=b
theorem H6(n:Int)(l:List Edge)(x:Sz n)(y:l.length<1073741824)(z:∀ e∈l,In n e.1/\In n e.2.1):∃ out,Jv (n,l,())=some (out,())/\fQ n l out:=by
 have j:9223372036854775808<many:=by simp only[many];omega
 obtain⟨A,B⟩:=x;obtain⟨N,rfl⟩:=AY6 (show 0<=n by omega);rw[UA,PM];have o:∀ (m k cnt:Nat),k+m=N->m<cnt->BA G0 cnt ((N:Int),l,(List.range k).map (fun(k:Nat)=>(k:Int)),(k:Int),())=some (.inl ((N:Int),l,(List.range N).map (fun(k:Nat)=>(k:Int)),())):=by
  intro m;induction m with
   |zero=>
    intro k cnt q C;obtain⟨cnt,rfl⟩:∃ c,cnt=c+1:=⟨cnt-1,by omega⟩
    have:k=N:=by omega
    subst this;rw[BA,G0,A4,AYz (by omega)]
   |succ m D=>
    intro k cnt q C;obtain⟨cnt,rfl⟩:∃ c,cnt=c+1:=⟨cnt-1,by omega⟩
    have g:=D (k+1) cnt (by omega) (by omega);rw[AZo,AaP]at g;rw[BA,G0,A4,AY0 (by omega)];simp only[];rw[A6 (by omega),CN (by simp only[A9,AZC,AZP,AZZ,AZd];omega)];exact g
 have E:=o N 0 many (by omega) (by omega);have p:BA G0 many ((N:Int),l,[],(0:Int),())=_:=E;have r:CI N l ((List.range N).map (fun(k:Nat)=>(k:Int))):=by
  refine⟨by simp,fun k q => ?_⟩;have:((List.range N).map (fun(k:Nat)=>(k:Int))).getD k 0=(k:Int):=by grind
  rw[this];exact⟨by omega,by omega,.refl _⟩
 have G:=RH r (by omega);obtain⟨out,F,s,t⟩:=AVc N (by omega) l y z _ many _ rfl r (by omega);simp only[BO,p,F];have d:∀ a,In (N:Int) a->0<=cl out a/\cl out a<=a/\Con l a (cl out a):=by intro a i;obtain⟨k,rfl⟩:=AY6 i.2.2.1;have:=s.2 k (by have:=i.2.2.2;omega);simpa [cl]using this
 refine⟨out,rfl,by rw[s.1],fun a b f u=>⟨fun h => ?_,fun h=>h.const t⟩,fun a f => ?_,fun a f=>(d a f).2.2,fun a b f u h => ?_⟩;have v:=(d a f).2.2;have w:=(d b u).2.2;rw[<- h]at w;exact v.trans w.symm;have:=d a f;have H:=f.2.2.2;exact⟨A,B,by omega,by omega⟩;have v:cl out a=cl out b:=h.const t;grind
end Go.Pev.Pl
end
end
section
namespace Go.Pev.Pl
def Low(l:List Edge)(k:Nat):Prop:=∀ j:Nat,j<k->¬ Con l (j:Int) (k:Int)
noncomputable def ANg(l:List Edge)(k:Nat):Bool:=@decide (Low l k) (Classical.propDecidable _)
theorem KJ(l:List Edge)(k:Nat):ANg l k=true↔Low l k:=by unfold ANg;simp
noncomputable def cc(N:Nat)(l:List Edge):Nat:=(List.range N).countP (ANg l)
noncomputable def Nd(l:List Edge)(a b:Int):Bool:=@decide (Con l a b) (Classical.propDecidable _)
theorem C8(l:List Edge)(a b:Int):Nd l a b=true↔Con l a b:=by unfold Nd;simp
theorem Kg(l:List Edge)(a b:Int):Nd l a b=false↔¬ Con l a b:=by rw[<- C8];simp
theorem Con.sub{l d:List Edge}(h:∀ e∈l,e∈d){a b:Int}(c:Con l a b):Con d a b:=c.mono fun e f=>⟨e,h e f,.inl ⟨rfl,rfl⟩⟩
theorem Con.cut{l g:List Edge}(h:∀ e∈l,Con g e.1 e.2.1){a b:Int}(c:Con l a b):Con g a b:=by
 induction c with
  |refl a=>exact .refl a
  |F8 e j=>grind
  |symm _ i=>exact i.symm
  |trans _ _ d f=>exact d.trans f
theorem ANf(l:List Edge):∀ v:Nat,∃ m:Nat,m<=v/\Con l (m:Int) (v:Int)/\Low l m:=by
 intro v;induction v using Nat.strongRecOn with
  |ind v c=>by_cases h:Low l v;exact⟨v,AY8 _,.refl _,h⟩;have:∃ j:Nat,j<v/\Con l (j:Int) (v:Int):=AaR fun d=>h fun j a b=>d ⟨j,a,b⟩;obtain⟨j,a,b⟩:=this;obtain⟨m,g,e,f⟩:=c j a;exact⟨m,by omega,e.trans b,f⟩
theorem Low.le{l:List Edge}{m j:Nat}(h:Low l m)(a:Con l (m:Int) (j:Int)):m<=j:=by refine Nat.le_of_not_lt fun b=>h j b a.symm
theorem Low.uniq{l:List Edge}{a b:Nat}(c:Low l a)(d:Low l b)(h:Con l (a:Int) (b:Int)):a=b:=by have:=c.le h;have:=d.le h.symm;omega
theorem APy{N:Nat}{l d:List Edge}(h:∀ j k:Nat,j<N->k<N->(Con l (j:Int) (k:Int)↔Con d (j:Int) (k:Int))):cc N l=cc N d:=by
 unfold cc;refine List.countP_congr fun k a => ?_;have a:k<N:=by grind
 rw[KJ,KJ];constructor;intro q j b c;exact q j b ((h j k (by omega) a).2 c);intro q j b c;exact q j b ((h j k (by omega) a).1 c)
theorem ABf{N:Nat}{l c:List Edge}(h:∀ a b,Con l a b↔Con c a b):cc N l=cc N c:=APy fun _ _ _ _=>h _ _
theorem AUS{l f:List Edge}(h:∀ e,e∈l↔e∈f){a b:Int}:Con l a b↔Con f a b:=⟨fun c=>c.sub fun e d=>(h e).1 d,fun c=>c.sub fun e d=>(h e).2 d⟩
theorem AUd{N:Nat}{l a:List Edge}(h:l.Perm a):cc N l=cc N a:=ABf fun _ _=>AUS fun _=>h.mem_iff
theorem AXK(N:Nat):cc N []=N:=by
 unfold cc;have:(List.range N).countP (ANg [])=(List.range N).length:=by rw[List.countP_eq_length];intro k _;rw[KJ];intro j b a;have:=a.nil;omega
 grind
theorem ABD{P:Nat->Bool}{M:Nat}(c:P M=true):∀ {xs:List Nat},xs.Nodup->M∈xs->xs.countP P=xs.countP (fun k=>P k && !decide (k=M))+1:=by
 intro xs;induction xs with
  |nil=>simp
  |cons x xs d=>
   intro a h;rw[AaA]at a;rw[Aba,Aba];by_cases b:x=M;subst b;have:xs.countP P=xs.countP (fun k=>P k && !decide (k=x)):=by refine List.countP_congr fun k e => ?_;grind
   grind;grind
def InE(N:Nat)(e:Edge):Prop:=(0<=e.1/\e.1<(N:Int))/\(0<=e.2.1/\e.2.1<(N:Int))
theorem uy{l:List Edge}{e:Edge}(h:Con l e.1 e.2.1){a b:Int}:Con (l++[e]) a b↔Con l a b:=
 ⟨fun c=>c.cut fun x d=>by rcases AY5.1 d with d|d;exact .F8 x d;grind,fun c=>c.sub fun x d=>AY5.2 (.inl d)⟩
theorem ADt{N:Nat}{l:List Edge}{e:Edge}(x:InE N e):cc N l=cc N (l++[e])+(if Nd l e.1 e.2.1=true then 0 else 1):=by
 by_cases h:Con l e.1 e.2.1;rw[AZA ((C8 _ _ _).2 h),AZ6];exact ABf fun a b=>(uy h).symm;rw[AY7 (fun y=>h ((C8 _ _ _).1 y))];obtain⟨⟨z,H⟩,A,I⟩:=x;obtain⟨u,r⟩:=AY6 z;obtain⟨v,s⟩:=AY6 A;have c:∀ {a b:Int},Con (l++[e]) a b↔Con l a b\/(Con l a (u:Int)/\Con l (v:Int) b)\/(Con l a (v:Int)/\Con l (u:Int) b):=by intro a b;rw[Con.snoc,r,s]
 rw[r,s]at h;obtain⟨p,J,f,t⟩:=ANf l u;obtain⟨q,K,g,w⟩:=ANf l v;have B:p≠q:=fun e=>h (f.symm.trans (e▸g));have i:∀ k:Nat,Low (l++[e]) k↔Low l k/\k≠max p q:=by
  intro k;constructor;intro d;refine⟨fun j n m=>d j n (c.2 (.inl m)),fun e => ?_⟩;refine d (min p q) (by omega) (c.2 ?_);by_cases C:p<q;rw[e,AZ9 (by omega),Nat.max_eq_right (by omega)];exact .inr (.inl ⟨f,g.symm⟩);rw[e,Nat.min_eq_right (by omega),Nat.max_eq_left (by omega)];exact .inr (.inr ⟨g,f.symm⟩);rintro⟨d,D⟩ j n m;rcases c.1 m with m|⟨o,c2⟩|⟨o,c2⟩
  exact d j n m;have E:=w.uniq d (g.trans c2);have F:=t.le (f.trans o.symm);omega;have E:=t.uniq d (f.trans c2);have F:=w.le (g.trans o.symm);omega
 have G:ANg l (max p q)=true:=by rw[KJ];grind
 unfold cc;rw[ABD G Aa3 (by grind)];congr 1;refine List.countP_congr fun k _ => ?_;rw[KJ,i,AY3,KJ];simp
noncomputable def gfl:List Edge->List Edge->List Bool
 |_,[]=>[]
 |b,x::xs=>(!Nd b x.1 x.2.1)::gfl (b++[x]) xs
noncomputable def AAP:List Edge->List Edge->List Edge
 |_,[]=>[]
 |b,x::xs=>if Nd b x.1 x.2.1=true then AAP (b++[x]) xs else x::AAP (b++[x]) xs
theorem AOc:∀ (xs b:List Edge),(AAP b xs).Sublist xs:=by
 intro xs;induction xs with
  |nil=>intro b;exact List.Sublist.refl _
  |cons x xs a=>intro b;rw[AAP];grind
theorem AJb{N:Nat}:∀ (xs b:List Edge),(∀ e∈xs,InE N e)->cc N b=cc N (b++xs)+(AAP b xs).length:=by
 intro xs;induction xs with
  |nil=>intro b _;simp[AAP]
  |cons x xs a=>
   intro b h;have c:b++x::xs=(b++[x])++xs:=by simp
   rw[ADt (h x (by simp)),a (b++[x]) (fun e d=>h e (by simp[d])),c,AAP];grind
theorem AVK{N:Nat}(xs b:List Edge)(h:∀ e∈xs,InE N e):cc N b<=cc N (b++xs)+xs.length:=by have:=AJb xs b h;have:=(AOc xs b).length_le;omega
def Fo(N:Nat)(l:List Edge):Prop:=cc N l+l.length=N
theorem Fo.perm{N:Nat}{l a:List Edge}(h:Fo N l)(b:l.Perm a):Fo N a:=by unfold Fo at *;rw[<- AUd b,<- b.length_eq];exact h
theorem APz{N:Nat}(l:List Edge)(h:∀ e∈l,InE N e):N<=cc N l+l.length:=by have:=AVK l [] h;rw[AXK,AZk]at this;omega
theorem Fo.front{N:Nat}{a b:List Edge}(h:Fo N (a++b))(c:∀ e∈a,InE N e)(d:∀ e∈b,InE N e):Fo N a:=by unfold Fo at *;have f:=APz a c;have g:=AVK b a d;grind
abbrev Tie:=Int×Int×Int×Bool×Unit
abbrev zT:Tie:=(0,0,0,false,())
def ahead(p x:Tie):Prop:=p.1<x.1\/(p.1=x.1/\p.2.1<x.2.1)
instance (p x:Tie):Decidable (ahead p x):=inferInstanceAs (Decidable (_\/_))
def ed(t:Tie):Edge:=(t.1,t.2.1,())
def trk(ts:List Tie)(k:Int):List Edge:=(ts.filter fun t=>t.2.2.2.1&&decide (k<=t.2.2.1)).map ed
theorem Hu{ts:List Tie}{k:Int}{e:Edge}:e∈trk ts k↔∃ t∈ts,t.2.2.2.1=true/\k<=t.2.2.1/\ed t=e:=by unfold trk;simp only[AZG,AZS,AY3,AY2];constructor;rintro⟨t,⟨a,b,c⟩,d⟩;exact⟨t,a,b,c,d⟩;rintro⟨t,a,b,c,d⟩;exact⟨t,⟨a,b,c⟩,d⟩
theorem J2{ts:List Tie}{k a:Int}(h:k<=a):∀ e∈trk ts a,e∈trk ts k:=by intro e b;obtain⟨t,c,d,g,f⟩:=Hu.1 b;exact Hu.2 ⟨t,c,d,by omega,f⟩
noncomputable def csz(N:Nat)(l:List Edge)(v:Int):Nat:=(List.range N).countP fun(w:Nat)=>Nd l v (w:Int)
theorem c9{N:Nat}{l a:List Edge}{v b:Int}(h:∀ w:Nat,w<N->Con l v (w:Int)->Con a b (w:Int)):csz N l v<=csz N a b:=by unfold csz;refine List.countP_mono_left fun w d c => ?_;rw[C8]at c |-;exact h w (by simpa using d) c
theorem AUN{N:Nat}{l:List Edge}{v:Nat}(a:v<N):1<=csz N l (v:Int):=by unfold csz;refine List.countP_pos_iff.2 ⟨v,by simpa using a,(C8 _ _ _).2 (.refl _)⟩
theorem APb{N:Nat}{l:List Edge}{e:Edge}(h:¬ Con l e.1 e.2.1):csz N (l++[e]) e.1=csz N l e.1+csz N l e.2.1:=by
 unfold csz;have c:∀ xs:List Nat,xs.countP (fun(w:Nat)=>Nd (l++[e]) e.1 (w:Int))=xs.countP (fun(w:Nat)=>Nd l e.1 (w:Int))+xs.countP (fun(w:Nat)=>Nd l e.2.1 (w:Int)):=by
  intro xs;induction xs with
   |nil=>rfl
   |cons x xs f=>
    rw[Aba,Aba,Aba,f];have d:Con (l++[e]) e.1 (x:Int)↔Con l e.1 (x:Int)\/Con l e.2.1 (x:Int):=by rw[Con.snoc];constructor;rintro (h|⟨_,h⟩|⟨_,h⟩);exact .inl h;exact .inr h;exact .inl h;rintro (h|h);exact .inl h;exact .inr (.inl ⟨.refl _,h⟩)
    by_cases b:Con l e.1 (x:Int);have a:¬ Con l e.2.1 (x:Int):=fun a=>h (b.trans a.symm);rw[(C8 _ _ _).2 (d.2 (.inl b)),(C8 _ _ _).2 b,(Kg _ _ _).2 a];simp only[AZa,AZH,AZL];omega;by_cases a:Con l e.2.1 (x:Int);rw[(C8 _ _ _).2 (d.2 (.inr a)),(Kg _ _ _).2 b,(C8 _ _ _).2 a];simp only[AZa,AZH,AZL];omega;rw[(Kg _ _ _).2 (fun h=>(d.1 h).elim b a),(Kg _ _ _).2 b,(Kg _ _ _).2 a];simp only[AZH,AZL,AZ6]
 exact c _
def Iu(top:Int)(t:Tie):Tie:=(t.1,t.2.1,min top (t.2.2.1+1),t.2.2.2.1,())
def El(t:Tie):Tie:=(t.1,t.2.1,t.2.2.1,true,())
def both(S:Int->Bool)(t:Tie):Bool:=S t.1&&S t.2.1
def I6(S:Int->Bool)(t:Tie):Prop:=S t.1≠S t.2.1
instance (S:Int->Bool)(t:Tie):Decidable (I6 S t):=inferInstanceAs (Decidable (_≠_))
def rT(S:Int->Bool)(top i:Int)(t:Tie):Tie:=if t.2.2.2.1=true/\t.2.2.1=i/\both S t=true then Iu top t else t
def rO(S:Int->Bool)(top i:Int)(t:Tie):Tie:=if t.2.2.2.1=false/\t.2.2.1=i/\both S t=true then Iu top t else t
def rB(S:Int->Bool)(top i:Int)(t:Tie):Tie:=if t.2.2.1=i/\both S t=true then Iu top t else t
def CL(S:Int->Bool)(top i:Int):List Tie->List Tie×Nat×Option Edge
 |[]=>([],0,none)
 |t::ts=>if t.2.2.2.1=true\/t.2.2.1≠i then(t::(CL S top i ts).1,(CL S top i ts).2)
  else if both S t=true then(Iu top t::(CL S top i ts).1,(CL S top i ts).2.1+1,(CL S top i ts).2.2)
  else if I6 S t then(El t::ts,0,some (ed t))
  else(t::(CL S top i ts).1,(CL S top i ts).2)
theorem ABh{S:Int->Bool}{t:Tie}(h:both S t=true):¬ I6 S t:=by unfold both at h;unfold I6;rw[AY3]at h;rw[h.1,h.2];simp
theorem yY(S:Int->Bool)(top i:Int):∀ ts:List Tie,(CL S top i ts).2.2=none->(CL S top i ts).1=ts.map (rO S top i)/\∀ t∈ts,t.2.2.2.1=false->t.2.2.1=i->¬ I6 S t:=by
 intro ts;induction ts with
  |nil=>intro _;exact⟨rfl,fun t h=>by cases h⟩
  |cons t ts k=>
   intro h;rw[CL]at h |-;by_cases c:t.2.2.2.1=true\/t.2.2.1≠i;rw[AZA c]at h |-;obtain⟨e,f⟩:=k h;have g:rO S top i t=t:=by unfold rO;rw[AY7];rintro⟨a,b,_⟩;rcases c with c|c;rw[c]at a;cases a;exact c b
   refine⟨by rw[AZN,g,e],fun x d a b => ?_⟩;rcases AZJ.1 d with rfl|d;rcases c with c|c;rw[c]at a;cases a;exact absurd b c;exact f x d a b;rw[AY7 c]at h |-;have n:t.2.2.2.1=false:=by cases l:t.2.2.2.1;rfl;exact absurd (.inl l) c
   have o:t.2.2.1=i:=AaR fun p=>c (.inr p);by_cases j:both S t=true;rw[AZA j]at h |-;obtain⟨e,f⟩:=k h;have g:rO S top i t=Iu top t:=by unfold rO;rw[AZA ⟨n,o,j⟩]
   refine⟨by rw[AZN,g,e],fun x d a b => ?_⟩;rcases AZJ.1 d with rfl|d;exact ABh j;exact f x d a b;rw[AY7 j]at h |-;by_cases m:I6 S t;rw[AZA m]at h;cases h;rw[AY7 m]at h |-;obtain⟨e,f⟩:=k h;have g:rO S top i t=t:=by unfold rO;rw[AY7 (fun l=>j l.2.2)]
   refine⟨by rw[AZN,g,e],fun x d a b => ?_⟩;rcases AZJ.1 d with rfl|d;exact m;exact f x d a b
theorem yX(S:Int->Bool)(top i:Int)(e:Edge):∀ ts:List Tie,(CL S top i ts).2.2=some e->∃ A x B,ts=A++x::B/\(CL S top i ts).1=A.map (rO S top i)++El x::B/\x.2.2.2.1=false/\x.2.2.1=i/\I6 S x/\e=ed x:=by
 intro ts;induction ts with
  |nil=>intro h;cases h
  |cons t ts k=>
   intro h;rw[CL]at h |-;by_cases c:t.2.2.2.1=true\/t.2.2.1≠i;rw[AZA c]at h |-;obtain⟨A,x,B,d,f,r⟩:=k h;have g:rO S top i t=t:=by unfold rO;rw[AY7];rintro⟨a,b,_⟩;rcases c with c|c;rw[c]at a;cases a;exact c b
   exact⟨t::A,x,B,by rw[d];rfl,by rw[f,AZN,g];rfl,r⟩;rw[AY7 c]at h |-;have n:t.2.2.2.1=false:=by cases l:t.2.2.2.1;rfl;exact absurd (.inl l) c
   have o:t.2.2.1=i:=AaR fun p=>c (.inr p);by_cases j:both S t=true;rw[AZA j]at h |-;obtain⟨A,x,B,d,f,r⟩:=k h;have g:rO S top i t=Iu top t:=by unfold rO;rw[AZA ⟨n,o,j⟩]
   exact⟨t::A,x,B,by rw[d];rfl,by rw[f,AZN,g];rfl,r⟩;rw[AY7 j]at h |-;by_cases m:I6 S t;rw[AZA m]at h |-;injection h with h;exact⟨[],t,ts,rfl,rfl,n,o,m,h.symm⟩;rw[AY7 m]at h |-;obtain⟨A,x,B,d,f,r⟩:=k h;have g:rO S top i t=t:=by unfold rO;rw[AY7 (fun l=>j l.2.2)]
   exact⟨t::A,x,B,by rw[d];rfl,by rw[f,AZN,g];rfl,r⟩
theorem ao(S:Int->Bool)(top i:Int)(t:Tie):ed (rT S top i t)=ed t:=by unfold rT;split<;>rfl
theorem AL0(S:Int->Bool)(top i:Int)(t:Tie):ed (rO S top i t)=ed t:=by unfold rO;split<;>rfl
theorem M8(S:Int->Bool)(top i:Int)(t:Tie):(rT S top i t).2.2.2.1=t.2.2.2.1:=by unfold rT;split<;>rfl
theorem mE(S:Int->Bool)(top i:Int)(t:Tie):(rO S top i t).2.2.2.1=t.2.2.2.1:=by unfold rO;split<;>rfl
theorem mD{S:Int->Bool}{top i:Int}{t:Tie}(h:t.2.2.1<=top):t.2.2.1<=(rT S top i t).2.2.1/\(rT S top i t).2.2.1<=top:=by unfold rT;split;show t.2.2.1<=min top (t.2.2.1+1)/\min top (t.2.2.1+1)<=top;omega;omega
theorem xo{S:Int->Bool}{top i:Int}{t:Tie}(h:t.2.2.1<=top):t.2.2.1<=(rO S top i t).2.2.1/\(rO S top i t).2.2.1<=top:=by unfold rO;split;show t.2.2.1<=min top (t.2.2.1+1)/\min top (t.2.2.1+1)<=top;omega;omega
theorem xn{S:Int->Bool}{top i:Int}{t:Tie}(h:t.2.2.2.1=true):rO S top i t=t:=by unfold rO;rw[AY7];rintro⟨a,_⟩;rw[h]at a;cases a
theorem IN{S:Int->Bool}{top i:Int}{t:Tie}(h:t.2.2.2.1=false):rT S top i t=t:=by unfold rT;rw[AY7];rintro⟨a,_⟩;rw[h]at a;cases a
theorem lJ{f:Tie->Tie}(k:Int)(b:∀ t,ed (f t)=ed t)(c:∀ t,(f t).2.2.2.1=t.2.2.2.1)(ts:List Tie)(a:∀ t∈ts,t.2.2.2.1=true->(k<=(f t).2.2.1↔k<=t.2.2.1)):trk (ts.map f) k=trk ts k:=by
 induction ts with
  |nil=>rfl
  |cons t ts d=>have:=d fun x e=>a x (by simp[e]);unfold trk at *;rw[AZN,AaF,AaF,c];have g:=a t (by simp);cases h:t.2.2.2.1;simp only[Bool.false_and,AZH,AZL];exact this;have hd:decide (k<=(f t).2.2.1)=decide (k<=t.2.2.1):=Aa4.2 (g h);rw[hd];simp only[Ab4];split;rw[AZN,AZN,b,this];exact this
section
variable {N:Nat} {top:Int} {O:List Tie} {S:Int->Bool} {i:Int} {c:Int}
theorem Re{k:Int}{e:Edge}:e∈trk (O.map (rT S top i)) k↔∃ t∈O,t.2.2.2.1=true/\k<=(rT S top i t).2.2.1/\ed t=e:=by rw[Hu];constructor;rintro⟨t,d,a,f,b⟩;obtain⟨x,g,rfl⟩:=AZG.1 d;rw[M8]at a;rw[ao]at b;exact⟨x,g,a,f,b⟩;rintro⟨t,d,a,f,b⟩;exact⟨_,AZG.2 ⟨t,d,rfl⟩,by rw[M8];exact a,f,by rw[ao];exact b⟩
theorem Dv{k:Int}(b:k<=i)(a:i<=top):trk (O.map (rT S top i)) k=trk O k:=by refine lJ k (ao S top i) (M8 S top i) O fun t _ _ => ?_;unfold rT;split;rename_i h;show k<=min top (t.2.2.1+1)↔_;omega;rfl
theorem qG{k:Int}(a:i+2<=k):trk (O.map (rT S top i)) k=trk O k:=by refine lJ k (ao S top i) (M8 S top i) O fun t _ _ => ?_;unfold rT;split;rename_i h;show k<=min top (t.2.2.1+1)↔_;omega;rfl
theorem My(b:∀ t∈O,t.2.2.1<=top)(k:Int):∀ e∈trk O k,e∈trk (O.map (rT S top i)) k:=by intro e d;obtain⟨t,a,f,h,g⟩:=Hu.1 d;have:=mD (S:=S) (i:=i) (b t a);exact Re.2 ⟨t,a,f,by omega,g⟩
variable (hS:∀ a b,Con (trk O i) a b->S a=S b)
include hS
theorem APg(o:∀ t∈O,t.2.2.1<=top)(p:i+1<=top){a b:Int}(h:Con (trk O i) a b)(d:S a=true):Con (trk (O.map (rT S top i)) (i+1)) a b:=by
 have g:∀ {a b:Int},Con (trk O i) a b->S a=true->Con (trk (O.map (rT S top i)) (i+1)) a b:=by
  intro a b h;induction h with
   |refl a=>intro _;exact .refl a
   |F8 e m=>
    intro d;obtain⟨t,f,n,u,rfl⟩:=Hu.1 m;have q:S t.2.1=true:=by have:=hS _ _ (.F8 _ m);exact this.symm.trans d
    have r:ed t∈trk (O.map (rT S top i)) (i+1):=by refine Re.2 ⟨t,f,n,?_,rfl⟩;by_cases j:t.2.2.1=i;unfold rT;rw[AZA ⟨n,j,by unfold both;rw[show S t.1=true from d,q];rfl⟩];show i+1<=min top (t.2.2.1+1);omega;have:=mD (S:=S) (i:=i) (o t f);omega
    exact .F8 _ r
   |symm h s=>intro d;exact(s (by rw[hS _ _ h];exact d)).symm
   |trans f _ k l=>intro d;exact(k d).trans (l (by rw[<- hS _ _ f];exact d))
 exact g h d
theorem uz(f:i<=top){a b:Int}(h:Con (trk (O.map (rT S top i)) (i+1)) a b)(d:S a=false):Con (trk O (i+1)) a b:=by
 have low:∀ {a b:Int},Con (trk (O.map (rT S top i)) (i+1)) a b->S a=S b:=fun h=>hS _ _ (by have:=h.sub (J2 (ts:=O.map (rT S top i)) (show i<=i+1 by omega));rw[Dv (Int.le_refl i) f]at this;exact this)
 have g:∀ {a b:Int},Con (trk (O.map (rT S top i)) (i+1)) a b->S a=false->Con (trk O (i+1)) a b:=by
  intro a b h;induction h with
   |refl a=>intro _;exact .refl a
   |F8 e o=>intro d;obtain⟨t,j,p,k,rfl⟩:=Re.1 o;refine .F8 _ (Hu.2 ⟨t,j,p,?_,rfl⟩);unfold rT at k;rw[AY7]at k;exact k;rintro⟨_,_,l⟩;unfold both at l;rw[show S t.1=false from d]at l;cases l
   |symm h q=>intro d;exact(q (by rw[low h];exact d)).symm
   |trans j _ m n=>intro d;exact(m d).trans (n (by rw[<- low j];exact d))
 exact g h d
end
theorem Fo.ACx{N:Nat}{l:List Edge}{e:Edge}(h:Fo N (l++[e]))(a:∀ x∈l,InE N x)(b:InE N e):¬ Con l e.1 e.2.1:=by intro c;have d:=ADt (N:=N) (l:=l) b;rw[AZA ((C8 _ _ _).2 c)]at d;have f:=APz l a;unfold Fo at h;rw[AZF,AaL]at h;omega
theorem SZ{N:Nat}{O:List Tie}(h:∀ x∈O,InE N (ed x))(k:Int):∀ e∈trk O k,InE N e:=by intro e a;obtain⟨t,b,_,_,rfl⟩:=Hu.1 a;exact h t b
theorem Co(A B:List Tie)(k:Int):trk (A++B) k=trk A k++trk B k:=by unfold trk;rw[AZ5,AaP]
theorem VT(S:Int->Bool)(top i:Int)(A:List Tie)(k:Int):trk (A.map (rO S top i)) k=trk A k:=
 lJ k (AL0 S top i) (mE S top i) A fun t _ h=>by rw[xn h]
structure Qn(HB:Prop)(N:Nat)(top:Int)(O:List Tie):Prop where
 lvl:∀ x∈O,0<=x.2.2.1/\x.2.2.1<=top
 ins:∀ x∈O,InE N (ed x)
 fo:Fo N (trk O 0)
 lie:∀ x∈O,x.2.2.2.1=false->Con (trk O x.2.2.1) x.1 x.2.1
 halv:HB->∀ k:Nat,(k:Int)<=top->∀ v:Nat,v<N->csz N (trk O k) v<=max 1 (N/2 ^ k)
structure LN(HB:Prop)(N:Nat)(top:Int)(t:Edge)(j:Int)(O:List Tie):Prop where
 lvl:∀ x∈O,0<=x.2.2.1/\x.2.2.1<=top
 ins:∀ x∈O,InE N (ed x)
 it:InE N t
 fo:Fo N (trk O 0++[t])
 lie1:∀ x∈O,x.2.2.2.1=false->j<=x.2.2.1->Con (trk O x.2.2.1) x.1 x.2.1
 lie2:∀ x∈O,x.2.2.2.1=false->x.2.2.1<j->Con (trk O x.2.2.1++[t]) x.1 x.2.1
 halv:HB->∀ k:Nat,(k:Int)<=top->∀ v:Nat,v<N->csz N (trk O k) v<=max 1 (N/2 ^ k)
 halt:HB->∀ k:Nat,(k:Int)<j->(k:Int)<=top->∀ v:Nat,v<N->csz N (trk O k++[t]) v<=max 1 (N/2 ^ k)
structure PU(N:Nat)(t:Edge)(i:Nat)(O:List Tie)(S:Int->Bool)(c:Nat):Prop where
 cN:c<N
 at_:t.1=(c:Int)\/t.2.1=(c:Int)
 side:∀ w:Nat,w<N->(S (w:Int)=true↔Con (trk O i) (c:Int) (w:Int))
 less:2*csz N (trk O i) (c:Int)<=csz N (trk O i) t.1+csz N (trk O i) t.2.1
section
variable {HB:Prop} {N:Nat} {top:Int} {t:Edge} {O:List Tie} {S:Int->Bool} {i c:Nat}
theorem PU.closed(d:PU N t i O S c)(hi:∀ x∈O,InE N (ed x)):∀ a b,Con (trk O i) a b->S a=S b:=by
 intro a b h;rcases Con.within (I:=fun a=>0<=a/\a<(N:Int)) (fun e f=>SZ hi i e f) h with rfl|⟨⟨g,m⟩,j,n⟩
 rfl;obtain⟨u,rfl⟩:=AY6 g;obtain⟨v,rfl⟩:=AY6 j;have k:=d.side u (by omega);have l:=d.side v (by omega);rw[AaX,k,l];exact⟨fun q=>q.trans h,fun q=>q.trans h.symm⟩
theorem PU.ADN(a:PU N t i O S c):S (c:Int)=true:=(a.side c a.cN).2 (.refl _)
theorem PU.con(d:PU N t i O S c){a b:Int}(e:0<=a/\a<(N:Int))(f:0<=b/\b<(N:Int))(g:S a=true)(h:S b=true):Con (trk O i) a b:=by obtain⟨u,rfl⟩:=AY6 e.1;obtain⟨v,rfl⟩:=AY6 f.1;exact((d.side u (by omega)).1 g).symm.trans ((d.side v (by omega)).1 h)
variable (hG:LN HB N top t ((i:Int)+1) O) (hit:(i:Int)<=top) (hL:PU N t i O S c)
include hG
theorem LN.apart(k:Nat):¬ Con (trk O (k:Int)) t.1 t.2.1:=fun h=>hG.fo.ACx (SZ hG.ins 0) hG.it (h.sub (J2 (by omega)))
include hit hL
theorem LN.half(q:HB)(a:(i:Int)+1<=top):csz N (trk O i) (c:Int)<=N/2 ^ (i+1):=by
 obtain⟨⟨b,h⟩,j,k⟩:=hG.it;obtain⟨u,d⟩:=AY6 b;have f:=APb (N:=N) (hG.apart i);have g:=hG.halt q i (by omega) hit u (by omega);rw[<- d,f]at g;have m:=AUN (N:=N) (l:=trk O i) hL.cN;have n:=hL.less;have e:N/2 ^ (i+1)=N/2 ^ i/2:=by rw[Nat.pow_succ,Nat.div_div_eq_div_mul]
 rw[e];omega
theorem LN.AVG(q:HB)(k:Nat)(f:(k:Int)<=top)(v:Nat)(e:v<N):csz N (trk (O.map (rT S top i)) k) v<=max 1 (N/2 ^ k):=by
 have l:=hL.closed hG.ins;have p:∀ x∈O,x.2.2.1<=top:=fun x m=>(hG.lvl x m).2;rcases AbU k (i+1)with h|rfl|h;rw[Dv (by omega) hit];exact hG.halv q k f v e;cases d:S (v:Int);refine AZu (c9 fun w n g => ?_) (hG.halv q (i+1) f v e);have:=uz l hit (a:=(v:Int)) (b:=(w:Int)) (by simpa using g) d;simpa using this;have o:csz N (trk (O.map (rT S top i)) ((i+1:Nat):Int)) v<=csz N (trk O i) (c:Int):=c9 fun w n g=>by have j:=g.sub (J2 (ts:=O.map (rT S top i)) (show(i:Int)<=((i+1:Nat):Int) by omega));rw[Dv (Int.le_refl _) hit]at j;exact((hL.side v e).1 d).trans j
 have:=hG.half hit hL q (by omega);omega;rw[qG (by omega)];exact hG.halv q k f v e
omit hL
theorem al{x:Tie}(a:x∈O.map (rT S top i))(h:x.2.2.2.1=false):x∈O:=by obtain⟨y,b,rfl⟩:=AZG.1 a;rw[M8]at h;rw[IN h];exact b
include hL
theorem LN.bn{x:Tie}(d:x∈O)(e:x.2.2.1=(i:Int))(a:both S x=true):Con (trk (O.map (rT S top i)) (min top (x.2.2.1+1))) x.1 x.2.1:=by have g:=hL.closed hG.ins;unfold both at a;rw[AY3]at a;have f:=hL.con (hG.ins x d).1 (hG.ins x d).2 a.1 a.2;by_cases b:(i:Int)+1<=top;rw[e,Int.min_eq_right b];exact APg g (fun x d=>(hG.lvl x d).2) b f a.1;rw[e,AbN (by omega),show top=(i:Int) by omega];have:=Dv (O:=O) (S:=S) (top:=top) (i:=(i:Int)) (k:=(i:Int)) (Int.le_refl _) hit;rw[show top=(i:Int) by omega]at this;rw[this];exact f
theorem LN.next(w:∀ x∈O.map (rT S top i),x.2.2.2.1=false->x.2.2.1=(i:Int)->¬ I6 S x):LN HB N top t (i:Int) ((O.map (rT S top i)).map (rO S top i)):=by
 have u:=hL.closed hG.ins;have A:∀ x∈O,x.2.2.1<=top:=fun x d=>(hG.lvl x d).2;have e:∀ x∈(O.map (rT S top i)).map (rO S top i),∃ y∈O,x=rO S top i (rT S top i y):=fun x d=>by obtain⟨z,J,rfl⟩:=AZG.1 d;obtain⟨y,b,rfl⟩:=AZG.1 J;exact⟨y,b,rfl⟩
 have B:∀ y∈O,y.2.2.1<=(rO S top i (rT S top i y)).2.2.1/\(rO S top i (rT S top i y)).2.2.1<=top:=fun y b=>by have I:=mD (S:=S) (i:=(i:Int)) (A y b);have n:=xo (S:=S) (i:=(i:Int)) I.2;omega
 have j:∀ x∈(O.map (rT S top i)).map (rO S top i),x.2.2.2.1=false->∃ y∈O,y.2.2.2.1=false/\x=rO S top i y:=fun x d h=>by obtain⟨y,b,rfl⟩:=e x d;rw[mE,M8]at h;exact⟨y,b,h,by rw[IN h]⟩
 refine⟨fun x d => ?_,fun x d => ?_,hG.it,?_,fun x d h C => ?_,fun x d h C => ?_,fun q k K v D => ?_,fun q k L E v D => ?_⟩;obtain⟨y,b,rfl⟩:=e x d;have:=B y b;have:=(hG.lvl y b).1;omega;obtain⟨y,b,rfl⟩:=e x d;rw[AL0,ao];exact hG.ins y b;rw[VT,Dv (by omega) hit];exact hG.fo;obtain⟨y,b,l,rfl⟩:=j x d h;rw[VT];by_cases o:y.2.2.1=(i:Int)/\both S y=true;have p:rO S top i y=Iu top y:=by unfold rO;rw[AZA ⟨l,o.1,o.2⟩]
 rw[p];exact hG.bn hit hL b o.1 o.2;have p:rO S top i y=y:=by unfold rO;rw[AY7 (fun q=>o ⟨q.2.1,q.2.2⟩)]
 rw[p]at C |-;by_cases hi:y.2.2.1=(i:Int)
 have f:¬ both S y=true:=fun q=>o ⟨hi,q⟩;have g:=w y (AZG.2 ⟨y,b,IN l⟩) l hi;have n:=hG.lie2 y b l (by omega);rw[hi,Dv (Int.le_refl _) hit];rw[hi]at n;unfold I6 at g;have g:=Abx.1 g;have a:S y.1=false/\S y.2.1=false:=by unfold both at f;rw[<- g]at f |-;cases F:S y.1;exact⟨rfl,rfl⟩;rw[F]at f;exact absurd rfl f
 rw[Con.snoc]at n;rcases n with n|⟨G,H⟩|⟨G,H⟩
 exact n;have r:=u _ _ G;have s:=u _ _ H;rcases hL.at_ with m|m;rw[m,hL.ADN,a.1]at r;cases r;rw[m,hL.ADN,a.2]at s;cases s;have r:=u _ _ G;have s:=u _ _ H;rcases hL.at_ with m|m;rw[m,hL.ADN,a.2]at s;cases s;rw[m,hL.ADN,a.1]at r;cases r;exact(hG.lie1 y b l (by omega)).sub (My A _);obtain⟨y,b,l,rfl⟩:=j x d h;have I:=xo (S:=S) (i:=(i:Int)) (A y b);have p:rO S top i y=y:=by unfold rO;rw[AY7 (fun q=>by have:=q.2.1;omega)]
 rw[p]at C |-;rw[VT,Dv (by omega) hit];exact hG.lie2 y b l (by omega);rw[VT];exact hG.AVG hit hL q k K v D;rw[VT,Dv (by omega) hit];exact hG.halt q k (by omega) E v D
theorem LN.found{A B:List Tie}{x:Tie}(o:O.map (rT S top i)=A++x::B)(W:x.2.2.2.1=false)(hi:x.2.2.1=(i:Int))(X:I6 S x):
  Qn HB N top (A.map (rO S top i)++El x::B)/\Con (trk (A.map (rO S top i)++El x::B) 0) t.1 t.2.1:=by
 have hS:=hL.closed hG.ins;have T:∀ x∈O,x.2.2.1<=top:=fun x X=>(hG.lvl x X).2;have Y:x∈O.map (rT S top i):=by rw[o];simp
 have r:x∈O:=al hG hit Y W;have s:∀ y∈A,y∈O.map (rT S top i):=fun y f=>by rw[o];simp[f]
 have u:∀ y∈B,y∈O.map (rT S top i):=fun y f=>by rw[o];simp[f]
 have E:∀ y∈O.map (rT S top i),0<=y.2.2.1/\y.2.2.1<=top:=fun y f=>by obtain⟨z,n,rfl⟩:=AZG.1 f;have:=mD (S:=S) (i:=(i:Int)) (T z n);have:=(hG.lvl z n).1;omega
 have F:∀ y∈O.map (rT S top i),InE N (ed y):=fun y f=>by obtain⟨z,n,rfl⟩:=AZG.1 f;rw[ao];exact hG.ins z n
 have Z:trk [x]=fun _=>[]:=by funext k;unfold trk;rw[AaF,W];rfl
 have hat:∀ k,trk [El x] k=if k<=(i:Int)then [ed x]else []:=by intro k;unfold trk;have G:(El x).2.2.1=(i:Int):=hi;have H:(El x).2.2.2.1=true:=rfl;rw[AaF,G,H];by_cases j:k<=(i:Int);rw[AZA j,AY0 j];rfl;rw[AY7 j,AYz j];rfl
 have U:∀ k,trk (O.map (rT S top i)) k=trk A k++trk B k:=by intro k;rw[o,show A++x::B=A++([x]++B)from rfl,Co,Co,Z,AZk]
 have m:∀ k,trk (A.map (rO S top i)++El x::B) k=trk A k++((if k<=(i:Int)then [ed x]else [])++trk B k):=by intro k;rw[show A.map (rO S top i)++El x::B=A.map (rO S top i)++([El x]++B)from rfl,Co,Co,VT,hat]
 have g:∀ k,∀ e∈trk (O.map (rT S top i)) k,e∈trk (A.map (rO S top i)++El x::B) k:=by intro k e d;rw[U]at d;rw[m];rcases AY5.1 d with d|d;exact AY5.2 (.inl d);exact AY5.2 (.inr (AY5.2 (.inr d)))
 have I:∀ k,k<=(i:Int)->ed x∈trk (A.map (rO S top i)++El x::B) k:=by intro k j;rw[m,AZA j];simp
 have C:=hG.lie2 x r W (by omega);rw[hi]at C;have ht:Con (trk O i++[ed x]) t.1 t.2.1:=by
  have V:∀ {a b:Int},Con (trk O i) a b->Con (trk O i++[ed x]) a b:=fun c=>c.sub fun e d=>AY5.2 (.inl d);have J:Con (trk O i++[ed x]) x.1 x.2.1:=.F8 (l:=trk O i++[ed x]) (ed x) (by simp);rw[Con.snoc]at C;rcases C with C|⟨G,H⟩|⟨G,H⟩
  exact absurd (hS _ _ C) X;exact((V G).symm.trans J).trans (V H).symm;exact((V H).trans J.symm).trans (V G)
 have K:∀ k,k<=(i:Int)->Con (trk (A.map (rO S top i)++El x::B) k) t.1 t.2.1:=by intro k j;refine ht.sub fun e d => ?_;rcases AY5.1 d with d|d;exact J2 j _ (g _ _ (My T _ _ d));rw[AZW]at d;subst d;exact I k j
 refine⟨⟨fun y f => ?_,fun y f => ?_,?_,fun y f h => ?_,fun q k j v hv => ?_⟩,K 0 (by omega)⟩;rcases AY5.1 f with f|f;obtain⟨z,n,rfl⟩:=AZG.1 f;have h1:=E z (s z n);have:=xo (S:=S) (i:=(i:Int)) h1.2;omega;rcases AZJ.1 f with rfl|f;exact hG.lvl x r;exact E y (u y f);rcases AY5.1 f with f|f;obtain⟨z,n,rfl⟩:=AZG.1 f;rw[AL0];exact F z (s z n);rcases AZJ.1 f with rfl|f;exact hG.ins x r;exact F y (u y f);rw[m,AZA (by omega)];have L:=U 0;rw[Dv (by omega) hit]at L;have hp:(trk A 0++([ed x]++trk B 0)).Perm (trk O 0++[ed x]):=by rw[L,Aby];exact List.Perm.append_left _ List.perm_append_comm
 refine Fo.perm ?_ hp.symm;have M:=hG.fo;have hcc:cc N (trk O 0++[ed x])=cc N (trk O 0++[t]):=ABf fun a b=>by have m0:=J2 (ts:=O) (show(0:Int)<=(i:Int) by omega);constructor;intro c;refine c.cut fun e d => ?_;rcases AY5.1 d with d|d;exact .F8 _ (AY5.2 (.inl d));rw[AZW]at d;subst d;refine C.sub fun e d => ?_;rcases AY5.1 d with d|d;exact AY5.2 (.inl (m0 _ d));exact AY5.2 (.inr d);intro c;refine c.cut fun e d => ?_;rcases AY5.1 d with d|d;exact .F8 _ (AY5.2 (.inl d));rw[AZW]at d;subst d;refine ht.sub fun e d => ?_;rcases AY5.1 d with d|d;exact AY5.2 (.inl (m0 _ d));exact AY5.2 (.inr d)
 unfold Fo at M |-;rw[hcc,AZF]at *;exact M;-- others
 have P:∀ y:Tie,y∈O->y.2.2.2.1=false->Con (trk (A.map (rO S top i)++El x::B) y.2.2.1) y.1 y.2.1:=by intro y f h;by_cases hle:y.2.2.1<=(i:Int);refine(hG.lie2 y f h (by omega)).cut fun e d => ?_;rcases AY5.1 d with d|d;exact .F8 _ (g _ _ (My T _ _ d));rw[AZW]at d;subst d;exact K _ hle;exact(hG.lie1 y f h (by omega)).sub fun e d=>g _ _ (My T _ _ d)
 rcases AY5.1 f with f|f;obtain⟨z,n,rfl⟩:=AZG.1 f;rw[mE]at h;have Q:=al hG hit (s z n) h;by_cases R:z.2.2.1=(i:Int)/\both S z=true;have d:rO S top i z=Iu top z:=by unfold rO;rw[AZA ⟨h,R.1,R.2⟩]
 rw[d];exact(hG.bn hit hL Q R.1 R.2).sub (g _);have d:rO S top i z=z:=by unfold rO;rw[AY7 (fun q=>R ⟨q.2.1,q.2.2⟩)]
 rw[d];exact P z Q h;rcases AZJ.1 f with rfl|f;cases h;exact P y (al hG hit (u y f) h) h;by_cases p:(k:Int)<=(i:Int);refine AZu (c9 fun w hw hc => ?_) (hG.halt q k (by omega) j v hv);refine hc.cut fun e d => ?_;rw[m,AZA p]at d;have D:=U (k:Int);rw[Dv p hit]at D;rcases AY5.1 d with d|d;exact .F8 _ (AY5.2 (.inl (by rw[D];simp[d])));rcases AY5.1 d with d|d;rw[AZW]at d;subst d;refine C.sub fun e d => ?_;rcases AY5.1 d with d|d;exact AY5.2 (.inl (J2 p _ d));exact AY5.2 (.inr d);exact .F8 _ (AY5.2 (.inl (by rw[D];simp[d])));have:trk (A.map (rO S top i)++El x::B) (k:Int)=trk (O.map (rT S top i)) (k:Int):=by rw[m,AY7 p,U];rfl
 rw[this];exact hG.AVG hit hL q k j v hv
end
theorem Qn.AXz{p:Prop}{N:Nat}{top:Int}{P Q:List Tie}{t:Tie}(h:Qn p N top (P++t::Q))(r:t.2.2.2.1=true):LN p N top (ed t) (t.2.2.1+1) (P++Q):=by
 have j:∀ x∈P++Q,x∈P++t::Q:=fun x b=>by rcases AY5.1 b with b|b;simp[b];simp[b]
 have d:∀ k,trk (P++t::Q) k=trk P k++((if k<=t.2.2.1 then [ed t]else [])++trk Q k):=by intro k;rw[show P++t::Q=P++([t]++Q)from rfl,Co,Co];congr 2;unfold trk;rw[AaF,r];by_cases g:k<=t.2.2.1;rw[AZA g,AY0 g];rfl;rw[AY7 g,AYz g];rfl
 have i:∀ k e,e∈trk (P++t::Q) k->e∈trk (P++Q) k++[ed t]:=by intro k e a;rw[d]at a;rw[Co];rcases AY5.1 a with a|a;simp[a];rcases AY5.1 a with a|a;split at a;rw[AZW]at a;subst a;simp;cases a;simp[a]
 have f:∀ k e,e∈trk (P++Q) k->e∈trk (P++t::Q) k:=by intro k e a;rw[Co]at a;rw[d];rcases AY5.1 a with a|a;simp[a];simp[a]
 have l:=h.lvl t (by simp);refine⟨fun x b=>h.lvl x (j x b),fun x b=>h.ins x (j x b),h.ins t (by simp),?_,fun x b m s => ?_,fun x b m s=>(h.lie x (j x b) m).sub (i _),fun q k g v n=>AZu (c9 fun w u c=>c.sub (f k)) (h.halv q k g v n),fun q k y o v n=>AZu (c9 fun w u c => ?_) (h.halv q k o v n)⟩;refine h.fo.perm ?_;rw[d,AZA l.1,Co,Aby];exact List.Perm.append_left _ List.perm_append_comm;have:=h.lie x (j x b) m;rw[d,AY7 (by omega)]at this;rw[Co];exact this;refine c.sub fun e a => ?_;rcases AY5.1 a with a|a;exact f k e a;rw[AZW]at a;subst a;rw[d,AZA (by omega)];simp
theorem LN.end{a:Prop}{N:Nat}{top:Int}{t:Edge}{O:List Tie}(h:LN a N top t 0 O):Qn a N top O/\¬ Con (trk O 0) t.1 t.2.1:=by refine⟨⟨h.lvl,h.ins,h.fo.front (SZ h.ins 0) (fun e b=>by rw[AZW]at b;subst b;exact h.it),fun x c d=>h.lie1 x c d (h.lvl x c).1,h.halv⟩,h.fo.ACx (SZ h.ins 0) h.it⟩
theorem Qn.other{d:Prop}{N:Nat}{top:Int}{P Q:List Tie}{t:Tie}(h:Qn d N top (P++t::Q))(e:t.2.2.2.1=false):Qn d N top (P++Q):=by
 have c:∀ x∈P++Q,x∈P++t::Q:=fun x a=>by rcases AY5.1 a with a|a;simp[a];simp[a]
 have b:∀ k,trk (P++t::Q) k=trk (P++Q) k:=by intro k;rw[show P++t::Q=P++([t]++Q)from rfl,Co,Co,Co];congr 1;unfold trk;rw[AaF,e];rfl
 refine⟨fun x a=>h.lvl x (c x a),fun x a=>h.ins x (c x a),by rw[<- b];exact h.fo,fun x a f=>by rw[<- b];exact h.lie x (c x a) f,fun q k g v i=>by rw[<- b];exact h.halv q k g v i⟩
theorem Qn.span{i:Prop}{N:Nat}{top:Int}{O:List Tie}(h:Qn i N top O)(a b:Int):Con (O.map ed) a b↔Con (trk O 0) a b:=by constructor;intro c;refine c.cut fun e f => ?_;obtain⟨x,d,rfl⟩:=AZG.1 f;cases g:x.2.2.2.1;exact(h.lie x d g).sub (J2 (h.lvl x d).1);exact .F8 _ (Hu.2 ⟨x,d,g,(h.lvl x d).1,rfl⟩);intro c;refine c.sub fun e f => ?_;obtain⟨x,j,_,_,rfl⟩:=Hu.1 f;exact AZG.2 ⟨x,j,rfl⟩
theorem AQH{σ ρ:Type}{step:σ->Option (σ⊕ρ)}(st:Nat->Nat->σ)(P:Nat->Bool)(fin:Nat->ρ)(c hi:Nat)
  (h:∀ i j,c<=i->i<j->j<=hi->step (st i j)=some (.inl (if P ((i+j)/2)=true then st ((i+j)/2+1) j else st i ((i+j)/2))))
  (p:∀ i,c<=i->i<=hi->step (st i i)=some (.inr (fin i)))
  (mono:∀ x y,c<=x->x<=y->y<hi->P y=true->P x=true) :
  ∀ (m i j n:Nat),j-i=m->c<=i->i<=j->j<=hi->m<n->(∀ x,c<=x->x<i->P x=true)->(∀ x,j<=x->x<hi->P x=false) ->
  ∃ k,c<=k/\k<=hi/\(∀ x,c<=x->x<k->P x=true)/\(∀ x,k<=x->x<hi->P x=false)/\BA step n (st i j)=some (fin k):=by
 intro m;induction m using Nat.strongRecOn with
  |ind m g=>
   intro i j n t hi q d u l o;obtain⟨n,rfl⟩:∃ k,n=k+1:=⟨n-1,by omega⟩
   by_cases r:i=j;subst r;exact⟨i,hi,d,l,o,by rw[BA,p i hi d]⟩;have f:i<j:=by omega
   rw[BA,h i j hi f d];by_cases e:P ((i+j)/2)=true;rw[AZA e];exact g (j-((i+j)/2+1)) (by omega) ((i+j)/2+1) j n rfl (by omega) (by omega) d (by omega) (fun x a b=>mono x ((i+j)/2) a (by omega) (by omega) e) o;rw[AY7 e];refine g ((i+j)/2-i) (by omega) i ((i+j)/2) n rfl hi (by omega) (by omega) (by omega) l (fun x a b => ?_);cases s:P x;rfl;exact absurd (mono ((i+j)/2) x (by omega) a b s) e
theorem AYt{σ ρ:Type}{step:σ->Option (σ⊕ρ)}(st:Nat->Nat->σ)(P:Nat->Bool)(fin:Nat->ρ)(c hi:Nat)(d:c<=hi)(f:hi<9223372036854775808)
  (h:∀ i j,c<=i->i<j->j<=hi->step (st i j)=some (.inl (if P ((i+j)/2)=true then st ((i+j)/2+1) j else st i ((i+j)/2))))
  (e:∀ i,c<=i->i<=hi->step (st i i)=some (.inr (fin i)))
  (mono:∀ x y,c<=x->x<=y->y<hi->P y=true->P x=true) :
  ∃ k,c<=k/\k<=hi/\(∀ x,c<=x->x<k->P x=true)/\(∀ x,k<=x->x<hi->P x=false)/\A_ step many (st c hi)=some (fin k):=by
 have g:9223372036854775808<many:=by simp only[many];omega
 rw[BO];exact AQH st P fin c hi h e mono (hi-c) c hi many rfl (AY8 _) d (AY8 _) (by omega) (fun x a b=>by omega) (fun x a b=>by omega)
end Go.Pev.Pl
end
section
section
namespace Go.Pev.Pl
structure UF(N:Nat)(s:List Int)(c:Int->Int):Prop where
 len:s.length=N
 lo:∀ k,k<N->0<=s.getD k 0/\s.getD k 0<=(k:Int)
 par:∀ k,k<N->c (s.getD k 0)=c (k:Int)
 root:∀ k,k<N->s.getD k 0=(k:Int)->c (k:Int)=(k:Int)
 le:∀ k,k<N->0<=c (k:Int)/\c (k:Int)<=(k:Int)
theorem QB(a b:Int):Cl a b=min a b:=by unfold Cl;split<;>omega
theorem TU(a b:Int):imax a b=max a b:=by unfold imax;split<;>omega
theorem M7{N i x:Nat}(h:(List.range N)[i]? = some x):x=i:=by rw[AZM]at h;obtain⟨b,a⟩:=h;simpa using a.symm
end Go.Pev.Pl
end
section
namespace Go.Pev.Pl
def sh(n:Int):Prop:=0<=n/\n<=65535
instance (n:Int):Decidable (sh n):=inferInstanceAs (Decidable (_/\_))
def tw(n:Int):List Int:=[n/256,n % 256]
theorem AIT{α β:Type}(g:β->α):∀ (xs:List β) (a:List α),xs.foldl (fun a x=>a++[g x]) a=a++xs.map g:=by
 intro xs;induction xs with
  |nil=>intro a;simp
  |cons x xs b=>intro a;rw[AZm,b];simp
end Go.Pev.Pl
end
section
namespace Go.Pev.Pl
abbrev Res:=Int×Int×List Int×Unit
def val(r:Res):Prop:=(0<=r.1/\r.1<=255)/\sh r.2.1/\sh (r.2.2.1.length:Int)/\∀ x∈r.2.2.1,sh x
instance (r:Res):Decidable (val r):=inferInstanceAs (Decidable (_/\_/\_/\_))
def enc(r:Res):List Int:=r.1::(tw r.2.1++(tw (r.2.2.1.length:Int)++r.2.2.1.flatMap tw))
end Go.Pev.Pl
end
section
namespace Go.Pev.Pl
theorem QC(a:Int):ieq a a=true:=by rw[B1];simp
end Go.Pev.Pl
end
section
namespace Go.Pev.Pl
open Go.RowKit Tok
section
variable {n:Int} {rings:List (List Int)}
theorem tz{l:List Edge}{out:List Int}(h:FC n rings l)(c:fQ n l out){A:List Int}{u:Int}(d:A∈rings)(a:In n u)(e:u∈A):hd A=cl out u:=by have b:=h.fr.rg A d;have f:=UK b;have g:=nW b.2.1;have i:Con l u (hd A):=(h.sam u (hd A) a f).1 ⟨A,d,e,g⟩;have q:=c.least u (hd A) a f i;have j:=c.isin u a;obtain⟨K,k,m,o⟩:=(h.sam u _ a j).2 (c.con u a);have:=h.fr.one d k a.2.2.2 e m;subst this;have p:=(HU b.2.1).2 _ o;rw[b.2.2.1]at p;have:hd A=A.headD 0:=rfl;omega
end
end Go.Pev.Pl
end
section
namespace Go.Pev.Pl
def LR(n:Nat):Int:=((@Sc idI ((n:Int),())).getD (0,())).1
theorem AYi:((List.range 65).all fun k=>decide (@Sc idI ((k:Int),())=some (LR k,())))=true:=by kernel_rfl
theorem AXu:((List.range 65).all fun k=>decide (@mq idI ((k:Int),())=some (LR k,())))=true:=by kernel_rfl
theorem AEh(n:Nat)(h:n<=64):Sc ((n:Int),())=some (LR n,()):=by rw[show Sc ((n:Int),()) = @Sc idI ((n:Int),())from AaB (fun i=>@Sc i ((n:Int),())) Oo];exact AbB (AZR.1 AYi n (by simp;omega))
theorem bh(n:Nat)(h:n<=64):mq ((n:Int),())=some (LR n,()):=by rw[show mq ((n:Int),()) = @mq idI ((n:Int),())from AaB (fun i=>@mq i ((n:Int),())) Oo];exact AbB (AZR.1 AXu n (by simp;omega))
def R8(a b:Int):Int:=if a<b then -1 else if b<a then 1 else 0
theorem Nf(a b:Int):Eb (a,b,())=some (R8 a b,()):=by rw[Ie,Hi];simp only[K7,M',QC,AY4];unfold R8;rw[BG,BG];by_cases h:a<b;rw[AY0 h,AZA h];rw[AYz h,AY7 h];by_cases c:b<a;rw[AY0 c,AZA c];rw[AYz c,AY7 c]
theorem mZ(a b:Int):orI ([a,b],())=some (if a=0 then b else a,()):=by
 rw[ma,tD]
 have e:=Q0 (step:=KF) (fun i=>(0,[a,b],A3 [a,b],(i:Int),())) [a,b] (fun x => !decide (x=0)) (fun i=>.inl ([a,b].getD i 0,())) (.inr (.inl (0,()))) (by simp)
  (fun i x hi c=>by
   rw[KF,A9,A4,AY0 hi]
   simp only[BB c,BL]
   have f:i<2:=hi
   rw[A6 (by omega)]
   have g:[a,b].getD i 0=x:=by rw[AZK,c];rfl
   rw[g]
   by_cases h:x=0
   ·simp[h]
   ·simp[h])
  (by rw[KF,A9,A4,AYz (by omega)])
 have j:A_ KF many (0,[a,b],A3 [a,b],(0:Int),())=_:=e;rw[j];by_cases h:a=0;by_cases d:b=0;simp[h,d];simp[h,d,List.findIdx_cons];simp[h,List.findIdx_cons]
theorem m8(p x:Tie):∃ y,Fc (p,x,())=some (y,())/\ile 0 y = !decide (ahead p x):=by
 rw[Ot,NH];simp only[Nf,mZ];refine⟨_,rfl,?_⟩;rw[BQ];by_cases h:ahead p x;rw[AY0 h];unfold ahead at h;unfold R8;rw[AYz];· rfl
 split<;>split<;>(try split)<;>omega;rw[AYz h];unfold ahead at h;unfold R8;rw[AY0];· rfl
 split<;>split<;>(try split)<;>omega
def N0(N:Nat)(ts:List Tie)(i:Nat):Prop:=
 0<=(ts.getD i zT).1/\(ts.getD i zT).1<(ts.getD i zT).2.1/\(ts.getD i zT).2.1<(N:Int)/\0<=(ts.getD i zT).2.2.1/\(ts.getD i zT).2.2.1<=LR N/\(i=0\/ahead (ts.getD (i-1) zT) (ts.getD i zT))
instance (N:Nat)(ts:List Tie)(i:Nat):Decidable (N0 N ts i):=inferInstanceAs (Decidable (_/\_/\_/\_/\_/\_))
def trs(ts:List Tie)(k:Nat):List Edge:=(List.range k).foldl (fun a i=>if(ts.getD i zT).2.2.2.1=true then a++[ed (ts.getD i zT)]else a) []
theorem p8{α β ρ:Type}(P:β->Prop)[DecidablePred P](g:β->α->α)(fin:α->ρ)(b:ρ):∀ (xs:List β) (a:α),walk (fun x a=>if P x then .inl (g x a)else .inr b) fin xs a=if ∀ x∈xs,P x then fin (xs.foldl (fun a x=>g x a) a)else b:=by
 intro xs;induction xs with
  |nil=>intro a;simp[walk]
  |cons x xs c=>intro a;rw[walk];by_cases h:P x;rw[AZA h];simp only[];rw[c];simp[h];rw[AY7 h];simp[h]
theorem Zz(ts:List Tie)(k:Nat):trs ts (k+1)=if(ts.getD k zT).2.2.2.1=true then trs ts k++[ed (ts.getD k zT)]else trs ts k:=by unfold trs;rw[AZo,Aac];rfl
theorem lI(ts:List Tie):∀ k,(trs ts k).length<=k:=by
 intro k;induction k with
  |zero=>exact AY8 _
  |succ k a=>rw[Zz];split;rw[AZF];simp;omega;omega
theorem AQt(ts:List Tie)(e:Edge):∀ k,e∈trs ts k->∃ i,i<k/\e=ed (ts.getD i zT):=by
 intro k;induction k with
  |zero=>intro h;simp[trs]at h
  |succ k b=>intro h;rw[Zz]at h;split at h;rcases AY5.1 h with h|h;obtain⟨i,c,a⟩:=b h;exact⟨i,by omega,a⟩;simp only[AZW]at h;exact⟨k,by omega,h⟩;obtain⟨i,c,a⟩:=b h;exact⟨i,by omega,a⟩
def oks(N:Nat)(ts:List Tie):Prop:=∀ i∈List.range ts.length,N0 N ts i
instance (N:Nat)(ts:List Tie):Decidable (oks N ts):=inferInstanceAs (Decidable (∀ i∈List.range ts.length,N0 N ts i))
theorem tR(N:Nat)(D:N<=64)(ts:List Tie)(E:ts.length<=400):
  A_ HV many ((N:Int),ts,LR N,ts,A3 ts,(0:Int),())=some (if oks N ts then .inr (.inl ((N:Int),ts,()))else .inl (false,())):=by
 have e:=Er (step:=HV) (fun i (_:Unit)=>((N:Int),ts,LR N,ts,A3 ts,(i:Int),())) (List.range ts.length) (fun i a=>if N0 N ts i then .inl a else .inr (.inl (false,()))) (fun _=>.inr (.inl ((N:Int),ts,()))) (fun _ _=>True) (by simp;omega)
  (fun i x a hi w _=>by
   have:=M7 w
   subst this
   rw[AZd]at hi
   have step:HV ((N:Int),ts,LR N,ts,A3 ts,(x:Int),())=if N0 N ts x then some (.inl ((N:Int),ts,LR N,ts,A3 ts,((x+1:Nat):Int),()))else some (.inr (.inl (false,()))):=by
    rw[HV,A9,A4,AY0 hi]
    simp only[Cd zT hi]
    obtain⟨t,n⟩:∃ t,ts.getD x zT=t:=⟨_,rfl⟩
    have b:N0 N ts x↔(0<=t.1/\t.1<t.2.1/\t.2.1<(N:Int)/\0<=t.2.2.1/\t.2.2.1<=LR N/\(x=0\/ahead (ts.getD (x-1) zT) t)):=by unfold N0;rw[n]
    rw[n]
    rw[BG,BQ,BQ,BG,BG]
    by_cases o:t.1<0
    ·rw[AY0 o,AY7 (fun h=>by obtain⟨d,f,g,j,k,_⟩:=b.1 h;omega)]
    rw[AYz o]
    by_cases p:t.2.1<=t.1
    ·rw[AY0 p,AY7 (fun h=>by obtain⟨d,f,g,j,k,_⟩:=b.1 h;omega)]
    rw[AYz p]
    by_cases q:(N:Int)<=t.2.1
    ·rw[AY0 q,AY7 (fun h=>by obtain⟨d,f,g,j,k,_⟩:=b.1 h;omega)]
    rw[AYz q]
    by_cases s:t.2.2.1<0
    ·rw[AY0 s,AY7 (fun h=>by obtain⟨d,f,g,j,k,_⟩:=b.1 h;omega)]
    rw[AYz s]
    by_cases u:LR N<t.2.2.1
    ·rw[AY0 u,AY7 (fun h=>by obtain⟨d,f,g,j,k,_⟩:=b.1 h;omega)]
    rw[AYz u]
    simp only[]
    rw[A6 (by omega),BG]
    by_cases v:x=0
    ·subst v
     rw[AYz (by omega),AZA (b.2 ⟨by omega,by omega,by omega,by omega,by omega,.inl rfl⟩)]
    ·rw[AY0 (by omega),BI (by omega),show((x:Int)-1)=((x-1:Nat):Int) by omega]
     simp only[Cd zT (show x-1<ts.length by omega)]
     obtain⟨y,z,A⟩:=m8 (ts.getD (x-1) zT) t
     have m:Fc (((ts.getD (x-1) zT).1,((ts.getD (x-1) zT).2.1,((ts.getD (x-1) zT).2.2.1,((ts.getD (x-1) zT).2.2.2.1,())))),(t.1,(t.2.1,(t.2.2.1,(t.2.2.2.1,())))),())=some (y,()):=z
     simp only[m,A]
     by_cases l:ahead (ts.getD (x-1) zT) t
     ·rw[AY0 l,AZA (b.2 ⟨by omega,by omega,by omega,by omega,by omega,.inr l⟩)]
      rfl
     ·rw[AYz l,AY7 (fun h=>by rcases(b.1 h).2.2.2.2.2 with h|h;exact v h;exact l h)]
      rfl
   by_cases h:N0 N ts x
   ·rw[AZA h]at step |-
    refine⟨fun B c => ?_,fun r c=>(by cases c)⟩
    cases c
    exact⟨step,trivial⟩
   ·rw[AY7 h]at step |-
    refine⟨fun B c=>(by cases c),fun r c => ?_⟩
    cases c
    exact step)
  (fun a _=>by rw[HV,AZd,A9,A4,AYz (by omega)]) () trivial
 have C:A_ HV many ((N:Int),ts,LR N,ts,A3 ts,(0:Int),())=_:=e;rw[C,p8 (N0 N ts) (fun _ a=>a)];rfl
theorem Su(N:Nat)(A:N<=64)(ts:List Tie)(F:ts.length<=400):
  A_ Fv many ((N:Int),ts,[],(0:Int),())=some (if oks N ts then .inr (.inl ((N:Int),ts,trs ts ts.length,()))else .inl (false,())):=by
 have e:=Er (step:=Fv) (fun i (a:List Edge)=>((N:Int),ts,a,(i:Int),())) (List.range ts.length) (fun i a=>if N0 N ts i then .inl (if(ts.getD i zT).2.2.2.1=true then a++[ed (ts.getD i zT)]else a)else .inr (.inl (false,()))) (fun a=>.inr (.inl ((N:Int),ts,a,()))) (fun i a=>a.length<=i) (by simp;omega)
  (fun i x a hi B G=>by
   have:=M7 B
   subst this
   rw[AZd]at hi
   have step:Fv ((N:Int),ts,a,(x:Int),())=if N0 N ts x then some (.inl ((N:Int),ts,if(ts.getD x zT).2.2.2.1=true then a++[ed (ts.getD x zT)]else a,((x+1:Nat):Int),()))else some (.inr (.inl (false,()))):=by
    rw[Fv,A9,A4,AY0 hi]
    simp only[Cd zT hi,AEh N A]
    obtain⟨t,o⟩:∃ t,ts.getD x zT=t:=⟨_,rfl⟩
    have b:N0 N ts x↔(0<=t.1/\t.1<t.2.1/\t.2.1<(N:Int)/\0<=t.2.2.1/\t.2.2.1<=LR N/\(x=0\/ahead (ts.getD (x-1) zT) t)):=by unfold N0;rw[o]
    rw[o]
    rw[BG,BQ,BQ,BG,BG]
    by_cases q:t.1<0
    ·rw[AY0 q,AY7 (fun h=>by obtain⟨g,j,k,l,m,_⟩:=b.1 h;omega)]
    rw[AYz q]
    by_cases s:t.2.1<=t.1
    ·rw[AY0 s,AY7 (fun h=>by obtain⟨g,j,k,l,m,_⟩:=b.1 h;omega)]
    rw[AYz s]
    by_cases u:(N:Int)<=t.2.1
    ·rw[AY0 u,AY7 (fun h=>by obtain⟨g,j,k,l,m,_⟩:=b.1 h;omega)]
    rw[AYz u]
    by_cases v:t.2.2.1<0
    ·rw[AY0 v,AY7 (fun h=>by obtain⟨g,j,k,l,m,_⟩:=b.1 h;omega)]
    rw[AYz v]
    by_cases w:LR N<t.2.2.1
    ·rw[AY0 w,AY7 (fun h=>by obtain⟨g,j,k,l,m,_⟩:=b.1 h;omega)]
    rw[AYz w]
    simp only[A9]
    have c:fits ((a.length:Int)+(([(t.1,t.2.1,())]:List Edge).length:Int))=true:=CN (by simp;omega)
    rw[A6 (by omega),BG]
    by_cases C:x=0
    ·subst C
     rw[AYz (by omega),AZA (b.2 ⟨by omega,by omega,by omega,by omega,by omega,.inl rfl⟩)]
     cases f:t.2.2.2.1
     ·simp
     ·simp only[c]
      simp[ed,Bi]
    ·rw[AY0 (by omega),BI (by omega),show((x:Int)-1)=((x-1:Nat):Int) by omega]
     simp only[Cd zT (show x-1<ts.length by omega),BL]
     generalize ts.getD (x-1) zT=p at b |-
     rw[BG,BQ]
     by_cases y:t.1<p.1
     ·rw[AY0 y,AY7 (fun h=>by rcases(b.1 h).2.2.2.2.2 with h|h|h<;>omega)]
     rw[AYz y]
     by_cases n:p.1=t.1
     ·rw[AY0 n]
      by_cases z:t.2.1<=p.2.1
      ·rw[AY0 z,AY7 (fun h=>by rcases(b.1 h).2.2.2.2.2 with h|h|h<;>omega)]
      rw[AYz z,AZA (b.2 ⟨by omega,by omega,by omega,by omega,by omega,.inr (.inr ⟨n,by omega⟩)⟩)]
      cases f:t.2.2.2.1
      ·simp
      ·simp only[c]
       simp[ed,Bi]
     ·rw[AYz n,AZA (b.2 ⟨by omega,by omega,by omega,by omega,by omega,.inr (.inl (by omega))⟩)]
      cases f:t.2.2.2.1
      ·simp
      ·simp only[c]
       simp[ed,Bi]
   by_cases h:N0 N ts x
   ·rw[AZA h]at step |-
    refine⟨fun D d => ?_,fun r d=>(by cases d)⟩
    cases d
    refine⟨step,?_⟩
    split
    ·rw[AZF];simp;omega
    ·omega
   ·rw[AY7 h]at step |-
    refine⟨fun D d=>(by cases d),fun r d => ?_⟩
    cases d
    exact step)
  (fun a _=>by rw[Fv,AZd,A9,A4,AYz (by omega)]) [] (AY8 _)
 have E:A_ Fv many ((N:Int),ts,[],(0:Int),())=_:=e;rw[E,p8 (N0 N ts) (fun i a=>if(ts.getD i zT).2.2.2.1=true then a++[ed (ts.getD i zT)]else a)];rfl
end Go.Pev.Pl
end
end
section
section
namespace Go.Pev.Pl
theorem ACu{N:Nat}{ts:List Tie}(c:N<=64){i:Nat}(h:N0 N ts i):In (N:Int) (ed (ts.getD i zT)).1/\In (N:Int) (ed (ts.getD i zT)).2.1:=by obtain⟨a,d,b,_⟩:=h;exact⟨⟨by omega,by omega,a,by show(ts.getD i zT).1<_;omega⟩,⟨by omega,by omega,by show 0<=(ts.getD i zT).2.1;omega,b⟩⟩
theorem wg{N:Nat}{ts:List Tie}(a:N<=64)(h:oks N ts):∀ e∈trs ts ts.length,In (N:Int) e.1/\In (N:Int) e.2.1:=by intro e b;obtain⟨i,hi,rfl⟩:=AQt ts e _ b;exact ACu a (h i (by simp[hi]))
theorem AW4{N:Nat}{ts:List Tie}(a:N<=64)(h:oks N ts):∀ e∈ts.map ed,In (N:Int) e.1/\In (N:Int) e.2.1:=by intro e b;obtain⟨t,c,rfl⟩:=AZG.1 b;obtain⟨i,hi,rfl⟩:=AZv c;have:=ACu a (h i (by simp[hi]));simpa [hi]using this
theorem zv{N:Nat}(ts:List Tie)(k:ts.length<=400)(h:oks N ts):WU (((N:Int),(ts,())),(0:Int),())=some (trs ts ts.length,()):=by
 rw[WT,TD]
 have e:=Er (step:=FF) (fun i (a:List Edge)=>((0:Int),a,ts,A3 ts,(i:Int),())) (List.range ts.length) (fun i a=>.inl (if(ts.getD i zT).2.2.2.1=true then a++[ed (ts.getD i zT)]else a)) (fun a=>.inl (a,())) (fun i a=>a.length<=i) (by simp;omega)
  (fun i x a hi f l=>by
   refine⟨fun m c => ?_,fun r c=>(by cases c)⟩
   cases c
   have:=M7 f
   subst this
   rw[AZd]at hi
   have d:=(h x (by simp[hi])).2.2.2.1
   constructor
   ·rw[FF,A9,A4,AY0 hi]
    simp only[Cd zT hi,A9]
    have b:fits ((a.length:Int)+(([((ts.getD x zT).1,(ts.getD x zT).2.1,())]:List Edge).length:Int))=true:=CN (by simp;omega)
    rw[A6 (by omega),BQ,AY0 d]
    cases g:(ts.getD x zT).2.2.2.1
    ·simp
    ·simp only[b]
     simp[ed,Bi]
   ·split
    ·rw[AZF];simp;omega
    ·omega)
  (fun a _=>by rw[FF,AZd,A9,A4,AYz (by omega)]) [] (AY8 _)
 have j:A_ FF many ((0:Int),[],ts,A3 ts,(0:Int),())=_:=e;simp only[j];rw[Ch (fun i a=>if(ts.getD i zT).2.2.2.1=true then a++[ed (ts.getD i zT)]else a)];rfl
def cnt(out:List Int)(N:Nat):Nat:=((List.range N).filter fun k=>decide (out.getD k 0=(k:Int))).length
theorem rE{N:Nat}{c:List (List Int)}{l:List Edge}{out:List Int}(h:FC (N:Int) c l)(f:fQ (N:Int) l out):c.length=cnt out N:=by
 have d:=h.fr.sz;have m:(c.map hd).Perm (((List.range N).filter fun k=>decide (out.getD k 0=(k:Int))).map fun(k:Nat)=>(k:Int)):=by
  rw[Aap];intro a;simp only[AZG,AZS,AZY,AY2];constructor;rintro⟨A,e,rfl⟩;have g:=h.fr.rg A e;have i:In (N:Int) (hd A):=UK g;have n:=nW g.2.1;have:=tz h f e i n;obtain⟨_,_,q,r⟩:=i;refine⟨(hd A).toNat,⟨by omega,?_⟩,by omega⟩;rw[show out.getD (hd A).toNat 0=cl out (hd A)from rfl,<- this];omega;rintro⟨k,⟨s,o⟩,rfl⟩;have j:In (N:Int) (k:Int):=⟨d.1,d.2,by omega,by omega⟩
  obtain⟨A,e,p⟩:=h.fr.cov _ j;refine⟨A,e,?_⟩;rw[tz h f e j p];unfold cl;rw[AZX];exact o;exact(AaN.2 h.fr.up).imp (fun h=>by omega);refine List.Pairwise.map _ (S:=fun a b=>a≠b) (R:=fun a b=>a≠b) (fun a b h t=>h (by omega)) ?_;exact(Aa3).filter _
 have:=m.length_eq;rw[AZZ,AZZ]at this;exact this
theorem Qq(N:Nat)(j:N<=64)(p:List Tie)(q:List Edge)(out:List Int)(l:out.length=N):A_ HO many ((N:Int),p,q,out,(0:Int),(0:Int),())=some (.inl ((N:Int),p,q,(cnt out N:Int),())):=by
 have e:=Er (step:=HO) (fun i (a:Nat)=>((N:Int),p,q,out,(a:Int),(i:Int),())) (List.range N) (fun k a=>.inl (if out.getD k 0=(k:Int)then a+1 else a)) (fun a=>.inl ((N:Int),p,q,(a:Int),())) (fun i a=>a<=i) (by simp;omega)
  (fun i x a hi d m=>by
   refine⟨fun n b => ?_,fun r b=>(by cases b)⟩
   cases b
   have:=M7 d
   subst this
   rw[AZd]at hi
   constructor
   ·rw[HO,A4,AY0 hi]
    simp only[Cd 0 (show x<out.length by omega),Ek,BL]
    rw[A6 (by omega),A6 (by omega)]
    by_cases h:out.getD x 0=(x:Int)
    ·rw[AY0 h,AZA h]
    ·rw[AYz h,AY7 h]
   ·split<;>omega)
  (fun a _=>by rw[HO,AZd,A4,AYz (by omega)]) 0 (AY8 _)
 have f:A_ HO many ((N:Int),p,q,out,(0:Int),(0:Int),())=_:=e;rw[f,Ch (fun k a=>if out.getD k 0=(k:Int)then a+1 else a)];have c:∀ (xs:List Nat) (a:Nat),xs.foldl (fun a k=>if out.getD k 0=(k:Int)then a+1 else a) a=a+(xs.filter fun k=>decide (out.getD k 0=(k:Int))).length:=by
  intro xs;induction xs with
   |nil=>intro a;rfl
   |cons x xs g=>
    intro a;rw[AZm,g,AaF];by_cases h:out.getD x 0=(x:Int)
    simp only[h,AZa,AZD,AZC];omega;simp only[h,AZL,AZQ,AZH]
 rw[c,AZ3];rfl
theorem R_(n:Int)(ts:List Tie)(r:ts.length<4611686018427387904):∃ b:Bool,Fl ((n,(ts,())),())=some (b,())/\Ej ((n,(ts,())),())=some (b,())/\(b=true->∃ N:Nat,n=(N:Int)/\1<=N/\N<=64/\ts.length<=400/\oks N ts):=by
 by_cases e:¬ (1<=n/\n<=64);refine⟨false,?_,?_,fun h=>by cases h⟩;rw[HP,HQ,BG,BG];by_cases h:n<1;simp only[AY0 h];simp only[AYz h,AY0 (show 64<n by omega)];rw[MD,ME];simp only[WV,TE,BQ];by_cases h:1<=n;simp only[AY0 h,AYz (show ¬ n<=64 by omega),AZO];simp only[AYz h,AZO];have e:=Abx.1 e;obtain⟨N,rfl⟩:=AY6 (show 0<=n by omega);have c:bj ((N:Int),())=some (true,()):=by simp only[WV,TE,BQ,AY0 e.1,AY0 e.2]
 by_cases f:¬ ts.length<=400;refine⟨false,?_,?_,fun h=>by cases h⟩;rw[HP,HQ];simp only[BG,A9];rw[AYz (show ¬ (N:Int)<1 by omega),AYz (show ¬ 64<(N:Int) by omega),AY0 (show 400<(ts.length:Int) by omega)];rw[MD,ME];simp only[c,AY4,BG,A9];rw[AY0 (show 400<(ts.length:Int) by omega)];have f:=Abx.1 f;have R:=Su N (by omega) ts f;have L:=tR N (by omega) ts f;by_cases d:¬ oks N ts;rw[AY7 d]at R L;refine⟨false,?_,?_,fun h=>by cases h⟩;rw[HP,HQ];simp only[BG,A9];rw[AYz (show ¬ (N:Int)<1 by omega),AYz (show ¬ 64<(N:Int) by omega),AYz (show ¬ 400<(ts.length:Int) by omega)];simp only[R];rw[MD,ME];simp only[c,AY4,BG,A9,bh N (by omega)];rw[AYz (show ¬ 400<(ts.length:Int) by omega)];rw[A9]at L;simp only[L];have d:=Abx.1 d;rw[AZA d]at R L;have g:=wg (show N<=64 by omega) d;have o:=lI ts ts.length;obtain⟨out,p,i⟩:=H6 (N:Int) (trs ts ts.length) e (by omega) g;rcases(ADY (N:Int) (trs ts ts.length) e (by omega)).symm with⟨j,_⟩|⟨_,k,q,l⟩
 exact absurd g j;have a:=rE l i;have m:out.length=N:=by have:=i.len;omega
 refine⟨decide ((cnt out N:Int)=(N:Int)-(trs ts ts.length).length),?_,?_,fun _=>⟨N,rfl,by omega,by omega,f,d⟩⟩;rw[HP,HQ];simp only[BG,A9];rw[AYz (show ¬ (N:Int)<1 by omega),AYz (show ¬ 64<(N:Int) by omega),AYz (show ¬ 400<(ts.length:Int) by omega)];simp only[R,p,Qq N (by omega) _ _ out m,BL];rw[BI (by omega)];rw[MD,ME];simp only[c,AY4,BG,A9,bh N (by omega)];rw[AYz (show ¬ 400<(ts.length:Int) by omega)];rw[A9]at L;simp only[L,zv ts f d,q,QC,BL,a];rw[BI (by omega)]
end Go.Pev.Pl
end
section
namespace Go.Pev.Pl
theorem fQ.unique{N:Nat}{l:List Edge}{a b:List Int}(h:1<=N)(i:N<=64)(d:fQ (N:Int) l a)(e:fQ (N:Int) l b):a=b:=by
 have j:=d.len;have lb:=e.len;refine Gw (0:Int) (by omega) fun k m => ?_;have c:In (N:Int) (k:Int):=⟨by omega,by omega,by omega,by omega⟩
 have f:=d.least _ _ c (e.isin _ c) (e.con _ c);have g:=e.least _ _ c (d.isin _ c) (d.con _ c);unfold cl at f g;rw[AZX]at f g;omega
theorem jZ(xs:List Tie)(a:List Edge):xs.foldl (fun a x=>a++[ed x]) a=a++xs.map ed:=AIT ed xs a
theorem bp(n:Int)(ts:List Tie)(f:ts.length<=400)(h:Ej ((n,(ts,())),())=some (true,())):Oq ((n,(ts,())),())=some (ts.map ed,()):=by
 rw[jI,bq];simp only[h,AY4]
 have e:=Er (step:=MF) (fun i (a:List Edge)=>(a,ts,A3 ts,(i:Int),())) ts (fun x a=>.inl (a++[ed x])) (fun a=>.inl (a,())) (fun i a=>a.length<=i) (by omega)
  (fun i x a hi c g=>by
   refine⟨fun j b => ?_,fun r b=>(by cases b)⟩
   cases b
   constructor
   ·rw[MF]
    simp only[A9]
    rw[A4,AY0 hi]
    simp only[BB c]
    rw[CN (by simp;omega),A6 (by omega)]
    rfl
   ·rw[AZF];simp;omega)
  (fun a _=>by rw[MF,A9,A4,AYz (by omega)]) [] (AY8 _)
 have d:A_ MF many ([],ts,A3 ts,(0:Int),())=_:=e;simp only[d];rw[Ch (fun x a=>a++[ed x]),jZ];rfl
theorem X1(n:Int)(ts:List Tie)(f:ts.length<=400)(h:Fl ((n,(ts,())),())=some (true,())):Tu ((n,(ts,())),())=some (ts.map ed,()):=by
 rw[cm,Ww];simp only[h,AY4]
 have e:=Er (step:=KW) (fun i (a:List Edge)=>(n,ts,a,(i:Int),())) ts (fun x a=>.inl (a++[ed x])) (fun a=>.inl (a,())) (fun i a=>a.length<=i) (by omega)
  (fun i x a hi c g=>by
   refine⟨fun j b => ?_,fun r b=>(by cases b)⟩
   cases b
   constructor
   ·rw[KW]
    simp only[A9]
    rw[A4,AY0 hi]
    simp only[BB c]
    rw[CN (by simp;omega),A6 (by omega)]
    rfl
   ·rw[AZF];simp;omega)
  (fun a _=>by rw[KW,A9,A4,AYz (by omega)]) [] (AY8 _)
 have d:A_ KW many (n,ts,[],(0:Int),())=_:=e;simp only[d];rw[Ch (fun x a=>a++[ed x]),jZ];rfl
def InV(N:Nat)(x:Int):Prop:=0<=x/\x<(N:Int)
instance (N:Nat)(x:Int):Decidable (InV N x):=inferInstanceAs (Decidable (_/\_))
theorem APo{N:Nat}{out:List Int}(a:out.length=N){u:Int}(h:InV N u):idx out u=some (cl out u):=by obtain⟨U,rfl⟩:=AY6 h.1;have:=h.2;rw[Cd 0 (by omega)];unfold cl;rw[AZX]
end Go.Pev.Pl
end
section
namespace Go.Pev.Pl
end Go.Pev.Pl
end
section
namespace Go.Pev.Pl
def Rw(l:List Edge)(u v:Int):Prop:=((u,(v,())):Edge)∈l\/((v,(u,())):Edge)∈l
instance (l:List Edge)(u v:Int):Decidable (Rw l u v):=inferInstanceAs (Decidable (_\/_))
def qy(N:Nat)(l:List Edge)(u:Nat):List Edge:=((List.range (N-(u+1))).filter fun i=>decide (Rw l (u:Int) ((u+1+i:Nat):Int))).map fun(i:Nat)=>((u:Int),((u+1+i:Nat):Int),())
def EM(N:Nat)(l:List Edge):List Edge:=(List.range N).flatMap fun u=>qy N l u
theorem ALm(N:Nat)(a:N<=64)(l:List Edge)(u:Nat):(qy N l u).length<=64:=by unfold qy;rw[AZZ];have:=AZy (fun i=>decide (Rw l (u:Int) ((u+1+i:Nat):Int))) (List.range (N-(u+1)));rw[AZd]at this;omega
end Go.Pev.Pl
end
section
namespace Go.Pev.Pl
theorem xz(N:Nat)(b:N<=64)(l:List Edge):(EM N l).length<=4096:=by
 have a:∀ M,((List.range M).flatMap fun u=>qy N l u).length<=64*M:=by
  intro M;induction M with
   |zero=>simp
   |succ M c=>rw[AZo,AaS,AZF];have:=ALm N b l M;simp only[AbS,List.flatMap_nil,AZ8];omega
 have:=a N;unfold EM;omega
def I7(N:Nat)(ts:List Tie)(l:List Edge):List Edge:=(EM N l).filter fun x => !decide (x∈ts.map ed)
def AYq(l:List Tie)(t:Tie):List Tie:=l.take (l.findIdx fun x => !decide (ahead x t))++t::l.drop (l.findIdx fun x => !decide (ahead x t))
end Go.Pev.Pl
end
section
namespace Go.Pev.Pl
def valid(N:Nat)(t:Tie):Prop:=0<=t.1/\t.1<t.2.1/\t.2.1<(N:Int)/\0<=t.2.2.1/\t.2.2.1<=LR N
theorem ahead.trans{a b c:Tie}(h:ahead a b)(d:ahead b c):ahead a c:=by unfold ahead at *;omega
theorem S5(N:Nat)(ts:List Tie):oks N ts↔(∀ t∈ts,valid N t)/\ts.Pairwise ahead:=by
 constructor;intro h;have l:∀ i,i<ts.length->N0 N ts i:=fun i hi=>h i (by simpa using hi);refine⟨fun t o => ?_,?_⟩;obtain⟨i,hi,rfl⟩:=AZv o;obtain⟨a,b,c,f,g,_⟩:=l i hi;simp only[AZK,AZE hi,AZ2]at a b c f g;exact⟨a,b,c,f,g⟩;have m:∀ (d i:Nat),i+d+1<ts.length->ahead (ts.getD i zT) (ts.getD (i+d+1) zT):=by
  intro d;induction d with
   |zero=>intro i hi;obtain⟨_,_,_,_,_,q⟩:=l (i+0+1) hi;rcases q with q|q;omega;simpa using q
   |succ d p=>intro i hi;have n:=p i (by omega);obtain⟨_,_,_,_,_,q⟩:=l (i+(d+1)+1) hi;rcases q with q|q;omega;rw[show i+(d+1)+1-1=i+d+1 by omega]at q;exact n.trans q
 rw[AaH];intro i j hi k r;have:=m (j-i-1) i (by omega);rw[show i+(j-i-1)+1=j by omega]at this;simpa only[AZK,AZE hi,AZE k,AZ2]using this;rintro⟨n,s⟩ i hi;have hi:i<ts.length:=by simpa using hi
 have e:∀ j (k:j<ts.length),ts.getD j zT=ts[j]:=fun j k=>by simp only[AZK,AZE k,AZ2]
 obtain⟨a,b,c,f,g⟩:=n ts[i] (Aaa hi);unfold N0;rw[e i hi];refine⟨a,b,c,f,g,?_⟩;by_cases u:i=0;exact .inl u;right;rw[e (i-1) (by omega)];exact(AaH.1 s) (i-1) i (by omega) hi (by omega)
end Go.Pev.Pl
end
section
namespace Go.Pev.Pl
theorem Ey(N:Nat)(l:List Edge)(x:Edge):x∈EM N l↔0<=x.1/\x.1<x.2.1/\x.2.1<(N:Int)/\Rw l x.1 x.2.1:=by unfold EM qy;simp only[Aa2,AZG,AZS,AZY,AY2];constructor;rintro⟨u,h,i,⟨hi,e⟩,rfl⟩;exact⟨by show(0:Int)<=(u:Int);omega,by show(u:Int)<((u+1+i:Nat):Int);omega,by show((u+1+i:Nat):Int)<(N:Int);omega,e⟩;obtain⟨a,b,⟨⟩⟩:=x;rintro⟨c,f,g,d⟩;simp only at c f g d;obtain⟨u,rfl⟩:=AY6 c;obtain⟨v,rfl⟩:=AY6 (show 0<=b by omega);refine⟨u,by omega,v-(u+1),⟨by omega,?_⟩,?_⟩;rw[show u+1+(v-(u+1))=v by omega];exact d;rw[show u+1+(v-(u+1))=v by omega]
def DI(p x:Edge):Prop:=p.1<x.1\/(p.1=x.1/\p.2.1<x.2.1)
theorem OW(N:Nat)(l:List Edge):(EM N l).Pairwise DI:=by unfold EM;rw[List.pairwise_flatMap];refine⟨fun u _ => ?_,?_⟩;unfold qy;rw[AaN];refine Aay _ ?_;refine List.pairwise_lt_range.imp fun h => ?_;exact .inr ⟨rfl,by show((u+1+_:Nat):Int)<((u+1+_:Nat):Int);omega⟩;refine List.pairwise_lt_range.imp fun h x a y b => ?_;unfold qy at a b;simp only[AZG]at a b;obtain⟨i,_,rfl⟩:=a;obtain⟨j,_,rfl⟩:=b;exact .inl (by simp only;omega)
theorem AGu(N:Nat)(ts:List Tie)(l:List Edge)(x:Edge):x∈I7 N ts l↔(0<=x.1/\x.1<x.2.1/\x.2.1<(N:Int)/\Rw l x.1 x.2.1)/\¬ x∈ts.map ed:=by unfold I7;rw[AZS,Ey];simp
theorem ABR(N:Nat)(ts:List Tie)(l:List Edge):(I7 N ts l).Pairwise DI:=(OW N l).filter _
end Go.Pev.Pl
end
section
namespace Go.Pev.Pl
open Tok
instance (n v:Int):Decidable (In n v):=inferInstanceAs (Decidable (_/\_))
instance (n:Int):Decidable (Sz n):=inferInstanceAs (Decidable (_/\_))
end Go.Pev.Pl
end
section
namespace Go.Pev.Pl
instance (xs:List Int):Decidable (Rt xs):=inferInstanceAs (Decidable (_/\_/\_))
end Go.Pev.Pl
end
section
namespace Go.Pev.Pl
open Tok
noncomputable instance (n:Int) (xs:List Int):Decidable (TI n xs):=Classical.propDecidable _
end Go.Pev.Pl
end
section
namespace Go.Pev.Pl
open Tok
end Go.Pev.Pl
end
section
namespace Go.Pev.Pl
open Tok
end Go.Pev.Pl
end
section
namespace Go.Pev.Pl
open Tok
noncomputable instance (n:Int) (rings:List (List Int)):Decidable (RF n rings):=Classical.propDecidable _
noncomputable instance (n:Int) (xs:List Int):Decidable (RG n xs):=Classical.propDecidable _
end Go.Pev.Pl
end
end
section
section
namespace Go.Pev.Pl
open Tok
end Go.Pev.Pl
end
section
namespace Go.Pev.Pl
open Tok
end Go.Pev.Pl
end
section
namespace Go.Pev.Pl
open Tok
end Go.Pev.Pl
end
section
namespace Go.Pev.Pl
open Tok
theorem AQz(n:Int)(a:List (List Int))(v:Int)(b:Dom a):tof ((n,(a,())),v,())=some (if RF n a/\In n v then plc a v else -1,()):=by rw[AKZ,AKa];simp only[Yr,RB n a b.1 b.2,RC n a v b.1 (fun l d=>(b.2 l d).1)];by_cases c:In n v;by_cases e:RF n a<;>simp[c,e];simp[c]
end Go.Pev.Pl
end
section
namespace Go.Pev.Pl
open Go.RowKit Tok
end Go.Pev.Pl
end
section
namespace Go.Pev.Pl
open Tok
end Go.Pev.Pl
end
section
namespace Go.Pev.Pl
open Tok
end Go.Pev.Pl
end
section
namespace Go.Pev.Pl
open Tok
end Go.Pev.Pl
end
section
namespace Go.Pev.Pl
open Tok
instance (n v:Int):Decidable (In n v):=inferInstanceAs (Decidable (_/\_))
instance (n:Int):Decidable (Sz n):=inferInstanceAs (Decidable (_/\_))
end Go.Pev.Pl
end
section
namespace Go.Pev.Pl
instance (xs:List Int):Decidable (Rt xs):=inferInstanceAs (Decidable (_/\_/\_))
end Go.Pev.Pl
end
section
namespace Go.Pev.Pl
open Tok
noncomputable instance (n:Int) (xs:List Int):Decidable (TI n xs):=Classical.propDecidable _
end Go.Pev.Pl
end
section
namespace Go.Pev.Pl
open Tok
noncomputable instance (n:Int) (rings:List (List Int)):Decidable (RF n rings):=Classical.propDecidable _
noncomputable instance (n:Int) (xs:List Int):Decidable (RG n xs):=Classical.propDecidable _
end Go.Pev.Pl
end
section
namespace Go.Pev.Pl
open Tok
end Go.Pev.Pl
end
section
namespace Go.Pev.Pl
open Tok
end Go.Pev.Pl
end
section
namespace Go.Pev.Pl
open Tok
end Go.Pev.Pl
end
section
namespace Go.Pev.Pl
open Tok
end Go.Pev.Pl
end
section
namespace Go.Pev.Pl
open Tok
theorem rG{N:Nat}(g:1<=N)(a:N<=64){ts:List Tie}(h:ts.length<=400)(d:oks N ts){out:List Int}(e:fQ (N:Int) (trs ts ts.length) out):
  Fl (((N:Int),(ts,())),())=some (decide ((cnt out N:Int)=(N:Int)-(trs ts ts.length).length),()):=by
 have R:=Su N a ts h;rw[AZA d]at R;have b:=wg a d;have f:=lI ts ts.length;obtain⟨j,i,c2⟩:=H6 (N:Int) (trs ts ts.length) ⟨by omega,by omega⟩ (by omega) b;have:=fQ.unique g a e c2;subst this;have c:out.length=N:=by have:=e.len;omega
 rw[HP,HQ];simp only[BG,A9];rw[AYz (show ¬ (N:Int)<1 by omega),AYz (show ¬ 64<(N:Int) by omega),AYz (show ¬ 400<(ts.length:Int) by omega)];simp only[R,i,Qq N a _ _ out c,BL];rw[BI (by omega)]
end Go.Pev.Pl
end
section
namespace Go.Pev.Pl
open Tok
end Go.Pev.Pl
end
section
namespace Go.Pev.Pl
open Tok
def AXx(x:Edge)(b:Bool):Tie:=(x.1,x.2.1,0,b,())
def AYu(ts:List Tie)(xs:List Edge)(b:List Bool)(k:Nat):List Tie:=(List.range k).foldl (fun a i=>AYq a (AXx (xs.getD i (0,0,())) (b.getD i false))) ts
end Go.Pev.Pl
end
section
namespace Go.Pev.Pl
open Tok
end Go.Pev.Pl
end
section
namespace Go.Pev.Pl
open Tok
end Go.Pev.Pl
end
section
namespace Go.Pev.Pl
open Tok
theorem AKR(ts:List Tie):∀ k,k<=ts.length->trs ts k=((ts.take k).filter fun t=>t.2.2.2.1).map ed:=by
 intro k;induction k with
  |zero=>intro _;simp[trs]
  |succ k b=>
   intro c;have a:k<ts.length:=by omega
   rw[Zz,b (by omega),AZf a,AZ5,AaP];simp only[AZK,AZE a,AZ2];cases h:ts[k].2.2.2.1;simp[h];simp[h]
theorem AQu(ts:List Tie):trs ts ts.length=(ts.filter fun t=>t.2.2.2.1).map ed:=by rw[AKR ts _ (AY8 _),AZT]
end Go.Pev.Pl
end
section
namespace Go.Pev.Pl
open Tok
end Go.Pev.Pl
end
end
section
section
namespace Go.Pev.Pl
open Tok
def YB(N:Nat)(l:List Edge):Prop:=∀ e∈l,In (N:Int) e.1/\In (N:Int) e.2.1
end Go.Pev.Pl
end
section
namespace Go.Pev.Pl
open Tok
theorem ADL{N:Nat}(b:1<=N)(c:N<=64){a:Int}(h:0<=a/\a<(N:Int)):In (N:Int) a:=⟨by omega,by omega,h.1,h.2⟩
theorem AWm{N:Nat}{e:Edge}(h:In (N:Int) e.1/\In (N:Int) e.2.1):InE N e:=⟨⟨h.1.2.2.1,h.1.2.2.2⟩,⟨h.2.2.2.1,h.2.2.2.2⟩⟩
theorem AXI{N:Nat}(f:1<=N)(g:N<=64){l:List Edge}{out:List Int}(c:fQ (N:Int) l out):cnt out N=cc N l:=by
 unfold cnt cc;rw[List.countP_eq_length_filter];congr 1;refine AaU fun k i => ?_;have i:k<N:=by simpa using i
 have b:=ADL f g (a:=(k:Int)) ⟨by omega,by omega⟩;have o:out.getD k 0=cl out (k:Int):=by unfold cl;rw[AZX]
 rw[o,AaX,AZr,KJ];constructor;intro h j s d;have:=c.least (k:Int) (j:Int) b (ADL f g ⟨by omega,by omega⟩) d.symm;omega;intro h;have p:=c.isin _ b;have n:=c.con _ b;have q:=c.least (k:Int) (k:Int) b b (.refl _);obtain⟨m,r⟩:=AY6 p.2.2.1;rw[r]at n q |-;by_cases e:m<k;exact absurd n.symm (h m e);omega
theorem af{N:Nat}(b:1<=N)(a:N<=64){ts:List Tie}(f:ts.length<=400)(d:oks N ts):Fl (((N:Int),(ts,())),())=some (true,())↔Fo N (trs ts ts.length):=by
 have e:=lI ts ts.length;obtain⟨o,_,c⟩:=H6 (N:Int) (trs ts ts.length) ⟨by omega,by omega⟩ (by omega) (wg a d);rw[rG b a f d c,AXI b a c];unfold Fo;constructor;intro h;have:decide ((cc N (trs ts ts.length):Int)=(N:Int)-(trs ts ts.length).length)=true:=by injection h with h;injection h
 have:=AbB this;omega;intro h;rw[AY0 (by omega)]
end Go.Pev.Pl
end
section
namespace Go.Pev.Pl
open Tok
end Go.Pev.Pl
end
section
namespace Go.Pev.Pl.SE
open Go.Sort
def ok(_:Int×Int×Unit):Prop:=True
def okz:Int×Int×Unit:=(0,0,())
theorem WK:ok okz:=trivial
def lt(x y:Int×Int×Unit):Bool:=decide (x.1<y.1\/(x.1=y.1/\x.2.1<y.2.1))
theorem swo:SWO lt:=⟨fun x=>by simp[lt],fun x y z a b=>by simp only[lt,AY2]at *;omega,fun x y z a b=>by simp only[lt,AZc]at *;omega⟩
theorem X7(a b:Int):Eb (a,b,())=some (if a<b then -1 else if b<a then 1 else 0,()):=by rw[Ie,Hi,K7,M',K7,M'];simp only[B1,BG];by_cases h:a<b;simp[h];by_cases c:b<a;simp[h,c];simp[h,c]
theorem or_val(a b:Int):orI ([a,b],())=some (if a=0 then b else a,()):=by
 obtain⟨m,l⟩:∃ m,many=m+3:=⟨many-3,by simp only[many]⟩
 rw[ma,tD,BO,l];have c:idx [a,b] (0:Int)=some a:=by rw[idx_eq];rfl
 have d:idx [a,b] (1:Int)=some b:=by rw[idx_eq];rfl
 have e:A3 [a,b]=(2:Int):=rfl;have f:w64 ((0:Int)+1)=1:=by rw[BI (by omega)];rfl
 have g:w64 ((1:Int)+1)=2:=by rw[BI (by omega)];rfl
 have h:ilt (0:Int) 2=true:=by rw[BG];rfl
 have i:ilt (1:Int) 2=true:=by rw[BG];rfl
 have c2:ilt (2:Int) 2=false:=by rw[BG];rfl
 by_cases j:a=0;subst j;by_cases k:b=0;subst k;have z:ieq (0:Int) 0=true:=by rw[B1];rfl
 simp only[BA,KF,e,c,d,f,g,h,i,c2,z,AY4,AZa];have:ieq b 0=false:=by rw[B1];simpa using k
 have z:ieq (0:Int) 0=true:=by rw[B1];rfl
 simp only[BA,KF,e,c,d,f,g,h,i,c2,z,this,AY4,AZO,AZa];have:ieq a 0=false:=by rw[B1];simpa using j
 simp only[BA,KF,e,c,d,f,g,h,i,c2,this,j,AZO,AZL]
end Go.Pev.Pl.SE
end
section
namespace Go.Pev.Pl.ST
open Go.Sort
def ok(_:Int×Int×Int×Bool×Unit):Prop:=True
def okz:Int×Int×Int×Bool×Unit:=(0,0,0,false,())
theorem WK:ok okz:=trivial
def lt(x y:Int×Int×Int×Bool×Unit):Bool:=decide (x.1<y.1\/(x.1=y.1/\x.2.1<y.2.1))
theorem swo:SWO lt:=⟨fun x=>by simp[lt],fun x y z a b=>by simp only[lt,AY2]at *;omega,fun x y z a b=>by simp only[lt,AZc]at *;omega⟩
theorem X7(a b:Int):Eb (a,b,())=some (if a<b then -1 else if b<a then 1 else 0,()):=by rw[Ie,Hi,K7,M',K7,M'];simp only[B1,BG];by_cases h:a<b;simp[h];by_cases c:b<a;simp[h,c];simp[h,c]
theorem or_val(a b:Int):orI ([a,b],())=some (if a=0 then b else a,()):=by
 obtain⟨m,l⟩:∃ m,many=m+3:=⟨many-3,by simp only[many]⟩
 rw[ma,tD,BO,l];have c:idx [a,b] (0:Int)=some a:=by rw[idx_eq];rfl
 have d:idx [a,b] (1:Int)=some b:=by rw[idx_eq];rfl
 have e:A3 [a,b]=(2:Int):=rfl;have f:w64 ((0:Int)+1)=1:=by rw[BI (by omega)];rfl
 have g:w64 ((1:Int)+1)=2:=by rw[BI (by omega)];rfl
 have h:ilt (0:Int) 2=true:=by rw[BG];rfl
 have i:ilt (1:Int) 2=true:=by rw[BG];rfl
 have c2:ilt (2:Int) 2=false:=by rw[BG];rfl
 by_cases j:a=0;subst j;by_cases k:b=0;subst k;have z:ieq (0:Int) 0=true:=by rw[B1];rfl
 simp only[BA,KF,e,c,d,f,g,h,i,c2,z,AY4,AZa];have:ieq b 0=false:=by rw[B1];simpa using k
 have z:ieq (0:Int) 0=true:=by rw[B1];rfl
 simp only[BA,KF,e,c,d,f,g,h,i,c2,z,this,AY4,AZO,AZa];have:ieq a 0=false:=by rw[B1];simpa using j
 simp only[BA,KF,e,c,d,f,g,h,i,c2,this,j,AZO,AZL]
end Go.Pev.Pl.ST
end
section
namespace Go.Pev.Pl
open Tok
section
variable {α β:Type} [DecidableEq α]
theorem Qt(d:List (α×β))(k:α)(v:β)(j:α):A8 (BC d k v) j=if j=k then some v else A8 d j:=by
 induction d with
  |nil=>simp only[BC,A8];by_cases h:k=j;simp[h];simp[h,Aal h]
  |cons e d f=>obtain⟨a,b⟩:=e;simp only[BC];by_cases h:a=k;subst h;simp only[AZa,A8];by_cases c:a=j;simp[c];simp[c,Aal c];simp only[h,AZL,A8,f];by_cases c:a=j;subst c;simp[h];simp[c]
end
def nrm(x:Edge):Edge:=(min x.1 x.2.1,max x.1 x.2.1,())
def YQ(n:Int)(x:Edge)(a:List (Edge×Int)×List Edge):(List (Edge×Int)×List Edge)⊕((Int×Unit)⊕(List Edge×Unit)⊕Unit):=
 if(nrm x).1<0\/n<=(nrm x).2.1 then .inr (.inl (10,()))else
 if(nrm x).1<(nrm x).2.1/\(A8 a.1 (nrm x)).getD 0=0 then .inl (BC a.1 (nrm x) 1,a.2++[nrm x])else .inl a
theorem AGq(n:Int)(g:List Edge):∀ (l:List Edge) (m:List (Edge×Int)) (c:List Edge),(∀ x∈l,0<=(nrm x).1/\(nrm x).2.1<n)->c.Nodup->(∀ k,(A8 m k).getD 0=if k∈g\/k∈c then 1 else 0) ->
  ∃ ys,walk (YQ n) (fun a=>(.inr (.inl (a.2,())):(Int×Unit)⊕(List Edge×Unit)⊕Unit)) l (m,c) = .inr (.inl (ys,()))/\ys.Nodup/\(∀ k,k∈ys↔k∈c\/(k∉g/\k.1<k.2.1/\∃ x∈l,nrm x=k))/\ys.length<=c.length+l.length:=by
 intro l;induction l with
  |nil=>intro m c _ v _;exact⟨c,rfl,v,fun k=>by simp,by simp⟩
  |cons x l C=>
   intro m c f v w;obtain⟨F,G⟩:=f x (by simp);rw[walk];have q:YQ n x (m,c)=if(nrm x).1<(nrm x).2.1/\(A8 m (nrm x)).getD 0=0 then .inl (BC m (nrm x) 1,c++[nrm x])else .inl (m,c):=by unfold YQ;rw[AY7 (by omega)]
   by_cases r:(nrm x).1<(nrm x).2.1/\(A8 m (nrm x)).getD 0=0;rw[q,AZA r];have s:=w (nrm x);rw[r.2]at s;have t:¬ (nrm x∈g\/nrm x∈c):=fun h=>by rw[AZA h]at s;omega
   obtain⟨ys,e,z,A,B⟩:=C (BC m (nrm x) 1) (c++[nrm x]) (fun y d=>f y (by simp[d]))
    (by
     rw[AbT]
     exact⟨v,by simp,fun a E b D=>by rintro rfl;simp at D;exact t (.inr (D▸E))⟩)
    (fun k=>by
     rw[Qt]
     by_cases p:k=nrm x
     ·subst p;simp
     ·rw[AY7 p,w]
      simp[p])
   refine⟨ys,e,z,fun k => ?_,by rw[AZF]at B;simp at B |-;omega⟩;rw[A];constructor;rintro (h|h);rcases AY5.1 h with h|h;exact .inl h;rw[AZW]at h;subst h;exact .inr ⟨fun h=>t (.inl h),r.1,x,by simp,rfl⟩;obtain⟨j,o,y,d,i⟩:=h;exact .inr ⟨j,o,y,by simp[d],i⟩;rintro (h|⟨j,o,y,d,i⟩);exact .inl (by simp[h]);rcases AZJ.1 d with rfl|d;exact .inl (by simp[i]);exact .inr ⟨j,o,y,d,i⟩;rw[q,AY7 r];obtain⟨ys,e,z,A,B⟩:=C m c (fun y d=>f y (by simp[d])) v w;refine⟨ys,e,z,fun k => ?_,by simp;omega⟩;rw[A];constructor;rintro (h|⟨j,o,y,d,i⟩);exact .inl h;exact .inr ⟨j,o,y,by simp[d],i⟩;rintro (h|⟨j,o,y,d,i⟩);exact .inl h;rcases AZJ.1 d with rfl|d;subst i;have s:=w (nrm y);by_cases u:nrm y∈g\/nrm y∈c;rcases u with h|h;exact absurd h j;exact .inl h;rw[AY7 u]at s;exact absurd ⟨o,s⟩ r;exact .inr ⟨j,o,y,d,i⟩
theorem mg(n:Int):∀ (l:List Edge) (a:List (Edge×Int)×List Edge),¬ (∀ x∈l,0<=(nrm x).1/\(nrm x).2.1<n) ->
  walk (YQ n) (fun a=>(.inr (.inl (a.2,())):(Int×Unit)⊕(List Edge×Unit)⊕Unit)) l a = .inl (10,()):=by
 intro l;induction l with
  |nil=>intro a h;exact absurd (by simp) h
  |cons x l f=>
   intro a h;rw[walk];by_cases e:(nrm x).1<0\/n<=(nrm x).2.1;unfold YQ;rw[AZA e];have b:¬ (∀ x∈l,0<=(nrm x).1/\(nrm x).2.1<n):=fun b=>h fun y c=>by rcases AZJ.1 c with rfl|c;exact⟨by omega,by omega⟩;exact b y c
   have d:YQ n x a = .inl (if(nrm x).1<(nrm x).2.1/\(A8 a.1 (nrm x)).getD 0=0 then(BC a.1 (nrm x) 1,a.2++[nrm x])else a):=by unfold YQ;rw[AY7 e];split<;>rfl
   rw[d];exact f _ b
theorem xQ{xs ys c:List Edge}(g:ys.Perm xs)(i:ys.Pairwise (fun x y=>SE.lt y x=false))(j:c.Pairwise DI)(d:xs.Perm c):ys=c:=by
 refine AaW (le:=fun x y=>SE.lt y x=false) ?_ i ?_ (g.trans d);intro a b _ _ e f;simp only[SE.lt,AZc]at e f;obtain⟨k,l,⟨⟩⟩:=a;obtain⟨m,n,⟨⟩⟩:=b;simp only at e f;have o:k=m:=by omega
 have p:l=n:=by omega
 rw[o,p];refine j.imp fun h => ?_;unfold DI at h;simp only[SE.lt,AZc];omega
end Go.Pev.Pl
end
section
namespace Go.Pev.Pl
open Tok
theorem qJ{N:Nat}(a:N<=64):0<=LR N:=by
 have:((List.range 65).all fun k=>decide (0<=LR k))=true:=by kernel_rfl
 exact AbB (AZR.1 this N (by simp;omega))
noncomputable def grown(N:Nat)(ts:List Tie)(l:List Edge):List Tie:=AYu ts (I7 N ts l) (gfl (trs ts ts.length) (I7 N ts l)) (I7 N ts l).length
structure RG2(N:Nat)(ts:List Tie):Prop where
 h1:1<=N
 hN:N<=64
 ht:ts.length<=400
 oks:oks N ts
 fo:Fo N (trs ts ts.length)
theorem RG2.r21{N:Nat}{ts:List Tie}(h:RG2 N ts):Fl (((N:Int),(ts,())),())=some (true,()):=(af h.h1 h.hN h.ht h.oks).2 h.fo
theorem RG2.lr{N:Nat}{ts:List Tie}(h:RG2 N ts):Ej (((N:Int),(ts,())),())=some (true,()):=by obtain⟨b,a,c,_⟩:=R_ (N:Int) ts (by have:=h.ht;omega);rw[h.r21]at a;cases a;exact c
theorem Vw(n:Int)(ts:List Tie)(g:ts.length<4611686018427387904):(Fl ((n,(ts,())),())=some (false,())/\Ej ((n,(ts,())),())=some (false,()))\/∃ N:Nat,n=(N:Int)/\RG2 N ts:=by obtain⟨b,a,h,i⟩:=R_ n ts g;cases b;exact .inl ⟨a,h⟩;obtain⟨N,rfl,c,d,e,f⟩:=i rfl;exact .inr ⟨N,rfl,c,d,e,f,(af c d e f).1 a⟩
theorem RG2.inE{N:Nat}{ts:List Tie}(h:RG2 N ts):∀ e∈ts.map ed,In (N:Int) e.1/\In (N:Int) e.2.1:=AW4 h.hN h.oks
end Go.Pev.Pl
end
section
namespace Go.Pev.Pl
open Tok
def Ep(u v:Int)(t:Tie):Bool:=decide (t.1=min u v/\t.2.1=max u v)
end Go.Pev.Pl
end
end
section
namespace Go.Pev.Pl
open Tok
theorem AKT(ts:List Tie)(t:Tie)(k:Int):trk (ts++[t]) k=trk ts k++if t.2.2.2.1=true/\k<=t.2.2.1 then [ed t]else []:=by rw[Co];congr 1;unfold trk;rw[AaF];by_cases h:t.2.2.2.1=true/\k<=t.2.2.1;rw[AZA h,h.1,AY0 h.2];rfl;rw[AY7 h,AY7];rfl;rw[AY3,AY2];exact h
theorem qH(k:Int):∀ (ts a:List Tie) (b:List Edge),b=trk a k->ts.foldl (fun b t=>if t.2.2.2.1=true/\k<=t.2.2.1 then b++[ed t]else b) b=trk (a++ts) k:=by
 intro ts;induction ts with
  |nil=>intro a b h;simpa using h
  |cons t ts c=>intro a b h;rw[AZm,c (a++[t])];simp;rw[AKT,<- h];split<;>simp
theorem AQw(ts:List Tie)(k:Int):(trk ts k).length<=ts.length:=by unfold trk;rw[AZZ];exact AZy _ _
theorem AQv(ts:List Tie)(k:Int):∀ e∈trk ts k,e∈ts.map ed:=by intro e a;obtain⟨t,b,_,_,rfl⟩:=Hu.1 a;exact AZG.2 ⟨t,b,rfl⟩
theorem ANZ(n:Int)(ts:List Tie)(g:ts.length<=400)(k:Int):WU ((n,(ts,())),k,())=some (trk ts k,()):=by
 rw[WT,TD]
 have e:=Er (step:=FF) (fun i (a:List Edge)=>(k,a,ts,A3 ts,(i:Int),())) ts (fun t a=>.inl (if t.2.2.2.1=true/\k<=t.2.2.1 then a++[ed t]else a)) (fun a=>.inl (a,())) (fun i a=>a.length<=i) (by omega)
  (fun i x a hi d h=>by
   refine⟨fun j b => ?_,fun r b=>(by cases b)⟩
   cases b
   constructor
   ·rw[FF,A9,A4,AY0 hi]
    simp only[BB d,A9]
    rw[A6 (by omega),BQ,CN (by simp only[AZC,AZP];omega)]
    cases l:x.2.2.2.1
    ·simp
    ·by_cases c:k<=x.2.2.1
     ·simp[c,ed,Bi]
     ·simp[c]
   ·split
    ·rw[AZF];simp;omega
    ·omega)
  (fun a _=>by rw[FF,A9,A4,AYz (by omega)]) [] (AY8 _)
 have f:A_ FF many (k,[],ts,A3 ts,(0:Int),())=_:=e;simp only[f];rw[Ch (fun(t:Tie) (a:List Edge)=>if t.2.2.2.1=true/\k<=t.2.2.1 then a++[ed t]else a),qH k ts [] [] rfl];rfl
theorem AEd(n:Int)(ts:List Tie)(g:ts.length<=400)(k:Int):Yn ((n,(ts,())),k,())=some (trk ts k,()):=by
 rw[Z3,VU]
 have e:=Er (step:=J3) (fun i (a:List Edge)=>(k,n,ts,a,(i:Int),())) ts (fun t a=>.inl (if t.2.2.2.1=true/\k<=t.2.2.1 then a++[ed t]else a)) (fun a=>.inl (a,())) (fun i a=>a.length<=i) (by omega)
  (fun i x a hi d h=>by
   refine⟨fun j b => ?_,fun r b=>(by cases b)⟩
   cases b
   constructor
   ·rw[J3,A9,A4,AY0 hi]
    simp only[BB d,A9]
    rw[A6 (by omega),BQ,CN (by simp only[AZC,AZP];omega)]
    cases l:x.2.2.2.1
    ·simp
    ·by_cases c:k<=x.2.2.1
     ·simp[c,ed,Bi]
     ·simp[c]
   ·split
    ·rw[AZF];simp;omega
    ·omega)
  (fun a _=>by rw[J3,A9,A4,AYz (by omega)]) [] (AY8 _)
 have f:A_ J3 many (k,n,ts,[],(0:Int),())=_:=e;simp only[f];rw[Ch (fun(t:Tie) (a:List Edge)=>if t.2.2.2.1=true/\k<=t.2.2.1 then a++[ed t]else a),qH k ts [] [] rfl];rfl
theorem qF{N:Nat}{ts:List Tie}(h:oks N ts):trs ts ts.length=trk ts 0:=by rw[AQu];unfold trk;congr 1;refine AaU fun t a => ?_;have:=((S5 N ts).1 h).1 t a;rw[AY0 this.2.2.2.1,Aaj]
theorem RG2.fo0{N:Nat}{ts:List Tie}(h:RG2 N ts):Fo N (trk ts 0):=by rw[<- qF h.oks];exact h.fo
theorem RG2.inK{N:Nat}{ts:List Tie}(h:RG2 N ts)(k:Int):∀ e∈trk ts k,In (N:Int) e.1/\In (N:Int) e.2.1:=fun e a=>h.inE e (AQv ts k e a)
theorem RG2.AYN{N:Nat}{ts:List Tie}(h:RG2 N ts)(k:Int):(trk ts k).length<=400:=AZu (AQw ts k) h.ht
theorem RG2.AWt{N:Nat}{ts:List Tie}(h:RG2 N ts)(k:Int):∃ a,JE (((N:Int),(ts,())),k,())=some (((N:Int),(a,())),0,())/\FC (N:Int) a (trk ts k):=by
 have d:=h.AYN k;have f:=h.h1;have g:=h.hN;rcases(ADY (N:Int) (trk ts k) ⟨by omega,by omega⟩ (by omega)).symm with⟨b,_⟩|⟨_,a,e,c⟩
 exact absurd (h.inK k) b;refine⟨a,?_,c⟩;rw[bo,WY];simp only[h.lr,AY4,ANZ (N:Int) ts h.ht k,e]
theorem RG2.AUX{N:Nat}{ts:List Tie}(h:RG2 N ts)(k:Int):∃ out,Jv ((N:Int),trk ts k,())=some (out,())/\fQ (N:Int) (trk ts k) out:=by have:=h.AYN k;have a:=h.h1;have b:=h.hN;exact H6 (N:Int) (trk ts k) ⟨by omega,by omega⟩ (by omega) (h.inK k)
noncomputable def XW(p:Prop):Bool:=@decide p (Classical.propDecidable _)
theorem Ji(p:Prop):XW p=true↔p:=by unfold XW;exact @decide_eq_true_iff _ (Classical.propDecidable _)
theorem AL5{p:Prop}{b:Bool}(h:b=true↔p):b=XW p:=by rw[AaX,Ji];exact h
def pH(ts:List Tie):Prop:=∀ t∈ts,t.2.2.2.1=false->Con (trk ts t.2.2.1) t.1 t.2.1
noncomputable def AGn(ts:List Tie)(t:Tie):Bool := !t.2.2.2.1 && !Nd (trk ts t.2.2.1) t.1 t.2.1
theorem ASs(ts:List Tie):(!ts.any (AGn ts))=XW (pH ts):=by refine AL5 ?_;rw[AaG,List.any_eq_false];unfold AGn pH;constructor;intro h t a b;have:=h t a;rw[b]at this;rw[<- C8];simpa using this;intro h t a;cases b:t.2.2.2.1;have:=h t a b;rw[<- C8]at this;simp[this];simp
theorem RG2.tie{N:Nat}{ts:List Tie}(h:RG2 N ts){t:Tie}(b:t∈ts):In (N:Int) t.1/\In (N:Int) t.2.1/\t.1<t.2.1/\0<=t.2.2.1/\t.2.2.1<=LR N:=by have a:=((S5 N ts).1 h.oks).1 t b;have c:=h.inE (ed t) (AZG.2 ⟨t,b,rfl⟩);exact⟨c.1,c.2,a.2.1,a.2.2.2.1,a.2.2.2.2⟩
theorem tN{N:Nat}{ts:List Tie}(h:RG2 N ts):TB (((N:Int),(ts,())),())=some (XW (pH ts),()):=by
 have l:=h.ht;rw[Rg,P1];simp only[h.r21,AY4]
 have g:=Q0 (step:=KH) (fun i=>((N:Int),ts,(i:Int),())) ts (AGn ts) (fun _=>.inl (false,())) (.inr (.inl ())) (by omega)
  (fun i x hi d=>by
   obtain⟨b,c,_,m,n⟩:=h.tie (AY9 d)
   obtain⟨o,j,e⟩:=h.AUX x.2.2.1
   have f:o.length=N:=by have:=e.len;omega
   rw[KH,A9,A4,AY0 hi]
   simp only[BB d,AEd (N:Int) ts h.ht,j]
   rw[A6 (by omega)]
   unfold AGn
   cases p:x.2.2.2.1
   ·simp only[AZO,APo f (show InV N x.1 from⟨b.2.2.1,b.2.2.2⟩),APo f (show InV N x.2.1 from⟨c.2.2.1,c.2.2.2⟩)]
    have hd:∀ w:Int,A7 o (A2 w) 0=cl o w:=fun _=>rfl
    rw[hd,hd,BL]
    have:decide (cl o x.1=cl o x.2.1)=Nd (trk ts x.2.2.1) x.1 x.2.1:=by
     rw[AaX,AZr,C8]
     exact e.same _ _ b c
    rw[this]
    cases Nd (trk ts x.2.2.1) x.1 x.2.1<;>simp
   ·simp)
  (by rw[KH,A9,A4,AYz (by omega)])
 have k:A_ KH many ((N:Int),ts,(0:Int),())=_:=g;simp only[k];rw[<- ASs];by_cases a:ts.any (AGn ts)=true;rw[AZA a,a];rfl;rw[AY7 a];have:ts.any (AGn ts)=false:=by simpa using a
 rw[this];rfl
def D3(N:Nat):Nat:=(LR N).toNat
theorem Sb{N:Nat}(a:N<=64):LR N=(D3 N:Int):=by have:=qJ a;unfold D3;omega
theorem AQx{N:Nat}(a:N<=64):D3 N<64:=by
 have:((List.range 65).all fun k=>decide (LR k<64))=true:=by kernel_rfl
 have b:=AbB (AZR.1 this N (by simp;omega));have:=Sb a;omega
theorem ZT(N:Nat)(l:List Edge)(v:Int):csz N l v<=N:=by unfold csz;have:=List.countP_le_length (p:=fun(w:Nat)=>Nd l v (w:Int)) (l:=List.range N);rw[AZd]at this;exact this
theorem AKE(n:Nat)(h:n<18446744073709551616):IntKind.wrap .u64 (n:Int)=(n:Int):=IntWalk.u64_in _ (by omega)
noncomputable def JD(N:Nat)(l:List Edge)(v:Int):List Int:=((List.range N).filter fun(w:Nat)=>Nd l v (w:Int)).map fun(w:Nat)=>(w:Int)
theorem S'(N:Nat)(l:List Edge)(v:Int):(JD N l v).length=csz N l v:=by unfold JD csz;grind
theorem ba{N:Nat}{l:List Edge}{v x:Int}:x∈JD N l v↔(0<=x/\x<(N:Int))/\Con l v x:=by unfold JD;simp only[AZG,AZS,AZY,C8];constructor;grind;rintro⟨⟨a,b⟩,c⟩;obtain⟨w,rfl⟩:=AY6 a;grind
noncomputable def CP(N:Nat)(ts:List Tie)(u v k:Int):List Int:=
 if XW (RG2 N ts)=true then
  if Nd (trk ts k) u v=true then []else
  if csz N (trk ts k) u<csz N (trk ts k) v\/(csz N (trk ts k) u=csz N (trk ts k) v/\(JD N (trk ts k) u).headD 0<(JD N (trk ts k) v).headD 0)then JD N (trk ts k) u else JD N (trk ts k) v
 else []
theorem AE8(N:Nat)(ts:List Tie)(u v k:Int):(CP N ts u v k).length<=N:=by unfold CP;have a:=ZT N (trk ts k) u;have b:=ZT N (trk ts k) v;split;split;simp;split;rw[S'];exact a;rw[S'];exact b;simp
theorem ir{N:Nat}{l:List Edge}{v:Nat}(c:v<N):idx (JD N l (v:Int)) (0:Int)=some ((JD N l (v:Int)).headD 0):=by
 have:(v:Int)∈JD N l (v:Int):=ba.2 ⟨⟨by omega,by omega⟩,.refl _⟩;cases d:JD N l (v:Int)with
  |nil=>grind
  |cons a b=>rw[O1];rfl
theorem k9{α:Type}{A R:List α}{x:α}{i:Nat}(h:A.length=i):(A++x::R)[i]? = some x:=by grind
theorem k8{α:Type}{A R:List α}{x y:α}{i:Nat}(h:A.length=i):Bb (A++x::R) (A2 (i:Int)) y=A++y::R:=by rw[FX,List.set_append_right _ _ (by omega),h,Aam];rfl
noncomputable def Bg(s:List Int)(w:Int):Bool:=decide (w∈s)
def N1(S:Int->Bool)(i:Int)(ts:List Tie):Nat:=ts.countP fun t=>t.2.2.2.1&&(decide (t.2.2.1=i)&&both S t)
noncomputable def Ls(N u v:Nat)(top:Int):Nat->List Tie->Nat->List Tie×Option Edge×Nat
 |0,O,r=>(O,none,r)
 |i+1,O,r=>match(CL (Bg (CP N O u v i)) top i (O.map (rT (Bg (CP N O u v i)) top i))).2.2 with
  |some e=>((CL (Bg (CP N O u v i)) top i (O.map (rT (Bg (CP N O u v i)) top i))).1,some e,r+N1 (Bg (CP N O u v i)) i O+(CL (Bg (CP N O u v i)) top i (O.map (rT (Bg (CP N O u v i)) top i))).2.1)
  |none=>Ls N u v top i (CL (Bg (CP N O u v i)) top i (O.map (rT (Bg (CP N O u v i)) top i))).1 (r+N1 (Bg (CP N O u v i)) i O+(CL (Bg (CP N O u v i)) top i (O.map (rT (Bg (CP N O u v i)) top i))).2.1)
theorem WH(S:Int->Bool)(top i:Int):∀ ts:List Tie,(CL S top i ts).1.length=ts.length/\(CL S top i ts).2.1<=ts.length:=by
 intro ts;induction ts with
  |nil=>exact⟨rfl,AY8 _⟩
  |cons t ts a=>rw[CL];grind
theorem rz(S:Int->Bool)(top i:Int):∀ ts:List Tie,(CL S top i ts).1.map ed=ts.map ed:=by
 intro ts;induction ts with
  |nil=>rfl
  |cons t ts a=>rw[CL];split;grind;split;rw[AZN,AZN,a];rfl;split;rw[AZN,AZN];rfl;grind
theorem ADq(S:Int->Bool)(i:Int)(ts:List Tie):N1 S i ts<=ts.length:=List.countP_le_length
def AXt(a:Bool)(f:Option Edge)(r:Nat):Bool×Bool×Edge×Int×Unit:=(a,f.isSome,((f.getD (0,0,())).1,((f.getD (0,0,())).2.1,())),(r:Int),())
def AKF:Bool×Bool×Edge×Int×Unit:=(false,(false,(((0:Int),((0:Int),())),((0:Int),()))))
noncomputable def Fh(N:Nat)(ts:List Tie)(p:Nat)(t:Tie):List Tie×Option Edge×Nat:=
 if t.2.2.2.1=true then Ls N t.1.toNat t.2.1.toNat (D3 N:Int) (t.2.2.1.toNat+1) (ts.take p++ts.drop (p+1)) 0 else(ts.take p++ts.drop (p+1),none,0)
theorem ALr{N:Nat}(k:1<=N)(h:N<=64){O:List Tie}(b:O.length<=400)(i:(O.map ed).Pairwise DI)(c:∀ e∈O.map ed,e.1<e.2.1)(f:∀ x∈O,InE N (ed x))(l:∀ x∈O,0<=x.2.2.1/\x.2.2.1<=(D3 N:Int))(g:Fo N (trk O 0)):RG2 N O:=by
 have j:oks N O:=by rw[S5];refine⟨fun t b => ?_,?_⟩;have a:=c (ed t) (AZG.2 ⟨t,b,rfl⟩);obtain⟨⟨m,n⟩,o,c2⟩:=f t b;have d:=l t b;rw[<- Sb h]at d;exact⟨m,a,c2,d.1,d.2⟩;rw[AaN]at i;exact i
 exact⟨k,h,b,j,by rw[qF j];exact g⟩
theorem RG2.edP{N:Nat}{ts:List Tie}(h:RG2 N ts):(ts.map ed).Pairwise DI:=by rw[AaN];exact((S5 N ts).1 h.oks).2
theorem RG2.AW5{N:Nat}{ts:List Tie}(h:RG2 N ts):∀ e∈ts.map ed,e.1<e.2.1:=by intro e a;obtain⟨t,b,rfl⟩:=AZG.1 a;exact(h.tie b).2.2.1
theorem lX{N:Nat}{O:List Tie}(h:RG2 N O){u v i:Nat}(b:u<N)(d:v<N)(e:¬ Con (trk O i) (u:Int) (v:Int)):∃ c,PU N ((u:Int),((v:Int),())) i O (Bg (CP N O u v i)) c:=by
 unfold CP;rw[(Ji _).2 h,AZA rfl,AY7 (by rw[C8];exact e)];have a:∀ c:Nat,c<N->∀ w:Nat,w<N->(Bg (JD N (trk O i) (c:Int)) (w:Int)=true↔Con (trk O i) (c:Int) (w:Int)):=by intro c f w g;unfold Bg;rw[AZr,ba];exact⟨fun q=>q.2,fun q=>⟨⟨by omega,by omega⟩,q⟩⟩
 split;rename_i q;exact⟨u,b,.inl rfl,a u b,by show 2*_<=csz N (trk O i) (u:Int)+csz N (trk O i) (v:Int);omega⟩;rename_i q;exact⟨v,d,.inr rfl,a v d,by show 2*_<=csz N (trk O i) (u:Int)+csz N (trk O i) (v:Int);omega⟩
theorem AK0{n:Prop}{N:Nat}(C:1<=N)(D:N<=64){u v:Nat}(E:u<N)(F:v<N):∀ (m:Nat) (O:List Tie) (r:Nat),m<=D3 N+1->O.length<=400->(O.map ed).Pairwise DI->(∀ e∈O.map ed,e.1<e.2.1)->LN n N (D3 N:Int) ((u:Int),((v:Int),())) (m:Int) O ->
  (Ls N u v (D3 N:Int) m O r).1.map ed=O.map ed/\Qn n N (D3 N:Int) (Ls N u v (D3 N:Int) m O r).1 /\
  ((Ls N u v (D3 N:Int) m O r).2.1=none->¬ Con (trk (Ls N u v (D3 N:Int) m O r).1 0) (u:Int) (v:Int)) /\
  ((Ls N u v (D3 N:Int) m O r).2.1≠none->Con (trk (Ls N u v (D3 N:Int) m O r).1 0) (u:Int) (v:Int)):=by
 intro m;induction m with
  |zero=>intro O r _ _ _ _ b;obtain⟨f,g⟩:=b.end;exact⟨rfl,f,fun _=>g,fun h=>absurd rfl h⟩
  |succ i G=>
   intro O r P q s j b;have d:LN n N (D3 N:Int) ((u:Int),((v:Int),())) ((i:Int)+1) O:=b;have k:(i:Int)<=(D3 N:Int):=by omega
   have H:RG2 N O:=ALr C D q s j b.ins b.lvl (b.fo.front (SZ b.ins 0) (fun e w=>by rw[AZW]at w;subst w;exact b.it));obtain⟨c,y⟩:=lX H E F (i:=i) (d.apart i);rw[Ls];generalize Bg (CP N O u v (i:Int))=S at *;have o:((O.map (rT S (D3 N:Int) i)).map ed)=O.map ed:=by rw[List.map_map];exact Aad fun t _=>ao S _ _ t
   have a:=rz S (D3 N:Int) i (O.map (rT S (D3 N:Int) i));have p:=WH S (D3 N:Int) i (O.map (rT S (D3 N:Int) i));rw[o]at a;cases z:(CL S (D3 N:Int) i (O.map (rT S (D3 N:Int) i))).2.2 with
    |none=>obtain⟨f,g⟩:=yY S (D3 N:Int) i _ z;have l:=d.next k y g;rw[<- f]at l;simp only[];have:=G (CL S (D3 N:Int) i (O.map (rT S (D3 N:Int) i))).1 (r+N1 S i O+(CL S (D3 N:Int) i (O.map (rT S (D3 N:Int) i))).2.1) (by omega) (by rw[p.1,AZZ];exact q) (by rw[a];exact s) (by rw[a];exact j) l;rw[a]at this;exact this
    |some e=>obtain⟨A,x,B,I,J,K,L,M,Q⟩:=yX S (D3 N:Int) i e _ z;obtain⟨f,g⟩:=d.found k y I K L M;rw[<- J]at f g;simp only[];exact⟨a,f,fun h=>(by cases h),fun _=>g⟩
theorem AID{g:Prop}{N:Nat}{ts:List Tie}(h:RG2 N ts)(o:Qn g N (D3 N:Int) ts){p:Nat}{t:Tie}(z:ts[p]? = some t):
  RG2 N (Fh N ts p t).1/\Qn g N (D3 N:Int) (Fh N ts p t).1/\(Fh N ts p t).1.map ed=(ts.take p++ts.drop (p+1)).map ed /\
  (t.2.2.2.1=true->((Fh N ts p t).2.1≠none↔Con ((ts.take p++ts.drop (p+1)).map ed) t.1 t.2.1))/\(t.2.2.2.1=false->(Fh N ts p t).2.1=none/\(Fh N ts p t).2.2=0):=by
 have i:p<ts.length:=(AZM.1 z).1;have j:ts[p]=t:=(AZM.1 z).2;have d:ts=ts.take p++t::ts.drop (p+1):=by conv=>lhs;rw[<- AaK p ts,AZh i,j]
 have H:t∈ts:=j▸Aaa i;obtain⟨A,B,I,J,T⟩:=h.tie H;have U:=Sb h.hN;have c:((ts.take p++ts.drop (p+1)).map ed).Sublist (ts.map ed):=by
  conv=>rhs;rw[d]
  exact(List.Sublist.append_left (List.sublist_cons_self _ _) _).map ed
 have k:(ts.take p++ts.drop (p+1)).length<=400:=by have:=h.ht;rw[AZF,AZU,AZ4];omega
 have C:=h.edP.sublist c;have D:∀ e∈(ts.take p++ts.drop (p+1)).map ed,e.1<e.2.1:=fun e l=>h.AW5 e (c.subset l);have fin:∀ n:List Tie,n.map ed=(ts.take p++ts.drop (p+1)).map ed->Qn g N (D3 N:Int) n->RG2 N n:=fun n l f=>ALr h.h1 h.hN (by have:=AaB List.length l;rw[AZZ,AZZ]at this;omega) (by rw[l];exact C) (by rw[l];exact D) f.ins f.lvl f.fo
 unfold Fh;cases E:t.2.2.2.1;simp only[AZH,AZL];have f:Qn g N (D3 N:Int) (ts.take p++ts.drop (p+1)):=by rw[d]at o;exact o.other E
 exact⟨fin _ rfl f,f,trivial,fun q=>q.elim,fun _=>⟨trivial,trivial⟩⟩;simp only[AZa];obtain⟨a,F⟩:=AY6 A.2.2.1;obtain⟨b,G⟩:=AY6 B.2.2.1;obtain⟨r,s⟩:=AY6 J;have u:a<N:=by have:=A.2.2.2;omega
 have v:b<N:=by have:=B.2.2.2;omega
 have w:LN g N (D3 N:Int) ((a:Int),((b:Int),())) ((r+1:Nat):Int) (ts.take p++ts.drop (p+1)):=by
  have m:=o;rw[d]at m;have:=m.AXz E;have K:ed t=((a:Int),((b:Int),())):=by unfold ed;rw[F,G]
  rw[K,s]at this;exact this
 have L:t.1.toNat=a:=by omega
 have M:t.2.1.toNat=b:=by omega
 have O:t.2.2.1.toNat+1=r+1:=by omega
 rw[L,M,O];obtain⟨x,y,P,Q⟩:=AK0 h.h1 h.hN u v (r+1) (ts.take p++ts.drop (p+1)) 0 (by omega) k C D w;refine⟨fin _ x y,y,x,fun _ => ?_,fun q=>by cases q⟩;rw[<- x,y.span,F,G];constructor;exact Q;intro R S;exact P S R
noncomputable def Cr(N:Nat)(ts:List Tie)(l:List Edge):List Edge:=(EM N l).filter fun x=>decide (x∈ts.map ed)
theorem AIm{A B:List Edge}{x:Edge}(h:(A++x::B).Pairwise DI):A++B=(A++x::B).filter fun e=>decide (e≠x):=by
 have b:∀ e∈A,e≠x:=fun e a=>by rw[AbD]at h;have:=h.2.2 e a x (by simp);rintro rfl;unfold DI at this;omega
 have c:∀ e∈B,e≠x:=fun e a=>by rw[AbD,AZj]at h;have:=h.2.1.1 e a;rintro rfl;unfold DI at this;omega
 rw[AZ5,AaF,AY7 (by simp),AZ7.2 (fun e a=>AY0 (b e a)),AZ7.2 (fun e a=>AY0 (c e a))]
theorem AIF{N:Nat}{ts:List Tie}{l:List Edge}{x:Edge}(a:x∈Cr N ts l):0<=x.1/\x.1<x.2.1/\x.2.1<(N:Int)/\x∈ts.map ed:=by unfold Cr at a;rw[AZS,Ey,AZr]at a;exact⟨a.1.1,a.1.2.1,a.1.2.2.1,a.2⟩
theorem Ry(N:Nat)(ts:List Tie)(l:List Edge):(Cr N ts l).Pairwise DI:=(OW N l).filter _
theorem jU(N:Nat)(a:N<=64)(ts:List Tie)(l:List Edge):(Cr N ts l).length<=4096:=AZu (AZy _ _) (xz N a l)
section
variable {N top:Nat} {ts w:List Tie} (hp:w.Perm ts) (hi:∀ x∈ts,InE N (ed x)) (hl:∀ t∈ts,0<=t.2.2.1/\t.2.2.1<=(top:Int)) (hfo:Fo N (trk ts 0)) (hlie:∀ x∈ts,x.2.2.2.1=false->Con (trk ts x.2.2.1) x.1 x.2.1)
include hp hi
include hl hfo hlie
end
def lvl(ts:List Tie)(k:Int):List Tie:=ts.filter fun t=>decide (t.2.2.1=k)
section
variable (n:Int) (ts:List Tie)
theorem tO(a:Fl ((n,(ts,())),())=some (false,())):TB ((n,(ts,())),())=some (false,()):=by rw[Rg,P1];simp only[a,AZO]
end
def mid(f:Int->Int)(xs:List Int)(i:Nat):List Int:=(xs.take i).map f++xs.drop i
def lb(a:List Int)(v:Int):Int:=a.getD v.toNat 0
section
variable {α β:Type} [DecidableEq α]
theorem bm(b:List (α×β))(k:α)(v:β)(j:α):A8 (BC b k v) j=if j=k then some v else A8 b j:=by
 induction b with
  |nil=>simp only[BC,A8];by_cases h:j=k;rw[AZA h,AZA h.symm];rw[AY7 h,AY7 (Aal h)]
  |cons e b d=>obtain⟨a,x⟩:=e;by_cases c:a=k;subst c;simp only[BC,A8,AZa];by_cases h:j=a;rw[AZA h,AZA h.symm];rw[AY7 h,AY7 (Aal h),AY7 (Aal h)];simp only[BC,A8,c,AZL,d];by_cases h:a=j;subst h;rw[AZA rfl,AY7 c,AZA rfl];rw[AY7 h,AY7 h]
theorem iY:∀ (c:List (α×β)) (k:α),FV c k=none->∀ v,BC c k v=c++[(k,v)]:=by
 intro c;induction c with
  |nil=>intro k _ v;rfl
  |cons e c f=>intro k h v;obtain⟨a,b⟩:=e;by_cases d:a=k;simp[FV,d]at h;simp only[FV,d,AZL,Ab0]at h;simp only[BC,d,AZL,f k h v,AZe]
theorem iX:∀ (c:List (α×β)) (k:α) (n:Nat),FV c k=some n->∀ v,n<c.length/\BC c k v=c.modify n fun e=>(e.1,v):=by
 intro c;induction c with
  |nil=>intro k n h;simp[FV]at h
  |cons e c f=>intro k n h v;obtain⟨a,b⟩:=e;by_cases d:a=k;simp only[FV,d,AZa,AY1]at h;subst h;simp[BC,d];simp only[FV,d,AZL,AZB]at h;obtain⟨m,g,rfl⟩:=h;obtain⟨j,i⟩:=f k m g v;simp only[BC,d,AZL,AZC];exact⟨by omega,by rw[i];rfl⟩
theorem zX(a:List (α×β))(k:α)(z v:β):(ile (0:Int) (LV a k)&&ilt (LV a k) (A3 (BC a k z)))=true/\Rd (BC a k z) (LV a k) v=BC a k v:=by
 rw[BQ,BG];unfold LV Rd;cases h:FV a k with
  |none=>
   rw[iY a k h,iY a k h,Option.getD_none,AZX];constructor;rw[AY0 (by omega),AY0 (by rw[A9,AZF];simp;omega)];rfl;have:∀ (xs:List (α×β)),(xs++[(k,z)]).modify xs.length (fun e=>(e.1,v))=xs++[(k,v)]:=by
    intro xs;induction xs with
     |nil=>rfl
     |cons x xs b=>rw[AZe,AZC,List.modify_succ_cons,b];rfl
   exact this a
  |some n=>
   obtain⟨f,c⟩:=iX a k n h z;obtain⟨_,d⟩:=iX a k n h v;rw[c,d,AZ2,AZX];constructor;rw[AY0 (by omega),AY0 (by rw[A9,List.length_modify];omega)];rfl;apply AZt;intro i;simp only[List.getElem?_modify];cases a[i]? with
    |none=>split<;>rfl
    |some e=>split<;>rfl
end
theorem TH(p x:Tie):Fc (p,x,())=some (if ahead p x then -1 else if p.1=x.1/\p.2.1=x.2.1 then 0 else 1,()):=by rw[Ot,NH];simp only[Nf,mZ];congr 2;unfold R8 ahead;omega
theorem AQI{ts:List Tie}(H:ts.length<=400)(A:ts.Pairwise ahead)(g:Tie):∃ k:Nat,k<=ts.length/\(∀ j t,ts[j]? = some t->(j<k↔ahead t g)) /\
  AQJ (ts,g,())=some ((k:Int),match ts[k]? with|some t=>decide (t.1=g.1/\t.2.1=g.2.1)|none=>false,()):=by
 have o:∀ (i j:Nat) (t t':Tie),i<=j->ts[i]? = some t->ts[j]? = some t'->ahead t' g->ahead t g:=by intro i j t t' m w z B;by_cases e:i=j;grind;have q:=(AZM.1 z).1;have hi:=(AZM.1 w).1;have:=AaH.1 A i j hi q (by omega);rw[(AZM.1 w).2,(AZM.1 z).2]at this;exact this.trans B
 obtain⟨a,b,c,d,⟨⟩⟩:=g
 obtain⟨k,_,C,I,J,D⟩:=AYt (step:=UE) (fun i j=>(ts,a,b,c,d,(ts.length:Int),(i:Int),(j:Int),())) (fun i=>match ts[i]? with|some t=>decide (ahead t (a,b,c,d,()))|none=>false)
  (fun i=>.inl (ts,a,b,c,d,(ts.length:Int),(i:Int),())) 0 ts.length (AbR _) (by omega)
  (fun i j _ m q=>by
   have E:(i+j)/2<ts.length:=by omega
   have l:ts[(i+j)/2]? = some ts[(i+j)/2]:=by simp[E]
   have F:shr? .u64 (((i+j:Nat)):Int) (1:Int)=some (((i+j)/2:Nat):Int):=Yx (i+j) 1 (by omega)
   rw[UE,A4,AY0 m]
   simp only[]
   rw[show((i:Int)+(j:Int))=((i+j:Nat):Int) by omega,BI (n:=((i+j:Nat):Int)) (by omega),AKE (i+j) (by omega)]
   simp only[F,BI (n:=(((i+j)/2:Nat):Int)) (by omega),BB l]
   have r:=TH ts[(i+j)/2] (a,b,c,d,())
   have f:Fc (((ts[(i+j)/2]).1,((ts[(i+j)/2]).2.1,((ts[(i+j)/2]).2.2.1,((ts[(i+j)/2]).2.2.2.1,())))),(a,(b,(c,(d,())))),())=_:=r
   simp only[f,l]
   by_cases p:ahead ts[(i+j)/2] (a,b,c,d,())
   ·simp only[AZA p,AY0 p,AZa]
    rw[BG,AY0 (by omega),A6 (by omega)]
   ·simp only[AY7 p,AYz p]
    rw[BG,AYz (by omega)]
    rfl)
  (fun i _ _=>by rw[UE,A4,AYz (by omega)])
  (fun x y _ G K h=>by
   grind)
 refine⟨k,C,fun j t q => ?_,?_⟩;grind;rw[ADv,ABj];have s:A_ UE many (ts,a,b,c,d,A3 ts,(0:Int),A3 ts,())=_:=D;simp only[s];by_cases u:k<ts.length;have l:ts[k]? = some ts[k]:=by simp[u]
 have v:¬ ahead ts[k] (a,b,c,d,()):=by grind
 have r:=TH ts[k] (a,b,c,d,());have f:Fc (((ts[k]).1,((ts[k]).2.1,((ts[k]).2.2.1,((ts[k]).2.2.2.1,())))),(a,(b,(c,(d,())))),())=_:=r;rw[A4,AY0 u];simp only[BB l,f,l,AY7 v,BL];simp;have l:ts[k]? = none:=AaV (by omega);rw[A4,AYz u];grind
theorem jH{N:Nat}{ts:List Tie}(h:RG2 N ts)(u v:Int):tU (((N:Int),(ts,())),u,v,())=some (if ts.any (Ep u v)then((ts.findIdx (Ep u v):Nat):Int)else -1,()):=by
 have q:=((S5 N ts).1 h.oks).2;obtain⟨k,z,l,s⟩:=AQI h.ht q (min u v,max u v,0,false,());rw[tT,mu];simp only[h.lr,AY4,jF,bk,QB,TU];have m:AQJ (ts,(min u v,(max u v,((0:Int),(false,())))),())=_:=s;simp only[m];cases n:ts[k]? with
  |none=>
   have i:ts.any (Ep u v)=false:=by
    rw[List.any_eq_false];intro t w a;obtain⟨j,g,rfl⟩:=AZv w;have c:ts[j]? = some ts[j]:=by simp[g]
    have b:j<k:=by grind
    have d:=(l j _ c).1 b;unfold Ep at a;rw[AZr]at a;unfold ahead at d;grind
   grind
  |some t=>
   by_cases A:t.1=min u v/\t.2.1=max u v;have x:=(AZM.1 n)
   obtain⟨e,f⟩:=x;have a:Ep u v t=true:=by unfold Ep;grind
   have r:ts.any (Ep u v)=true:=AbG.2 ⟨t,AY9 n,a⟩;have y:ts.findIdx (Ep u v)=k:=by
    rw[List.findIdx_eq e,f];refine⟨a,fun j g => ?_⟩;have c:ts[j]? = some ts[j]:=by simp
    have d:=(l j _ c).1 g;unfold Ep;rw[AZc];unfold ahead at d;grind
   grind;have i:ts.any (Ep u v)=false:=by
    rw[List.any_eq_false];intro t' o a;obtain⟨j,g,rfl⟩:=AZv o;have c:ts[j]? = some ts[j]:=by simp[g]
    unfold Ep at a;rw[AZr]at a;obtain⟨e,f⟩:=AZM.1 n;rcases AbU j k with b|b|b;have d:=(l j _ c).1 b;unfold ahead at d;grind;grind;have d:=AaH.1 q k j e g b;rw[f]at d;have p:¬ ahead t (min u v,max u v,0,false,()):=fun B=>by grind
    unfold ahead at d p;grind
   grind
end Go.Pev.Pl
end
section
namespace Go.Pev.Pl.SI
open Go.Sort
def ok(_:Int):Prop:=True
def lt(x y:Int):Bool:=decide (x<y)
theorem swo:SWO lt:=⟨fun x=>by simp[lt],fun x y z a b=>by simp only[lt,AY2]at *;omega,fun x y z a b=>by simp only[lt,AZc]at *;omega⟩
theorem mv{x y:Int}(_:ok x)(_:ok y):∃ r,DC (x,y,())=some (r,())/\tId r=lt x y:=by refine⟨decide (x<y),?_,rfl⟩;rw[tW,mz];simp only[K7,M',BG,B1];by_cases h:x<y<;>simp[h]
noncomputable def S:SG.SP Int Bool:=⟨(0:Int),DC,tId,ok,0,trivial,lt,swo,fun a b=>mv a b⟩
def sorted(xs:List Int):List Int:=xs.mergeSort (fun x y=>decide (x<=y))
theorem AE4(xs:List Int)(h:xs.length<4294967296):qb (xs,())=some (sorted xs,()):=by
 obtain⟨ys,e,d,f⟩:=SG.IJ S xs h (fun _ _=>trivial);have g:qb (xs,())=some (ys,()):=e;rw[g];have i:(sorted xs).Perm xs:=Abf _ _;have j:(sorted xs).Pairwise (·<=·):=by have:=AbI (le:=fun x y:Int=>decide (x<=y)) (fun a b c d f=>by simp at *;omega) (fun a b=>by simp;omega) xs;exact this.imp fun h=>by simpa using h
 have k:ys.Pairwise (·<=·):=f.imp fun {a b} q=>by have:lt b a=false:=q;unfold lt at this;rw[AZc]at this;omega
 rw[AaW (le:=fun a b:Int=>a<=b) (fun a b _ _ d f=>by omega) k j (d.trans i.symm)]
end Go.Pev.Pl.SI
end
section
namespace Go.Pev.Pl
open Tok
theorem JJ{a o:List Int}{m k:Nat}(h:a.drop m=o.drop m)(b:m<=k):a.getD k 0=o.getD k 0:=by have:=AaB (fun l=>l.getD (k-m) 0) h;grind
theorem DX{xs:List Int}{i:Nat}(h:i<xs.length):xs.take (i+1)=xs.take i++[xs.getD i 0]:=by simp_all
theorem APT(o:List Int)(n:Int)(b:List (List Int))(t:o.length<4294967296):∀ (k j w:Nat) (a:List Int) (cnt:Nat),j+k=o.length->a.length=o.length->w=(FG n (o.take j)).length->a.take w=FG n (o.take j)->w<j->a.drop j=o.drop j->k<cnt ->
  ∃ f:List Int,BA Fq cnt (a,n,b,(w:Int),(j:Int),())=some (.inl (f,n,b,(((FG n o).length:Nat):Int),()))/\f.length=o.length/\f.take (FG n o).length=FG n o:=by
 intro k;induction k with
  |zero=>
   intro j w a cnt q g m i l hd r;obtain⟨cnt,rfl⟩:∃ k,cnt=k+1:=⟨cnt-1,by omega⟩
   have e:j=o.length:=by omega
   subst e;rw[AZT]at m i;rw[BA,Fq,A9,A4,AYz (by omega)];grind
  |succ k p=>
   intro j w a cnt q g m i l hd r;obtain⟨cnt,rfl⟩:∃ k,cnt=k+1:=⟨cnt-1,by omega⟩
   have s:a.getD j 0=o.getD j 0:=JJ hd (AY8 _);have d:a.drop (j+1)=o.drop (j+1):=by have:=AaB (List.drop 1) hd;simpa only[AaO]using this
   have c:FG n (o.take (j+1))=FG n (o.take j)++if n<=o.getD j 0 then []else [o.getD j 0]:=by rw[DX (by omega),FG,AZ5];generalize o.getD j 0=v;by_cases h:n<=v<;>simp[FG,h]
   rw[BA,Fq,A9,A4,AY0 (by omega)];simp (disch:=omega) only[Cd (0:Int),Ek,FX,s,BQ,A6];by_cases h:n<=o.getD j 0;rw[AY0 h];rw[AZA h,AZ8]at c;exact p (j+1) w a cnt (by omega) g (by grind) (by grind) (by omega) d (by omega);rw[AYz h];rw[AY7 h]at c;refine p (j+1) (w+1) (a.set w (o.getD j 0)) cnt (by omega) (by simp[g]) (by grind) ?_ (by omega) ?_ (by omega);rw[c,<- i,AZf (by grind)];simp[Abg];rw[Abh (by omega)];exact d
theorem jG{n:Int}{o:List Int}(h:∀ j,j<o.length->decide (n<=o.getD j 0)=false):FG n o=o:=by rw[FG,AZ7];intro x a;obtain⟨j,b,e⟩:=AZv a;grind
theorem AUL(o:List Int)(n:Int)(b:List (List Int))(g:o.length<4294967296):
  ∃ a:List Int,JM (o,n,b,())=some (a,n,b,(((FG n o).length:Nat):Int),())/\a.take (FG n o).length=FG n o:=by
 have u:4294967296<many:=by simp only[many];omega
 rw[Nu,Ka,Ns,KT];simp only[A9]
 rcases ALS (step:=Di) (fun i=>(o,n,b,(o.length:Int),(i:Int),())) o.length (fun i=>decide (n<=o.getD i 0)) (fun i=>.inl (o,n,b,(i:Int),())) (.inr (.inl (o,n,b,()))) (by omega)
   (fun i hi=>by
    rw[Di]
    simp (disch:=omega) only[A4,hi,AZD,Cd (0:Int),Ek,BQ,A6]
    grind) (by rw[Di];simp only[A4,AbA,AZQ])with⟨k,hk,hP,hF,e⟩|⟨hP,e⟩
 have d:A_ Di many (o,n,b,(o.length:Int),(0:Int),())=_:=e;have f:FG n (o.take k)=o.take k:=jG fun j v=>by grind
 have h:FG n (o.take (k+1))=o.take k:=by
  rw[DX hk,FG,AZ5];have:(List.filter (fun t => !decide (n<=t)) [o.getD k 0])=[]:=by grind
  rw[this,AZ8];exact f
 obtain⟨c,m,w,p⟩:=APT o n b g (o.length-(k+1)) (k+1) k o many (by omega) rfl (by grind) (by rw[h]) (by omega) rfl (by omega);have q:(FG n o).length<=o.length:=AZy _ _;have r:(Bp (FG n o).length (c.length-(FG n o).length) 0 c).length=c.length:=by simp[Bp];omega
 have s:Ci (Bp (FG n o).length (c.length-(FG n o).length) 0 c) (0:Int) (((FG n o).length:Nat):Int)=some _:=Gh (l:=0) (by omega) (by omega);simp only[d,B1];rw[show((k:Int) == -1)=false from beq_false_of_ne (by omega),A6 (by omega)];simp only[BO,m];rw[Gh (by omega) (by omega)];simp only[AZT,AZ4,EA,s];refine⟨Bp (FG n o).length (c.length-(FG n o).length) 0 c,?_,?_⟩;grind;rw[Bp,Aa0 (by grind),Aaq,Nat.min_self];exact p;have d:A_ Di many (o,n,b,(o.length:Int),(0:Int),())=_:=e;have f:=jG hP;simp only[d,B1];simp_all
theorem qZ{n:Int}{A:List Int}(h:RG n A):SI.sorted (FG n A)=Qp n A:=by
 have e:(SI.sorted (FG n A)).Perm (FG n A):=Abf _ _;have d:=AHZ h;have f:(SI.sorted (FG n A)).Pairwise (·<=·):=by have:=AbI (le:=fun x y:Int=>decide (x<=y)) (fun a b c g i=>by grind) (fun a b=>by grind) (FG n A);exact this.imp fun h=>by grind
 exact AaW (le:=fun a b:Int=>a<=b) (fun a b _ _ g i=>by omega) f ((qA n A).imp fun h=>by omega) (e.trans d)
theorem nq{n:Int}{b:List (List Int)}{i:Nat}{A:List Int}{v:Int}(h:FR n b)(d:In n v)(hi:b[i]? = some A)(g:v∈A):MS ((n,(b,())),v,())=some (Qp n A,0,()):=by
 have e:=h.dom;have c:=dW.2 h;have f:=h.rg A (AY9 hi);have o:=f.1.1;rw[Xu,R2];have j:R0 ((n,(b,())),[v],())=some (0,()):=by rw[cT n b _ e (by simp),AUk];grind
 obtain⟨a,k,l⟩:=AUL A n b (by omega);simp only[j,E1,AY4,AQz n b v e,c,d,and_self,AZa,h.xx hi d.2.2.2 g,BB hi,dG (show A.length<=4294967296 by omega),k,CT,EA,l];have m:(FG n A).length<=A.length:=AZy _ _;rw[SI.AE4 _ (by omega),qZ f]
theorem wU{N:Nat}{a:List (List Int)}{l:List Edge}(h:FC (N:Int) a l){i:Nat}{A:List Int}{v:Int}(b:In (N:Int) v)(hi:a[i]? = some A)(c:v∈A):Qp (N:Int) A=JD N l v:=by
 have d:=AY9 hi;obtain⟨e,f⟩:=h.fr.sz;unfold Qp JD;rw[AZX,List.filter_map];congr 1;refine AaU fun w g => ?_;rw[AZY]at g;have j:In (N:Int) (w:Int):=⟨e,f,by omega,by omega⟩
 show decide ((w:Int)∈A)=Nd l v (w:Int);rw[AaX,AZr,C8,<- h.sam v (w:Int) b j];constructor;intro k;exact⟨A,d,c,k⟩;rintro⟨B,m,n,o⟩;rw[h.fr.one d m b.2.2.2 c n];exact o
theorem FC.members{N:Nat}{a:List (List Int)}{l:List Edge}(h:FC (N:Int) a l){v:Int}(b:In (N:Int) v):MS (((N:Int),(a,())),v,())=some (JD N l v,0,()):=by obtain⟨i,A,_,hi,c,_⟩:=Vz (h.fr.cov v b);rw[nq h.fr b hi c,wU h b hi c]
theorem bB{n:Int}{ts:List Tie}(u v:Int)(a:Ej ((n,(ts,())),())=some (false,())):WA ((n,(ts,())),u,v,())=some (0,1,()):=by rw[V_,S0];grind
theorem bA{N:Nat}{ts:List Tie}(h:RG2 N ts)(u v:Int):WA (((N:Int),(ts,())),u,v,())=some (if InV N u/\InV N v then(if ts.any (Ep u v)=true then((ts.findIdx (Ep u v):Nat):Int)else 0)else 0,if InV N u/\InV N v then(if ts.any (Ep u v)=true then 0 else 6)else 10,()):=by
 rw[V_,S0];simp only[h.lr,AY4,QB,TU,BG,BQ];by_cases b:min u v<0;have a:¬ (InV N u/\InV N v):=fun q=>by unfold InV at q;omega
 grind;simp only[AYz b];by_cases c:(N:Int)<=max u v;have a:¬ (InV N u/\InV N v):=fun q=>by unfold InV at q;omega
 grind;have a:InV N u/\InV N v:=⟨⟨by omega,by omega⟩,by omega,by omega⟩
 simp only[AYz c,AZA a,jH h];grind
theorem rR{N:Nat}(C:N<=64)(ts:List Tie)(D:ts.length<=400)(u v:Nat)(m:u<N)(n:v<N)(k:Int):∃ e,ACJ (((N:Int),(ts,())),(u:Int),(v:Int),k,())=some (CP N ts u v k,e,()):=by
 by_cases a:RG2 N ts;have E:=a.h1;have o:In (N:Int) (u:Int):=⟨by omega,by omega,by omega,by omega⟩
 have p:In (N:Int) (v:Int):=⟨by omega,by omega,by omega,by omega⟩
 have s:InV N (u:Int)/\InV N (v:Int):=⟨⟨by omega,by omega⟩,by omega,by omega⟩
 obtain⟨F,t,i⟩:=a.AWt k;have w:=S' N (trk ts k) (u:Int);have x:=S' N (trk ts k) (v:Int);have G:=ZT N (trk ts k) (u:Int);have H:=ZT N (trk ts k) (v:Int);have y:∀ l:List Int,A7 l 0 0=l.headD 0:=fun l=>by cases l<;>rfl
 have c:=H3 (JD N (trk ts k) (u:Int)) (v:Int) (by omega);have z:ieq (if(ts.any (Ep (u:Int) (v:Int)))=true then(0:Int)else 6) 1=false:=by split<;>(rw[BL];rfl)
 have A:ieq (if(ts.any (Ep (u:Int) (v:Int)))=true then(0:Int)else 6) 10=false:=by split<;>(rw[BL];rfl)
 rw[au,Y2];simp only[bA a,AZA s,t,i.members o,i.members p,c,ir m,ir n,y,Nf,mZ,z,A];rw[CP,AZA ((Ji _).2 a)];have B:decide ((v:Int)∈JD N (trk ts k) (u:Int))=Nd (trk ts k) (u:Int) (v:Int):=by rw[AaX,AZr,ba,C8];grind
 rw[B];cases Nd (trk ts k) (u:Int) (v:Int);simp only[A9,w,x,AZH,AZL];by_cases d:csz N (trk ts k) (u:Int)<csz N (trk ts k) (v:Int);have b:R8 (csz N (trk ts k) (u:Int):Int) (csz N (trk ts k) (v:Int):Int) = -1:=by unfold R8;omega
 simp only[b,AY7 (show ¬ ((-1:Int)=0) by omega),BG,AY0 (show(-1:Int)<0 by omega),AZA (show csz N (trk ts k) (u:Int)<csz N (trk ts k) (v:Int)\/_ from .inl d)];simp;by_cases b:csz N (trk ts k) (u:Int)=csz N (trk ts k) (v:Int);have f:R8 (csz N (trk ts k) (u:Int):Int) (csz N (trk ts k) (v:Int):Int)=0:=by unfold R8;omega
 simp only[f,AZa];by_cases j:(JD N (trk ts k) (u:Int)).headD 0<(JD N (trk ts k) (v:Int)).headD 0;have g:R8 ((JD N (trk ts k) (u:Int)).headD 0) ((JD N (trk ts k) (v:Int)).headD 0) = -1:=by unfold R8;omega
 simp only[g,BG,AY0 (show(-1:Int)<0 by omega),AZA (show _\/_/\_ from .inr ⟨b,j⟩)];simp;have g:¬ R8 ((JD N (trk ts k) (u:Int)).headD 0) ((JD N (trk ts k) (v:Int)).headD 0)<0:=by unfold R8;omega
 simp only[BG,AYz g,AY7 (show ¬ (_\/_/\_)from fun q=>q.elim d fun q=>j q.2)];simp;have f:R8 (csz N (trk ts k) (u:Int):Int) (csz N (trk ts k) (v:Int):Int)=1:=by unfold R8;omega
 simp only[f,AY7 (show ¬ ((1:Int)=0) by omega),BG,AYz (show ¬ (1:Int)<0 by omega),AY7 (show ¬ (_\/_/\_)from fun q=>q.elim d fun q=>b q.1)];simp;simp;rcases Vw (N:Int) ts (by omega)with⟨I,r⟩|⟨J,e,h⟩
 rw[au,Y2,CP,AY7 (fun q=>a ((Ji _).1 q))];simp only[bB _ _ r,QC];simp;grind
def ofM(s:List Int):List (Int×Int):=s.foldl (fun m w=>BC m w 1) []
theorem ANR(w:Int):∀ (s:List Int) (m:List (Int×Int)),(A8 (s.foldl (fun m w=>BC m w 1) m) w).getD 0=if w∈s then 1 else(A8 m w).getD 0:=by
 intro s;induction s with
  |nil=>simp
  |cons x s a=>intro m;rw[AZm,a,bm];grind
theorem ACv(s:List Int)(w:Int):(A8 (ofM s) w).getD 0=if Bg s w=true then 1 else 0:=by unfold ofM Bg;rw[ANR];simp[A8]
def Xz(S:Int->Bool)(x:Tie):Int:=(if S x.1=true then 1 else 0)+(if S x.2.1=true then 1 else 0)
theorem je(s:List Int)(x:Tie):w64 ((A8 (ofM s) x.1).getD 0+(A8 (ofM s) x.2.1).getD 0)=Xz (Bg s) x:=by rw[ACv,ACv];unfold Xz;rw[BI (by omega)]
theorem uW(S:Int->Bool)(x:Tie):ieq (Xz S x) 2=both S x:=by rw[BL];unfold Xz both;grind
theorem AIc(S:Int->Bool)(x:Tie):ieq (Xz S x) 0=(!S x.1 && !S x.2.1):=by rw[BL];unfold Xz;grind
theorem AO7(S:Int->Bool)(x:Tie):ieq (Xz S x) 1=decide (I6 S x):=by rw[BL];refine Aa4.2 ?_;unfold Xz I6;grind
def otp(i:Int):Nat->List Tie->List Int
 |_,[]=>[]
 |j,x::R=>if x.2.2.2.1=false/\x.2.2.1=i then(j:Int)::otp i (j+1) R else otp i (j+1) R
theorem AWO(S:Int->Bool)(top i:Int):∀ (R:List Tie) (j:Nat),otp i j (R.map (rT S top i))=otp i j R:=by
 intro R;induction R with
  |nil=>simp
  |cons x R a=>intro j;rw[AZN,otp,otp,a,M8];by_cases h:x.2.2.2.1=false;rw[IN h];grind
section
variable (n:Int) (a2 a3:Bool) (a4 a5 top:Int)
theorem AF9(O:List Tie)(r i:Int)(s:List Int)(f:s.length<=400):
  A_ WG many (n,O,a2,a3,a4,a5,r,top,i,([]:List (Int×Int)),s,(s.length:Int),(0:Int),())=some (.inl (n,O,a2,a3,a4,a5,r,top,i,ofM s,())):=by
 have e:=Er (step:=WG) (fun j (m:List (Int×Int))=>(n,O,a2,a3,a4,a5,r,top,i,m,s,(s.length:Int),(j:Int),())) s (fun w m=>.inl (BC m w 1)) (fun m=>.inl (n,O,a2,a3,a4,a5,r,top,i,m,())) (fun _ _=>True) (by omega)
  (fun j x m c b _=>by
   refine⟨fun g a => ?_,fun r a=>(by cases a)⟩
   cases a
   refine⟨?_,trivial⟩
   unfold WG
   dsimp only
   rw[A4,AY0 c]
   simp only[BB b,CG b]
   rw[A6 (by omega)])
  (fun m _=>by unfold WG;dsimp only;rw[A4,AYz (by omega)]) [] trivial
 have d:A_ WG many (n,O,a2,a3,a4,a5,r,top,i,([]:List (Int×Int)),s,(s.length:Int),(0:Int),())=_:=e;rw[d,Ch (fun w (m:List (Int×Int))=>BC m w 1)];rfl
theorem AF8(O:List Tie)(E:O.length<=400)(r:Nat)(F:r<1073741824)(i:Nat)(hi:i<64)(s:List Int):
  A_ WE many (n,O,a2,a3,a4,a5,(r:Int),top,(i:Int),ofM s,([]:List Int),(O.length:Int),(0:Int),()) =
  some (.inl (n,O.map (rT (Bg s) top i),a2,a3,a4,a5,((r+N1 (Bg s) i O:Nat):Int),top,ofM s,otp i 0 O,())):=by
 have g:∀ (R A:List Tie) (j cnt q:Nat) (b:List Int),A.length=j->A.length+R.length=O.length->R.length<cnt->q+R.length<2147483648->b.length<=j ->
   BA WE cnt (n,A++R,a2,a3,a4,a5,(q:Int),top,(i:Int),ofM s,b,(O.length:Int),(j:Int),()) =
   some (.inl (n,A++R.map (rT (Bg s) top i),a2,a3,a4,a5,((q+N1 (Bg s) i R:Nat):Int),top,ofM s,b++otp i j R,())):=by
  intro R
  induction R with
  |nil=>
   intro A j cnt q b e l m o v
   obtain⟨cnt,rfl⟩:∃ c,cnt=c+1:=⟨cnt-1,by omega⟩
   unfold WE
   rw[BA]
   dsimp only
   rw[A4,AYz (by grind)]
   simp[N1,otp]
  |cons x R w=>
   intro A j cnt q b e l m o v
   obtain⟨cnt,rfl⟩:∃ c,cnt=c+1:=⟨cnt-1,by omega⟩
   rw[AZC]at l m o
   have p:=k9 (R:=R) (x:=x) e
   have next:∀ (y:Tie) (d:Nat) (a:List Int),d+R.length<2147483648->a.length<=j+1->rT (Bg s) top i x=y->d+N1 (Bg s) i R=q+N1 (Bg s) i (x::R)->a++otp i (j+1) R=b++otp i j (x::R) ->
     BA WE cnt (n,A++y::R,a2,a3,a4,a5,(d:Int),top,(i:Int),ofM s,a,(O.length:Int),((j+1:Nat):Int),()) =
     some (.inl (n,A++(x::R).map (rT (Bg s) top i),a2,a3,a4,a5,((q+N1 (Bg s) i (x::R):Nat):Int),top,ofM s,b++otp i j (x::R),())):=by
    intro y d a h k G t z
    have:=w (A++[y]) (j+1) cnt d a (by simp[e]) (by simp;omega) (by omega) h k
    simp_all
   have B:N1 (Bg s) i (x::R)=N1 (Bg s) i R+if(x.2.2.2.1&&(decide (x.2.2.1=(i:Int))&&both (Bg s) x))=true then 1 else 0:=by
    unfold N1
    grind
   have C:otp (i:Int) j (x::R)=if x.2.2.2.1=false/\x.2.2.1=(i:Int)then(j:Int)::otp i (j+1) R else otp i (j+1) R:=rfl
   unfold WE at next |-
   rw[BA]
   dsimp only
   rw[A4,AY0 (by omega)]
   simp only[BB p,CG p]
   rw[A6 (show j+1<9223372036854775808 by omega),A6 (show q+1<9223372036854775808 by omega),BL]
   by_cases f:x.2.2.1=(i:Int)
   ·rw[AY0 f]
    simp only[AY4]
    cases u:x.2.2.2.1
    ·simp only[AZO]
     rw[CN (by simp only[A9,AZC,AZP];omega),EA,I0]
     refine next x q _ (by omega) (by simp;omega) (IN u) ?_ ?_
     ·grind
     grind
    ·simp only[AY4]
     rw[je,uW]
     cases D:both (Bg s) x
     ·simp only[]
      refine next x q b (by omega) (by omega) ?_ ?_ ?_
      ·unfold rT
       grind
      all_goals grind
     ·simp only[]
      rw[k8 e,QB,f,A6 (show i+1<9223372036854775808 by omega)]
      refine next _ (q+1) b (by omega) (by omega) ?_ ?_ ?_
      ·unfold rT
       rw[AZA ⟨u,f,D⟩]
       unfold Iu
       grind
      all_goals grind
   ·rw[AYz f]
    simp only[AZO]
    refine next x q b (by omega) (by omega) ?_ ?_ ?_
    ·unfold rT
     grind
    all_goals grind
 have:=g O [] 0 many r [] rfl (by simp) (by simp only[many];omega) (by omega) (by simp);rw[BO];grind
theorem AF7(O:List Tie)(k:O.length<=400)(r:Nat)(D:r<1073741824)(i:Nat)(hi:i<64)(s:List Int):
  A_ WD many (n,O,a2,a3,a4,a5,(r:Int),top,ofM s,otp i 0 O,((otp i 0 O).length:Int),(0:Int),()) =
  some (match(CL (Bg s) top i O).2.2 with
   |some e=>.inr (.inl (n,(CL (Bg s) top i O).1,a2,true,e.1,e.2.1,((r+(CL (Bg s) top i O).2.1:Nat):Int),top,true,()))
   |none=>.inl (n,(CL (Bg s) top i O).1,a2,a3,a4,a5,((r+(CL (Bg s) top i O).2.1:Nat):Int),top,())):=by
 have l:∀ (R A:List Tie) (j cnt q:Nat) (a:List Int),A.length=j->R.length<cnt->q+R.length<2147483648->a.length<=j->j+R.length<=400 ->
   BA WD cnt (n,A++R,a2,a3,a4,a5,(q:Int),top,ofM s,a++otp i j R,((a++otp i j R).length:Int),(a.length:Int),()) =
   some (match(CL (Bg s) top i R).2.2 with
    |some e=>.inr (.inl (n,A++(CL (Bg s) top i R).1,a2,true,e.1,e.2.1,((q+(CL (Bg s) top i R).2.1:Nat):Int),top,true,()))
    |none=>.inl (n,A++(CL (Bg s) top i R).1,a2,a3,a4,a5,((q+(CL (Bg s) top i R).2.1:Nat):Int),top,())):=by
  intro R
  induction R with
  |nil=>
   intro A j cnt q a d u v E w
   obtain⟨cnt,rfl⟩:∃ c,cnt=c+1:=⟨cnt-1,by omega⟩
   unfold WD
   rw[BA]
   dsimp only
   rw[A4,AYz (by simp[otp])]
   rfl
  |cons x R z=>
   intro A j cnt q a d u v E w
   rw[AZC]at u v w
   have F:=k9 (R:=R) (x:=x) d
   rw[CL,otp]
   by_cases k:x.2.2.2.1=false/\x.2.2.1=(i:Int)
   ·obtain⟨G,B⟩:=k
    rw[AZA ⟨G,B⟩,AY7 (fun H=>by grind)]
    obtain⟨cnt,rfl⟩:∃ c,cnt=c+1:=⟨cnt-1,by omega⟩
    have m:a.length<(a++(j:Int)::otp i (j+1) R).length:=by simp
    have g:(a++(j:Int)::otp i (j+1) R)[a.length]? = some (j:Int):=by simp
    have step:∀ (y:Tie) (f:Nat),f+R.length<2147483648 ->
      BA WD cnt (n,A++y::R,a2,a3,a4,a5,(f:Int),top,ofM s,a++(j:Int)::otp i (j+1) R,((a++(j:Int)::otp i (j+1) R).length:Int),((a.length+1:Nat):Int),()) =
      some (match(CL (Bg s) top i R).2.2 with
       |some e=>.inr (.inl (n,A++y::(CL (Bg s) top i R).1,a2,true,e.1,e.2.1,((f+(CL (Bg s) top i R).2.1:Nat):Int),top,true,()))
       |none=>.inl (n,A++y::(CL (Bg s) top i R).1,a2,a3,a4,a5,((f+(CL (Bg s) top i R).2.1:Nat):Int),top,())):=by
     intro y f o
     have:=z (A++[y]) (j+1) cnt f (a++[(j:Int)]) (by simp[d]) (by omega) o (by grind) (by omega)
     simp_all
    unfold WD at step |-
    rw[BA]
    dsimp only
    rw[A4,AY0 m]
    simp only[BB g,CG g,CG F]
    rw[A6 (show a.length+1<9223372036854775808 by omega),A6 (show q+1<9223372036854775808 by omega),je,AIc,uW,AO7]
    cases C:both (Bg s) x
    ·simp only[AZH,AZL]
     by_cases h:I6 (Bg s) x
     ·have b:(!Bg s x.1 && !Bg s x.2.1)=false:=by
       unfold I6 at h
       grind
      have p:(A++El x::R)[j]? = some (El x):=k9 d
      simp only[b,AY0 h,AZA h]
      rw[k8 d]
      rw[show((x.1,(x.2.1,(x.2.2.1,(true,())))):Tie)=El x from rfl]
      simp only[CG p,AZ6]
      rfl
     ·have b:(!Bg s x.1 && !Bg s x.2.1)=true:=by
       unfold I6 at h
       unfold both at C
       grind
      simp only[b,AY7 h]
      grind
    ·have b:(!Bg s x.1 && !Bg s x.2.1)=false:=by
      unfold both at C
      grind
     simp only[b,AZa]
     rw[k8 d,QB,B,A6 (show i+1<9223372036854775808 by omega)]
     have:=step (Iu top x) (q+1) (by omega)
     have D:((x.1,(x.2.1,(min top ((i+1:Nat):Int),(x.2.2.2.1,())))):Tie)=Iu top x:=by
      unfold Iu
      grind
     grind
   ·have t:x.2.2.2.1=true\/x.2.2.1≠(i:Int):=by
     grind
    rw[AY7 k,AZA t]
    have:=z (A++[x]) (j+1) cnt q a (by simp[d]) (by omega) (by omega) (by omega) (by omega)
    simp_all
 have:=l O [] 0 many r [] rfl (by simp only[many];omega) (by omega) (by simp) (by omega);rw[BO];grind
end
theorem ASd{N:Nat}(h:N<=64)(u v:Nat)(j:u<N)(k:v<N)(top:Int)(O:List Tie)(f:O.length<=400)(a b:Bool)(c d:Int)(r:Nat)(p:r<536870912)(i:Nat)(hi:i<64)(S:Int->Bool)(l:S=Bg (CP N O u v i)):
  pat ((N:Int),O,a,b,c,d,(r:Int),top,(u:Int),(v:Int),(i:Int),()) =
  some (match(CL S top i (O.map (rT S top i))).2.2 with
   |some e=>((N:Int),(CL S top i (O.map (rT S top i))).1,a,true,e.1,e.2.1,((r+N1 S i O+(CL S top i (O.map (rT S top i))).2.1:Nat):Int),top,true,())
   |none=>((N:Int),(CL S top i (O.map (rT S top i))).1,a,b,c,d,((r+N1 S i O+(CL S top i (O.map (rT S top i))).2.1:Nat):Int),top,false,())):=by subst l;obtain⟨e,m⟩:=rR h O f u v j k (i:Int);have q:=AE8 N O u v (i:Int);have s:=ADq (Bg (CP N O u v i)) i O;have n:=AF9 (N:Int) a b c d top O (r:Int) (i:Int) (CP N O u v i) (by omega);have o:=AF8 (N:Int) a b c d top O f r (by omega) i hi (CP N O u v i);have g:=AF7 (N:Int) a b c d top (O.map (rT (Bg (CP N O u v i)) top i)) (by grind) (r+N1 (Bg (CP N O u v i)) i O) (by omega) i hi (CP N O u v i);rw[AWO]at g;rw[AMn,AMo];simp only[m,A9,n,o,g];grind
section
variable {α:Type} (z:α)
theorem cS{a o:List α}{m k:Nat}(h:a.drop m=o.drop m)(b:m<=k):a.getD k z=o.getD k z:=by have:=AaB (fun l=>l.getD (k-m) z) h;simp only[AZK,Abn]at this;rw[Nat.add_sub_cancel' b]at this;simpa [AZK]using this
theorem Np{xs:List α}{i:Nat}(h:i<xs.length):xs.take (i+1)=xs.take i++[xs.getD i z]:=by rw[AZf h];simp[h]
theorem APS{σ ρ:Type}{step:σ->Option (σ⊕ρ)}(st:List α->Nat->Nat->σ)(fin:List α->Nat->ρ)(keep:α->Bool)(o:List α)
  (h:∀ a w j,a.length=o.length->j<o.length->w<j->a.getD j z=o.getD j z->step (st a w j)=some (.inl (if keep (o.getD j z)=true then st (a.set w (o.getD j z)) (w+1) (j+1)else st a w (j+1))))
  (p:∀ a w,a.length=o.length->step (st a w o.length)=some (.inr (fin a w))) :
  ∀ (k j w:Nat) (a:List α) (cnt:Nat),j+k=o.length->a.length=o.length->w=((o.take j).filter keep).length->a.take w=(o.take j).filter keep->w<j->a.drop j=o.drop j->k<cnt ->
  ∃ l:List α,BA step cnt (st a w j)=some (fin l (o.filter keep).length)/\l.length=o.length/\l.take (o.filter keep).length=o.filter keep:=by
 intro k;induction k with
  |zero=>
   intro j w a cnt q c d f g hd r;obtain⟨cnt,rfl⟩:∃ k,cnt=k+1:=⟨cnt-1,by omega⟩
   have e:j=o.length:=by omega
   subst e;rw[AZT]at d f;rw[BA,p a w c];exact⟨a,by rw[d],c,by rw[<- d];exact f⟩
  |succ k m=>
   intro j w a cnt q c d f g hd r;obtain⟨cnt,rfl⟩:∃ k,cnt=k+1:=⟨cnt-1,by omega⟩
   have s:=cS z hd (AY8 j);have i:a.drop (j+1)=o.drop (j+1):=by have:=AaB (List.drop 1) hd;simpa only[AaO]using this
   have b:(o.take (j+1)).filter keep=(o.take j).filter keep++if keep (o.getD j z)=true then [o.getD j z]else []:=by rw[Np z (by omega),AZ5];generalize o.getD j z=v;by_cases h:keep v=true<;>simp[h]
   rw[BA,h a w j c (by omega) g s];by_cases n:keep (o.getD j z)=true;rw[AZA n]at b |-;refine m (j+1) (w+1) (a.set w (o.getD j z)) cnt (by omega) (by simp[c]) (by rw[b];simp[d]) ?_ (by omega) ?_ (by omega);rw[b,<- f,AZf (by simp;omega)];simp[Abg];rw[Abh (by omega)];exact i;rw[AY7 n]at b |-;rw[AZ8]at b;exact m (j+1) w a cnt (by omega) c (by rw[b];exact d) (by rw[b];exact f) (by omega) i (by omega)
theorem AIw{σ ρ σ' ρ':Type}{find:σ'->Option (σ'⊕ρ')}{step:σ->Option (σ⊕ρ)}(st:List α->Nat->Nat->σ)(fin:List α->Nat->ρ)(c:Nat->σ')(p:Nat->ρ')(fn:ρ')(keep:α->Bool)(o:List α)(B:o.length<4294967296)
  (h:∀ a w j,a.length=o.length->j<o.length->w<j->a.getD j z=o.getD j z->step (st a w j)=some (.inl (if keep (o.getD j z)=true then st (a.set w (o.getD j z)) (w+1) (j+1)else st a w (j+1))))
  (r:∀ a w,a.length=o.length->step (st a w o.length)=some (.inr (fin a w)))
  (f:∀ i,i<o.length->find (c i)=if keep (o.getD i z)=true then some (.inl (c (i+1)))else some (.inr (p i))) (s:find (c o.length)=some (.inr fn)) :
  (o.filter keep=o/\A_ find many (c 0)=some fn) \/
  (∃ k d,k<o.length/\A_ find many (c 0)=some (p k)/\A_ step many (st o k (k+1))=some (fin d (o.filter keep).length)/\d.length=o.length/\(o.filter keep).length<=o.length/\d.take (o.filter keep).length=o.filter keep):=by
 have C:4294967296<many:=by simp only[many];omega
 have b:∀ n,(∀ j,j<n->j<o.length->keep (o.getD j z)=true)->(o.take n).filter keep=o.take n:=by intro n t;rw[AZ7];intro x u;obtain⟨j,l,rfl⟩:=Abl.1 u;have:=t j (by omega) (by omega);simpa [show j<o.length by omega]using this
 rcases ALS (step:=find) c o.length (fun i => !keep (o.getD i z)) p fn (by omega) (fun i hi=>by rw[f i hi];cases keep (o.getD i z)<;>rfl) s with⟨k,hk,hP,hF,e⟩|⟨hP,e⟩
 right;have q:keep (o.getD k z)=false:=by cases g:keep (o.getD k z);rfl;rw[g]at hP;cases hP
 have l:(o.take k).filter keep=o.take k:=b k fun j l _=>by have:=hF j l;cases g:keep (o.getD j z);rw[g]at this;cases this;rfl
 have m:(o.take (k+1)).filter keep=o.take k:=by rw[Np z hk,AZ5,l,AaF,q];simp
 obtain⟨d,v,y,A⟩:=APS z st fin keep o h r (o.length-(k+1)) (k+1) k o many (by omega) rfl (by rw[m,AZU];omega) (by rw[m]) (by omega) rfl (by omega);exact⟨k,d,hk,e,by rw[BO];exact v,y,AZy _ _,A⟩;left;refine⟨?_,e⟩;have:=b o.length fun j _ m=>by have:=hP j m;cases g:keep (o.getD j z);rw[g]at this;cases this;rfl
 rwa [AZT]at this
theorem ABU{a:List α}{w:Nat}(h:w<=a.length):(Bp w (a.length-w) z a).take w=a.take w/\(Bp w (a.length-w) z a).length=a.length:=by constructor;rw[Bp,Aa0 (by simp;omega),Aaq,Nat.min_self];simp[Bp];omega
end
theorem AIB(n:Nat)(e:n<4294967296):ADP ((n:Int),())=some ([],()):=by
 have a:w64 ((n:Int)-w64 ((0:Int)-0))=(n:Int):=by rw[BI (n:=(0:Int)-0) (by omega),BI (by omega)];omega
 rw[uB,nZ];simp only[a,BG];rw[AYz (by omega)];simp only[];by_cases h:0<n;rw[AY0 (by omega)];have b:Ci ([]:List Unit) (0:Int) (0:Int)=some []:=by rw[Pq];rfl
 have c:Ci (C2 (A2 (n:Int)) ((0:Int),((0:Int),((0:Int),(false,()))))) (0:Int) (0:Int)=some []:=by rw[Pq,hQ,AZA (by omega)];simp
 have d:B4 (n:Int)=true:=(Hb _).2 (by omega);simp only[b,c,d];rfl;grind
theorem ux(b:List (List Tie))(t:b.length<4294967296)(h:b.flatten.length<4294967296):T9 (b,())=some (b.flatten,()):=by
 rw[dD,W3]
 have e:=Er (step:=Kd) (fun i (a:Nat)=>(b,(a:Int),b,A3 b,(i:Int),())) b (fun x a=>.inl (a+x.length)) (fun a=>.inl (b,(a:Int),())) (fun i a=>a=(b.take i).flatten.length) (by omega)
  (fun i x a hi d n=>by
   refine⟨fun o c => ?_,fun r c=>by cases c⟩
   cases c
   have j:=Eo d
   have k:=Fm b (i+1)
   rw[j,AZF]at k
   rw[Kd]
   simp only[A9]
   rw[A4,AY0 hi]
   simp only[BB d]
   rw[wrap_add (by omega),A6 (by omega),BG,AYz (by omega)]
   grind)
  (fun a _=>by rw[Kd,A9,A4,AYz (by omega)]) 0 rfl
 have p:A_ Kd many (b,(0:Int),b,A3 b,(0:Int),())=_:=e;rw[p,Ch];have f:∀ (l:List (List Tie)) (a:Nat),l.foldl (fun a x=>a+x.length) a=a+l.flatten.length:=by
  intro l;induction l with
   |nil=>simp
   |cons x l q=>grind
 rw[f,AZ3];simp only[AIB _ h]
 have g:=Er (step:=Kc) (fun i (a:List Tie)=>(a,b,A3 b,(i:Int),())) b (fun x a=>.inl (a++x)) (fun a=>.inl (a,())) (fun i a=>a=(b.take i).flatten) (by omega)
  (fun i x a hi d n=>by
   refine⟨fun o c => ?_,fun r c=>by cases c⟩
   cases c
   have j:=Eo d
   have k:=Fm b (i+1)
   rw[j,AZF]at k
   rw[Kc]
   simp only[A9]
   rw[A4,AY0 hi]
   simp only[BB d]
   rw[A6 (by omega),CN (by grind)]
   exact⟨rfl,by grind⟩)
  (fun a _=>by rw[Kc,A9,A4,AYz (by omega)]) [] rfl
 have s:A_ Kc many ([],b,A3 b,(0:Int),())=_:=g;rw[s,Ch];have m:∀ (l:List (List Tie)) (a:List Tie),l.foldl (fun a x=>a++x) a=a++l.flatten:=by
  intro l;induction l with
   |nil=>simp
   |cons x l q=>grind
 grind
def HD(x:Edge):Edge:=(min x.1 x.2.1,max x.1 x.2.1,())
abbrev WM:=List (Edge×Int)
def HC(m:WM)(x:Edge):Int:=(A8 m x).getD 0
theorem APV(o:List Edge)(m:WM)(f:o.length<4294967296):
  ∃ a:List Edge,Nb (o,m,())=some (a,m,(((o.filter fun x => !ieq (HC m x) 0).length:Nat):Int),())/\a.take (o.filter fun x => !ieq (HC m x) 0).length=o.filter fun x => !ieq (HC m x) 0:=by
 have g:=AIw (find:=Eh) (step:=H0) ((0:Int),(0:Int),()) (fun a (w j:Nat)=>(a,m,(w:Int),(j:Int),())) (fun a (w:Nat)=>.inl (a,m,(w:Int),())) (fun i=>(o,m,(o.length:Int),(i:Int),())) (fun i=>.inl (o,m,(i:Int),())) (.inr (.inl (o,m,()))) (fun x => !ieq (HC m x) 0) o f
  (fun a w j d h t l=>by
   unfold H0
   dsimp only
   simp (disch:=omega) only[A9,A4,d,h,AZD,Cd ((0:Int),(0:Int),()),Ek,FX,l,A6]
   unfold HC
   grind)
  (fun a w d=>by unfold H0;dsimp only;rw[A9,A4,AYz (by omega)])
  (fun i hi=>by
   unfold Eh
   dsimp only
   simp (disch:=omega) only[A4,hi,AZD,Cd ((0:Int),(0:Int),()),Ek,A6]
   unfold HC
   grind)
  (by unfold Eh;dsimp only;rw[A4,AYz (by omega)])
 rw[Q3,Na,Qx,NP];generalize (fun x => !ieq (HC m x) 0)=keep at *;rcases g with⟨n,e⟩|⟨k,b,u,e,p,v,q,y⟩
 have c:A_ Eh many (o,m,A3 o,(0:Int),())=_:=e;simp only[c,BL];exact⟨o,by rw[n];rfl,by grind⟩;have c:A_ Eh many (o,m,A3 o,(0:Int),())=_:=e;obtain⟨z,c2⟩:=ABU ((0:Int),(0:Int),()) (a:=b) (w:=(o.filter keep).length) (by omega);have r:Ci (Bp (o.filter keep).length (b.length-(o.filter keep).length) ((0:Int),(0:Int),()) b) (0:Int) (((o.filter keep).length:Nat):Int)=some _:=lR (by omega);have s:Ci b (((o.filter keep).length:Nat):Int) (b.length:Int)=some _:=Sf (by omega);simp only[c,BL];rw[AYz (by omega),A6 (by omega)];simp only[p,s,A9,AZ4,EA,r];grind
theorem yE{N:Nat}(h:1<=N)(j:N<=64)(ts:List Tie)(l:List Edge)(k:l.length<1073741824)(m:WM)(i:Nat)(x:Edge)(hi:i<l.length)(e:l[i]? = some x)(n:0<=HC m (HD x)/\HC m (HD x)<=(i:Int)):
  IQ ((N:Int),ts,m,l,(l.length:Int),(i:Int),())=if In (N:Int) x.1/\In (N:Int) x.2.1 then some (.inl ((N:Int),ts,BC m (HD x) (HC m (HD x)+1),l,(l.length:Int),((i+1:Nat):Int),()))else some (.inr (.inl (10,()))):=by unfold IQ;dsimp only;rw[A4,AY0 hi];simp only[BB e,QB,TU];have a:w64 (HC m (HD x)+1)=HC m (HD x)+1:=BI (by omega);obtain⟨b,c⟩:=zX m (HD x) (HC m (HD x)) (HC m (HD x)+1);unfold HC HD at b c a;by_cases d:min x.1 x.2.1<0;rw[BG,AY0 d,AY7 (fun q=>by have f:=q.1.2.2.1;have g:=q.2.2.2.1;omega)];rw[BG,AYz d];by_cases c2:(N:Int)<=max x.1 x.2.1;rw[BQ,AY0 c2,AY7 (fun q=>by have f:=q.1.2.2.2;have g:=q.2.2.2.2;omega)];rw[BQ,AYz c2,AZA ⟨⟨by omega,by omega,by omega,by omega⟩,⟨by omega,by omega,by omega,by omega⟩⟩];simp only[b,a,c,A6 (show i+1<9223372036854775808 by omega)];rfl
theorem yF{N:Nat}(r:1<=N)(s:N<=64)(ts:List Tie)(l:List Edge)(t:l.length<1073741824):
  (¬ YB N l/\A_ IQ many ((N:Int),ts,([]:WM),l,(l.length:Int),(0:Int),())=some (.inl (10,()))) \/
  (YB N l/\∃ m:WM,(∀ x,HC m x=0↔x∉l.map HD)/\A_ IQ many ((N:Int),ts,([]:WM),l,(l.length:Int),(0:Int),())=some (.inr (.inl ((N:Int),ts,m,())))):=by
 have d:∀ (k i:Nat) (m:WM) (cnt:Nat),i+k=l.length->k<cnt->(∀ x,0<=HC m x/\HC m x<=(i:Int)/\(HC m x=0↔x∉(l.take i).map HD)) ->
   ((∃ x∈l.drop i,¬ (In (N:Int) x.1/\In (N:Int) x.2.1))/\BA IQ cnt ((N:Int),ts,m,l,(l.length:Int),(i:Int),())=some (.inl (10,()))) \/
   ((∀ x∈l.drop i,In (N:Int) x.1/\In (N:Int) x.2.1)/\∃ p:WM,(∀ x,HC p x=0↔x∉l.map HD)/\BA IQ cnt ((N:Int),ts,m,l,(l.length:Int),(i:Int),())=some (.inr (.inl ((N:Int),ts,p,())))):=by
  intro k
  induction k with
  |zero=>
   intro i m cnt hi u f
   obtain⟨cnt,rfl⟩:∃ c,cnt=c+1:=⟨cnt-1,by omega⟩
   right
   have:i=l.length:=by omega
   subst this
   refine⟨fun x b=>(by grind),m,fun x => ?_,?_⟩
   ·grind
   ·unfold IQ
    rw[BA]
    dsimp only
    rw[A4,AYz (by omega)]
  |succ k v=>
   intro i m cnt hi u f
   obtain⟨cnt,rfl⟩:∃ c,cnt=c+1:=⟨cnt-1,by omega⟩
   have a:i<l.length:=by omega
   have b:l[i]? = some l[i]:=AZE a
   have g:l.drop i=l[i]::l.drop (i+1):=AZh a
   have j:l.take (i+1)=l.take i++[l[i]]:=AZf a
   rw[g]
   generalize w:l[i]=x at *
   have z:=f (HD x)
   obtain⟨A,B,_⟩:=z
   rw[BA,yE r s ts l t m i x a b ⟨A,B⟩]
   by_cases n:In (N:Int) x.1/\In (N:Int) x.2.1
   ·rw[AZA n]
    have o:∀ y,HC (BC m (HD x) (HC m (HD x)+1)) y=if y=HD x then HC m (HD x)+1 else HC m y:=by
     intro y
     unfold HC
     rw[bm]
     grind
    have:=v (i+1) (BC m (HD x) (HC m (HD x)+1)) cnt (by omega) (by omega) (fun y=>by
     rw[o]
     obtain⟨D,E,F⟩:=f y
     rw[j,AaP,AY5]
     by_cases e:y=HD x
     all_goals grind)
    grind
   grind
 have G:∀ x:Edge,HC ([]:WM) x=0:=fun _=>rfl;have:=d l.length 0 [] many (by omega) (by simp only[many];omega) (fun x=>by simp_all);rw[Aa1]at this;rw[BO];rcases this with⟨⟨x,b,C⟩,e⟩|⟨h,e⟩
 exact .inl ⟨fun q=>C (q x b),e⟩;exact .inr ⟨h,e⟩
theorem ij{N:Nat}{ts:List Tie}(h:RG2 N ts)(l:List Edge)(s:l.length<1073741824):
  ri (((N:Int),(ts,())),l,())=some (if ∀ e∈l,In (N:Int) e.1/\In (N:Int) e.2.1 then(Cr N ts l,0,())else([],10,())):=by
 have F:=h.ht;rw[rh,mN];simp only[h.lr,AY4,A9];rcases yF h.h1 h.hN ts l s with⟨t,e⟩|⟨g,m,u,e⟩
 rw[AY7 (show ¬ ∀ e∈l,In (N:Int) e.1/\In (N:Int) e.2.1 from t)];grind
 ·rw[AZA (show ∀ e∈l,In (N:Int) e.1/\In (N:Int) e.2.1 from g)];obtain⟨a,v,w⟩:=APV (ts.map ed) m (by grind);simp only[e,bp (N:Int) ts h.ht h.lr,v,CT,EA,w];congr 2;have z:((ts.map ed).filter fun x => !ieq (HC m x) 0)=(ts.map ed).filter fun x=>decide (x∈l.map HD):=by refine AaU fun x _ => ?_;rw[BL,AaX,AaG,AZc,AZr,u x];simp
  rw[z];have p:((ts.map ed).filter fun x=>decide (x∈l.map HD)).Pairwise DI:=h.edP.filter _;have q:=Ry N ts l;have i:∀ x:Edge,x∈((ts.map ed).filter fun x=>decide (x∈l.map HD))↔x∈Cr N ts l:=by
   intro x;unfold Cr;rw[AZS,AZS,Ey,AZr,AZr];have r:∀ y:Edge,x=HD y->x.1<x.2.1->x=y\/x=(y.2.1,y.1,()):=by rintro⟨a,b,⟨⟩⟩ rfl c;unfold HD at c |-;grind
   constructor;rintro⟨d,f⟩;have c:=h.AW5 x d;obtain⟨A,B⟩:=h.inE x d;refine⟨⟨A.2.2.1,c,B.2.2.2,?_⟩,d⟩;obtain⟨y,G,C⟩:=AZG.1 f;unfold Rw;grind;·rintro⟨⟨d,f,H,k⟩,D⟩;refine⟨D,AZG.2 ?_⟩;obtain⟨a,b,⟨⟩⟩:=x;unfold HD;simp only at f;rcases k with k|k;all_goals grind
  have j:∀ a b:Edge,DI a b->DI b a->False:=fun a b d f=>by unfold DI at *;omega
  have n:((ts.map ed).filter fun x=>decide (x∈l.map HD)).Nodup:=p.imp fun {a b} E=>by grind
  have o:(Cr N ts l).Nodup:=q.imp fun {a b} E=>by grind
  exact AaW (le:=DI) (fun a b _ _ d f=>(j a b d f).elim) p q ((Aap n o).2 i)
theorem rX{N:Nat}(h:N<=64)(u v:Nat)(i:u<N)(j:v<N)(top b:Int):
  ∀ (m:Nat) (O:List Tie) (r cnt:Nat),m<=64->O.length<=400->r+1000*m<536870912->m<cnt ->
  BA Hr cnt ((0:Int),false,false,(0:Int),(0:Int),(0:Int),(u:Int),(v:Int),b,true,(N:Int),O,true,false,(0:Int),(0:Int),(r:Int),top,(m:Int)-1,()) =
  some (.inl ((0:Int),false,false,(0:Int),(0:Int),(0:Int),(N:Int),(Ls N u v top m O r).1,true,
   (match(Ls N u v top m O r).2.1 with|some _=>true|none=>false),(match(Ls N u v top m O r).2.1 with|some e=>e.1|none=>0),(match(Ls N u v top m O r).2.1 with|some e=>e.2.1|none=>0),((Ls N u v top m O r).2.2:Int),top,())):=by
 intro m;induction m with
  |zero=>
   intro O r cnt k f l n;obtain⟨cnt,rfl⟩:∃ c,cnt=c+1:=⟨cnt-1,by omega⟩
   unfold Hr;rw[BA];dsimp only;rw[BQ,AYz (by omega)];rfl
  |succ m o=>
   intro O r cnt k f l n;obtain⟨cnt,rfl⟩:∃ c,cnt=c+1:=⟨cnt-1,by omega⟩
   have p:((m+1:Nat):Int)-1=(m:Int):=by omega
   have d:=ASd h u v i j top O f true false 0 0 r (by omega) m (by omega) _ rfl;have q:=WH (Bg (CP N O u v m)) top m (O.map (rT (Bg (CP N O u v m)) top m));have s:=ADq (Bg (CP N O u v m)) m O;rw[AZZ]at q;rw[p,Ls];cases g:(CL (Bg (CP N O u v m)) top m (O.map (rT (Bg (CP N O u v m)) top m))).2.2 with
    |some e=>
     rw[g]at d;have a:Hr ((0:Int),false,false,(0:Int),(0:Int),(0:Int),(u:Int),(v:Int),b,true,(N:Int),O,true,false,(0:Int),(0:Int),(r:Int),top,(m:Int),())=some (.inr (.inl ((0:Int),false,false,(0:Int),(0:Int),(0:Int),(N:Int),(CL (Bg (CP N O u v m)) top m (O.map (rT (Bg (CP N O u v m)) top m))).1,true,true,e.1,e.2.1,((r+N1 (Bg (CP N O u v m)) m O+(CL (Bg (CP N O u v m)) top m (O.map (rT (Bg (CP N O u v m)) top m))).2.1:Nat):Int),top,()))):=by unfold Hr;dsimp only;rw[BQ,AY0 (show(0:Int)<=(m:Int) by omega)];grind
     rw[BA,a]
    |none=>
     rw[g]at d;have a:Hr ((0:Int),false,false,(0:Int),(0:Int),(0:Int),(u:Int),(v:Int),b,true,(N:Int),O,true,false,(0:Int),(0:Int),(r:Int),top,(m:Int),())=some (.inl ((0:Int),false,false,(0:Int),(0:Int),(0:Int),(u:Int),(v:Int),b,true,(N:Int),(CL (Bg (CP N O u v m)) top m (O.map (rT (Bg (CP N O u v m)) top m))).1,true,false,(0:Int),(0:Int),((r+N1 (Bg (CP N O u v m)) m O+(CL (Bg (CP N O u v m)) top m (O.map (rT (Bg (CP N O u v m)) top m))).2.1:Nat):Int),top,(m:Int)-1,())):=by unfold Hr;dsimp only;rw[BQ,AY0 (show(0:Int)<=(m:Int) by omega)];simp only[d,AZO];rw[BI (by omega)]
     rw[BA,a];exact o _ _ cnt (by omega) (by omega) (by omega) (by omega)
theorem AME{N:Nat}{ts:List Tie}(h:RG2 N ts)(u v:Int):
  (¬ ((0<=u/\u<(N:Int))/\(0<=v/\v<(N:Int)))/\rY (((N:Int),(ts,())),u,v,())=some ((N:Int),ts,AKF,10,())) \/
  (((0<=u/\u<(N:Int))/\(0<=v/\v<(N:Int)))/\ts.any (Ep u v)=false/\rY (((N:Int),(ts,())),u,v,())=some ((N:Int),ts,AKF,6,())) \/
  (((0<=u/\u<(N:Int))/\(0<=v/\v<(N:Int)))/\ts.any (Ep u v)=true/\∃ t,ts[ts.findIdx (Ep u v)]? = some t /\
   rY (((N:Int),(ts,())),u,v,())=some ((N:Int),(Fh N ts (ts.findIdx (Ep u v)) t).1,AXt t.2.2.2.1 (Fh N ts (ts.findIdx (Ep u v)) t).2.1 (Fh N ts (ts.findIdx (Ep u v)) t).2.2,0,())):=by
 have L:=h.ht;have i:=h.hN;rw[mH,mI];simp only[bA h];by_cases c:InV N u/\InV N v;right;rw[AZA c,AZA c];cases A:ts.any (Ep u v);left;refine⟨c,rfl,?_⟩;simp only[AZH,AZL,BL];rfl;right;have s:ts.findIdx (Ep u v)<ts.length:=Aa5.2 (AbG.1 A);have w:ts[ts.findIdx (Ep u v)]? = some ts[ts.findIdx (Ep u v)]:=AZE s;refine⟨c,rfl,_,w,?_⟩;have B:ts[ts.findIdx (Ep u v)]∈ts:=Aaa s;generalize ts[ts.findIdx (Ep u v)]=t at *;generalize ts.findIdx (Ep u v)=p at *;obtain⟨x,y,C,D,M⟩:=h.tie B;obtain⟨a,k⟩:=AY6 x.2.2.1;obtain⟨b,l⟩:=AY6 y.2.2.1;obtain⟨j,E⟩:=AY6 D;have n:a<N:=by have:=x.2.2.2;omega
 have o:b<N:=by have:=y.2.2.2;omega
 have F:=Sb i;have z:=AQx i;have G:Ci ts (0:Int) (p:Int)=some (ts.take p):=lR (by omega);have H:Ci ts ((p+1:Nat):Int) (ts.length:Int)=some (ts.drop (p+1)):=Sf (by omega);have f:T9 ([ts.take p,ts.drop (p+1)],())=some (ts.take p++ts.drop (p+1),()):=by rw[ux _ (by simp) (by grind)];simp
 simp only[AZa,QC,AY4];simp only[BB w,G];rw[A6 (by omega)];simp only[A9,H,f,bh N i,F];unfold Fh;cases O:t.2.2.2.1;obtain⟨m,d⟩:∃ m,many=m+1:=⟨many-1,by simp only[many]⟩
 have:A_ Hr many ((0:Int),false,false,(0:Int),(0:Int),(0:Int),t.1,t.2.1,t.2.2.1,false,(N:Int),ts.take p++ts.drop (p+1),false,false,(0:Int),(0:Int),(0:Int),(D3 N:Int),t.2.2.1,()) =
   some (.inl ((0:Int),false,false,(0:Int),(0:Int),(0:Int),(N:Int),ts.take p++ts.drop (p+1),false,false,(0:Int),(0:Int),(0:Int),(D3 N:Int),())):=by
  rw[BO,d,BA,Hr]
 simp only[this];rfl;simp only[AZa];have g:(ts.take p++ts.drop (p+1)).length<=400:=by grind
 have q:=rX i a b n o (D3 N:Int) t.2.2.1 (j+1) (ts.take p++ts.drop (p+1)) 0 many (by omega) g (by omega) (by simp only[many];omega);rw[<- k,<- l,show((j+1:Nat):Int)-1=t.2.2.1 by omega]at q;have I:t.1.toNat=a:=by omega
 have J:t.2.1.toNat=b:=by omega
 have K:t.2.2.1.toNat+1=j+1:=by omega
 rw[I,J,K];rw[<- BO]at q;have r:A_ Hr many ((0:Int),false,false,(0:Int),(0:Int),(0:Int),t.1,t.2.1,t.2.2.1,true,(N:Int),ts.take p++ts.drop (p+1),true,false,(0:Int),(0:Int),(0:Int),(D3 N:Int),t.2.2.1,())=_:=q;simp only[r];cases (Ls N a b (D3 N:Int) (j+1) (ts.take p++ts.drop (p+1)) 0).2.1 with
  |some e=>rfl
  |none=>rfl
 left;rw[AY7 c,AY7 c];refine⟨c,?_⟩;simp only[BL];rfl
theorem AK1(N u v:Nat)(top:Int):∀ (m:Nat) (O:List Tie) (r:Nat),(Ls N u v top m O r).1.length=O.length:=by
 intro m;induction m with
  |zero=>intro O r;rfl
  |succ m b=>intro O r;have a:=WH (Bg (CP N O u v m)) top m (O.map (rT (Bg (CP N O u v m)) top m));rw[AZZ]at a;rw[Ls];grind
theorem AIE(N:Nat)(ts:List Tie)(p:Nat)(t:Tie):(Fh N ts p t).1.length<=ts.length:=by unfold Fh;split;rw[AK1,AZF,AZU,AZ4];omega;grind
theorem ARH(N u v:Nat)(top:Int):∀ (m:Nat) (O:List Tie) (r:Nat),(Ls N u v top m O r).1.map ed=O.map ed:=by
 intro m;induction m with
  |zero=>intro O r;rfl
  |succ m c=>
   intro O r;have a:=rz (Bg (CP N O u v m)) top m (O.map (rT (Bg (CP N O u v m)) top m));have b:(O.map (rT (Bg (CP N O u v m)) top m)).map ed=O.map ed:=by rw[List.map_map];exact Aad fun t _=>by simp only[Function.comp_apply,rT];split<;>rfl
   rw[Ls];split;exact a.trans b;exact(c _ _).trans (a.trans b)
theorem AOd(N:Nat)(ts:List Tie)(p:Nat)(t:Tie):(Fh N ts p t).1.map ed=(ts.take p++ts.drop (p+1)).map ed:=by unfold Fh;split;exact ARH _ _ _ _ _ _ _;rfl
theorem yH{N:Nat}{ts:List Tie}(h:RG2 N ts)(l:List Edge)(F:l.length<1073741824)(I:Nat->List Tie->Prop)(G:I 0 ts)
  (H:∀ i x O k t,(Cr N ts l)[i]? = some x->RG2 N O->I i O->O.length<=ts.length->O[k]? = some t->ed t=x->O.findIdx (Ep x.1 x.2.1)=k->I (i+1) (Fh N O k t).1) :
  ∃ O w e,S1 (((N:Int),(ts,())),l,())=some (((N:Int),(O,())),w,e,())/\O.length<=ts.length/\(e=0->YB N l/\I (Cr N ts l).length O):=by
 have P:=h.ht;have s:=ij h l F;rw[rp,mP];by_cases a:∀ e∈l,In (N:Int) e.1/\In (N:Int) e.2.1;rotate_left;rw[AY7 a]at s;simp only[s,BL];exact⟨ts,[],10,rfl,AY8 _,fun h=>by omega⟩;rw[AZA a]at s;simp only[s,BL];have J:=jU N h.hN ts l;have v:=fun x=>AIF (N:=N) (ts:=ts) (l:=l) (x:=x);generalize Cr N ts l=xs at *
 have y:∀ (m i cnt:Nat) (O:List Tie) (outs:List (Bool×Bool×Edge×Int×Unit)),i+m=xs.length->m<cnt->O.length<=ts.length->outs.length=i->I i O ->
   (∃ c,c≠0/\BA IS cnt ((N:Int),ts,(0:Int),outs,(N:Int),O,xs,(xs.length:Int),(i:Int),())=some (.inl ((N:Int),ts,c,()))) \/
   (∃ g o,BA IS cnt ((N:Int),ts,(0:Int),outs,(N:Int),O,xs,(xs.length:Int),(i:Int),())=some (.inr (.inl ((0:Int),g,(N:Int),o,())))/\o.length<=ts.length/\I xs.length o):=by
  intro m
  induction m with
  |zero=>
   intro i cnt O outs hi K u D j
   obtain⟨cnt,rfl⟩:∃ c,cnt=c+1:=⟨cnt-1,by omega⟩
   refine .inr ⟨outs,O,?_,u,by rw[show xs.length=i by omega];exact j⟩
   rw[BA,IS,A4,AYz (by omega)]
  |succ m L=>
   intro i cnt O outs hi K u D j
   obtain⟨cnt,rfl⟩:∃ c,cnt=c+1:=⟨cnt-1,by omega⟩
   have d:i<xs.length:=by omega
   have b:xs[i]? = some xs[i]:=AZE d
   have one:(∃ o w c,c≠0/\rY (((N:Int),(O,())),xs[i].1,xs[i].2.1,())=some ((N:Int),o,w,c,()))\/∃ k t w,rY (((N:Int),(O,())),xs[i].1,xs[i].2.1,())=some ((N:Int),(Fh N O k t).1,w,0,())/\(Fh N O k t).1.length<=ts.length/\I (i+1) (Fh N O k t).1:=by
    rcases Vw (N:Int) O (by omega)with⟨_,r⟩|⟨Q,e,E⟩
    ·refine .inl ⟨O,AKF,1,by omega,?_⟩
     rw[mH,mI]
     simp only[bB _ _ r,BL]
     rfl
    ·have e:=Int.ofNat.inj e
     subst e
     rcases AME E xs[i].1 xs[i].2.1 with⟨_,e⟩|⟨_,_,e⟩|⟨_,q,t,z,e⟩
     ·exact .inl ⟨_,_,_,by omega,e⟩
     ·exact .inl ⟨_,_,_,by omega,e⟩
     ·refine .inr ⟨_,t,_,e,AZu (AIE _ _ _ _) u,H i xs[i] O _ t b E j u z ?_ rfl⟩
      have R:=v xs[i] (Aaa d)
      have A:=(AZM.1 z).1
      have f:Ep xs[i].1 xs[i].2.1 t=true:=by
       have:=List.findIdx_getElem (w:=A)
       rw[(AZM.1 z).2]at this
       exact this
      unfold Ep at f
      rw[AZr,AbN (by omega),Abb (by omega)]at f
      unfold ed
      rw[f.1,f.2]
   rcases one with⟨o,w,c,p,B⟩|⟨k,t,w,B,M,C⟩
   ·refine .inl ⟨c,p,?_⟩
    rw[BA,IS,A4,AY0 d]
    simp only[BB b,CG b,B,BL,AYz p]
    rw[CN (by simp only[A9,AZC,AZP];omega)]
    rfl
   ·have:=L (i+1) cnt (Fh N O k t).1 (outs++[w]) (by omega) (by omega) M (by simp[D]) C
    rw[BA,IS,A4,AY0 d]
    simp only[BB b,CG b,B,BL,AZD,AY4]
    rw[CN (by simp only[A9,AZC,AZP];omega),A6 (by omega)]
    exact this
 rcases y xs.length 0 many ts [] (by omega) (by simp only[many];omega) (AY8 _) rfl G with⟨c,c0,k1⟩|⟨outs,O,k1,k3,k4⟩
 have n:A_ IS many ((N:Int),ts,(0:Int),[],(N:Int),ts,xs,A3 xs,(0:Int),())=_:=(BO _ _ _).trans k1;simp only[n];exact⟨ts,[],c,rfl,AY8 _,fun h=>absurd h c0⟩;have n:A_ IS many ((N:Int),ts,(0:Int),[],(N:Int),ts,xs,A3 xs,(0:Int),())=_:=(BO _ _ _).trans k1;simp only[n];exact⟨O,outs,0,rfl,k3,fun _=>⟨a,k4⟩⟩
theorem AAR{N:Nat}{O:List Tie}(g:RG2 N O){k:Nat}{t:Tie}(d:O[k]? = some t):(Fh N O k t).1.map ed=(O.map ed).filter fun e=>decide (e≠ed t):=by
 have b:=(AZM.1 d).1;have a:O=O.take k++t::O.drop (k+1):=by have c:O[k]=t:=(AZM.1 d).2;conv=>lhs;rw[<- AaK k O,AZh b,c]
 have f:=g.edP;rw[a,AaP,AZN]at f;rw[AOd,AaP,AIm f];congr 1;conv=>rhs;rw[a]
 rw[AaP,AZN]
structure Tsk where
 lo:Nat
 hi:Nat
 up:Option Nat
 wait:Nat
def fin:Nat->List Tsk->Option Nat->List Tsk×Bool
 |_,ts,none=>(ts,true)
 |0,ts,some _=>(ts,false)
 |k+1,ts,some x=>match ts[x]? with
  |none=>(ts,false)
  |some t=>if t.wait=0 then(ts,false)else if 0<t.wait-1 then(ts.set x { t with wait:=t.wait-1 },false)else fin k (ts.set x { t with wait:=t.wait-1 }) t.up
def AVA(a:List Bool)(b:Nat):Nat->List Bool
 |0=>a
 |k+1=>(AVA a b k).set (b+k) true
structure Crw where
 ts:List Tsk
 dn:List Bool
 ds:List (List Nat)
 ov:Bool
 st:Nat
 idl:Nat
structure Evt where
 w:Nat
 ft:Option (Nat×Nat)
 pt:Bool
def found(a:List (List Nat))(p v:Nat):Option (Nat×Nat×List (List Nat)):=
 match(a.getD p []).getLast? with
 |some t=>some (t,p,a.set p (a.getD p []).dropLast)
 |none=>match a.getD v []with
  |t::r=>some (t,v,a.set v r)
  |[]=>none
def AYK(k:Tsk):Nat:=k.lo+(k.hi-k.lo)/2
def stp(g:Nat)(c:Crw)(p v:Nat):Crw×Evt:=
 match found c.ds p v with
 |none=>({ c with st:=c.st+1,idl:=c.idl+1 },⟨p,none,false⟩)
 |some (t,f,ds)=>match c.ts[t]? with
  |none=>(c,⟨p,none,false⟩)
  |some k=>if g<k.hi-k.lo then
    ({ c with ts:=c.ts.set t { k with wait:=2 }++[⟨k.lo,AYK k,some t,0⟩,⟨AYK k,k.hi,some t,0⟩],ds:=ds.set p (ds.getD p []++[c.ts.length+1,c.ts.length]),st:=c.st+1 },⟨p,some (f,t),true⟩)
   else({ ts:=(fin c.ts.length c.ts k.up).1,dn:=AVA c.dn k.lo (k.hi-k.lo),ds:=ds,ov:=c.ov||(fin c.ts.length c.ts k.up).2,st:=c.st+1,idl:=c.idl },⟨p,some (f,t),false⟩)
theorem flatten_nil{l:List (List Nat)}(h:∀ i,i<l.length->l.getD i []=[]):l.flatten=[]:=by
 induction l with
  |nil=>rfl
  |cons a l c=>have b:=h 0 (by simp);simp at b;rw[Abu,b,AZk];refine c fun i hi => ?_;have:=h (i+1) (by grind);grind
structure Wok(g:Nat)(ts:List Tsk)(dn:List Bool):Prop where
 g1:1<=g
 g2:g<=100
 n1:1<=dn.length
 n2:dn.length<=1000
 t1:1<=ts.length
 t2:ts.length<=2000
 ok:∀ (i:Nat) (t:Tsk),ts[i]? = some t->t.lo<t.hi/\t.hi<=dn.length/\t.wait<=2/\∀ x,t.up=some x->x<i
def nI(l:List Nat):List Int:=l.map fun n:Nat=>(n:Int)
theorem Fx{l:List Nat}{i:Nat}{x:Nat}(h:l[i]? = some x):(nI l)[i]? = some (x:Int):=by unfold nI;grind
theorem Dx(l:List Nat):(nI l).length=l.length:=by unfold nI;simp
structure Cok(g W:Nat)(c:Crw):Prop where
 wok:Wok g c.ts c.dn
 w1:1<=W
 w2:W<=8
 w:c.ds.length=W
 st:c.st<100000
 idl:c.idl<100000
 nod:c.ds.flatten.Nodup
 act:∀ a∈c.ds.flatten,∃ t:Tsk,c.ts[a]? = some t/\t.wait=0/\c.dn[t.lo]? = some false
 few:c.ts.length+2<=2000\/∀ a∈c.ds.flatten,∀ t:Tsk,c.ts[a]? = some t->¬ g<t.hi-t.lo
 short:c.ds.flatten.length<=1000
def M1(l:List Nat):List (Int×Int):=l.map fun n:Nat=>((n:Int),(1:Int))
theorem AQa{l:List Nat}{x:Nat}(h:x∉l):BC (M1 l) (x:Int) (1:Int)=M1 (l++[x])/\A8 (M1 l) (x:Int)=none:=by
 induction l with
  |nil=>exact⟨rfl,rfl⟩
  |cons y l b=>
   rw[AZJ,not_or]at h;obtain⟨c,d⟩:=b h.2;have a:¬ (y:Int)=(x:Int):=by omega
   constructor;show(if(y:Int)=(x:Int)then _ else _)=_;rw[AY7 a];show _::BC (M1 l) (x:Int) 1=_;rw[c];rfl;show(if(y:Int)=(x:Int)then _ else _)=_;rw[AY7 a];exact d
theorem Is{σ ρ:Type}{step:σ->Option (σ⊕ρ)}(st:Nat->σ)(N:Nat)(r:ρ)(a:N<9223372036854775808)(h:∀ i,i<N->step (st i)=some (.inl (st (i+1))))(b:step (st N)=some (.inr r)):A_ step many (st 0)=some r:=by
 have:=Q0 (step:=step) st (List.range N) (fun _=>false) (fun _=>r) r (by grind) (fun i x hi _=>by grind) (by grind)
 grind
section
variable {g n W:Nat} {c:Crw} {E:List Evt}
end
section
variable {g n W:Nat} {s:Crw×List Evt}
end
theorem AIV{n:Nat}(h:n<=4294967296):B4 (n:Int)=true:=(Hb _).2 (by omega)
theorem IV{n:Nat}(h:n<=4294967296):(B4 (n:Int)&&B4 (n:Int)&&ile (n:Int) (n:Int)&&true)=true:=by rw[AIV h,BQ,AY0 (Int.le_refl _)];rfl
theorem KX{α:Type}(n:Nat)(x:α):C2 (A2 (n:Int)) x=List.replicate n x:=by rw[EA];rfl
theorem cV(a b:Int)(c:List (List Int)):nj ((a,b,c,()),())=some (decide (1<=a/\a<=100/\1<=b/\b<=8/\c.length<=4000),()):=by
 rw[jX,cW];simp only[BQ,A9];by_cases d:1<=a;by_cases e:a<=100;by_cases f:1<=b;by_cases g:b<=8;have:decide ((c.length:Int)<=4000)=decide (c.length<=4000):=by grind
 grind;grind;grind;grind;grind
def Li(p:Int×Int×List (List Int)×Unit):Prop:=1<=p.1/\p.1<=100/\1<=p.2.1/\p.2.1<=8/\p.2.2.1.length<=4000
instance (p:Int×Int×List (List Int)×Unit):Decidable (Li p):=by unfold Li;exact inferInstance
theorem AAY{n:Int}{p:Int×Int×List (List Int)×Unit}(h:¬ (0<=n/\n<=1000/\Li p)):DH (n,p,())=some ([],0,1,()):=by rw[Wp,Tk];by_cases a:n<0;rw[BG,AY0 a];rw[BG,AYz a];by_cases b:1000<n;rw[BG,AY0 b];rw[BG,AYz b];have c:¬ Li p:=fun d=>h ⟨by omega,by omega,d⟩;simp only[cV];rw[AYz (by unfold Li at c;exact c)];simp
theorem uI{p:Int×Int×List (List Int)×Unit}(a:Li p):DH ((0:Int),p,())=some ([],0,0,()):=by rw[Wp,Tk];rw[BG,AYz (by decide),BG,AYz (by decide)];simp only[cV];rw[AY0 (by unfold Li at a;exact a),BL,AY0 rfl];simp
theorem AB1(a b:Int):IntKind.wrap .u32 (a+b)=(a+b) % 4294967296:=by rw[IntKind.wrap_u32]
def sm(xs:List Int):Int:=xs.sum % 4294967296
def ahL(xs:List Int):List Int:=(List.range xs.length).map fun i=>sm (xs.take i)
theorem AK9(xs ys:List Int):sm (xs++ys)=(sm xs+sm ys) % 4294967296:=by unfold sm;simp
theorem lU(xs:List Int)(x:Int):sm (xs++[x])=(sm xs+x) % 4294967296:=by unfold sm;simp
def Nz{α:Type}(N:Nat)(f:Nat->α)(z:α)(i:Nat):List α:=(List.range N).map fun j=>if j<i then f j else z
theorem WJ{α:Type}(N:Nat)(f:Nat->α)(z:α):Nz N f z 0=List.replicate N z:=by unfold Nz;apply AbY (by simp);simp
theorem bR{α:Type}(N:Nat)(f:Nat->α)(z:α):Nz N f z N=(List.range N).map f:=by unfold Nz;simp_all
theorem Oh{α:Type}(N:Nat)(f:Nat->α)(z:α)(i:Nat):(Nz N f z i).length=N:=by simp[Nz]
theorem bQ{α:Type}(N:Nat)(f:Nat->α)(z:α)(i j:Nat):(Nz N f z i)[j]? = if j<N then some (if j<i then f j else z)else none:=by unfold Nz;grind
theorem bP{α:Type}{N:Nat}(f:Nat->α)(z:α){i:Nat}:(Nz N f z i).set i (f i)=Nz N f z (i+1):=by apply AZt;intro j;rw[AbW,bQ,bQ,Oh];grind
theorem Ct{α:Type}{xs:List α}{i:Nat}{x:α}(h:xs[i]? = some x):xs.take (i+1)=xs.take i++[x]:=by rw[Abw,h];rfl
theorem Cb{α:Type}{xs:List α}{i:Nat}(h:i<xs.length):∃ x,xs[i]? = some x:=⟨_,AZE h⟩
theorem RM(xs:List Int)(d:xs.length<=1000000):Vs (xs,())=some (ahL xs,sm xs,()):=by
 rw[iL,aQ]
 have e:=Is (step:=Lz) (fun i=>(Nz xs.length (fun j=>sm (xs.take j)) (0:Int) i,sm (xs.take i),xs,(xs.length:Int),(i:Int),())) xs.length (.inl (ahL xs,sm xs,())) (by omega)
  (fun i hi=>by
   obtain⟨x,a⟩:=Cb hi
   obtain⟨y,b⟩:=Cb (xs:=Nz xs.length (fun j=>sm (xs.take j)) (0:Int) i) (i:=i) (by rw[Oh];exact hi)
   rw[Lz,A4,AY0 hi]
   simp only[BB a,BB b,FX,bP,AB1]
   rw[A6 (by omega),Ct a,lU])
  (by rw[Lz,A4,AYz (by omega),bR,AZT];rfl)
 rw[WJ]at e;have c:A_ Lz many (List.replicate xs.length (0:Int),(0:Int),xs,(xs.length:Int),(0:Int),())=_:=e;simp only[A9,IV (show xs.length<=4294967296 by omega),KX,c]
theorem AOr{α:Type}(f:Nat->α):∀ (U:List Nat) (a:List α) (j:Nat),(U.foldl (fun a i=>a.set i (f i)) a)[j]? = if j∈U/\j<a.length then some (f j)else a[j]? := by
 intro U;induction U with
  |nil=>simp
  |cons u U b=>intro a j;rw[AZm,b,List.length_set];grind
theorem NT{α:Type}(f:Nat->α)(U:List Nat):∀ (a:List α),(U.foldl (fun a i=>a.set i (f i)) a).length=a.length:=by
 induction U with
  |nil=>simp
  |cons u U b=>grind
theorem uK{α:Type}{f:Nat->α}{U:List Nat}{N:Nat}(b:∀ j,j<N->j∈U)(z:α):U.foldl (fun a i=>a.set i (f i)) (List.replicate N z)=(List.range N).map f:=by apply AZt;intro j;rw[AOr,AZs];grind
def nbl(n b:Nat):Nat:=(n+b-1)/b
theorem bX{n b i:Nat}(a:1<=b):i<nbl n b↔i*b<n:=by unfold nbl;rw[Nat.lt_div_iff_mul_lt (by omega)];omega
theorem WO{n b:Nat}(a:1<=b):nbl n b<=n:=by
 rcases Aah n with h|h;subst h;unfold nbl;rw[Nat.div_eq_of_lt (by omega)];omega;have:¬ n<nbl n b:=by rw[bX a];have:n*1<=n*b:=Nat.mul_le_mul_left n a;omega
 omega
theorem VY(b:Int):aG (b,())=some (decide (1<=b/\b<=100),()):=by rw[iD,aF,BQ];by_cases a:1<=b;rw[AY0 a,BQ];simp[a];grind
theorem XS{n b:Nat}(c:n<=1000)(d:1<=b)(a:b<=100):Yz ((n:Int),(b:Int),())=some ((nbl n b:Int),()):=by rw[aM,Vq];rw[BG,AYz (by omega),BG,AYz (by omega)];simp only[VY,AY0 (show 1<=(b:Int)/\(b:Int)<=100 by omega),AY4];rw[wrap_add (by omega),Bx (by omega),OV,eP,AY7 (by omega),<- Int.ofNat_tdiv];have:(n+b-1)/b<=2000:=AZu (Nat.div_le_self _ _) (by omega);unfold nbl;generalize (n+b-1)/b=q at this;rw[XK (by omega)]
def blk(xs:List Int)(b i:Nat):List Int:=(xs.take (min xs.length ((i+1)*b))).drop (i*b)
theorem iF{xs:List Int}{b i:Nat}(g:xs.length<=1000)(a:b<=100)(hi:i*b<=xs.length)(c:i<=1000):qX (xs,(i:Int),(b:Int),())=some (blk xs b i,()):=by
 rw[qW,lT];have h:i*b<=100000:=Aas c a;have j:(i+1)*b=i*b+b:=Nat.succ_mul i b;have d:w64 ((i:Int)*(b:Int))=((i*b:Nat):Int):=by rw[<- Abm,BI (by omega)]
 have e:w64 (w64 ((i:Int)+1)*(b:Int))=(((i+1)*b:Nat):Int):=by rw[A6 (by omega),<- Abm,BI (by omega)]
 have f:Cl (xs.length:Int) (((i+1)*b:Nat):Int)=((min xs.length ((i+1)*b):Nat):Int):=by unfold Cl;omega
 simp only[A9,d,e,f];rw[Gh (by omega) (Nat.min_le_left ..)];rfl
theorem vT{xs:List Int}{b i k:Nat}(a:i*b+k<=(i+1)*b):xs.take (i*b+k)=xs.take (i*b)++(blk xs b i).take k:=by rw[List.take_add];congr 1;unfold blk;apply AZt;grind
theorem UD{xs:List Int}{b i:Nat}:(blk xs b i).length=min xs.length ((i+1)*b)-i*b:=by unfold blk;simp
theorem ARa{xs:List Int}{b i:Nat}:sm (xs.take ((i+1)*b))=(sm (xs.take (i*b))+sm (blk xs b i)) % 4294967296:=by have a:(i+1)*b=i*b+b:=Nat.succ_mul i b;have h:=vT (xs:=xs) (b:=b) (i:=i) (k:=b) (by omega);rw[<- a]at h;rw[h,AK9];congr 2;rw[AZq (by rw[UD];omega)]
theorem XN(xs:List Int)(b N:Nat):∀ i,i<=N->sm (((List.range N).map fun i=>sm (blk xs b i)).take i)=sm (xs.take (i*b)):=by
 intro i;induction i with
  |zero=>simp
  |succ i a=>intro hi;rw[Ct (x:=sm (blk xs b i)) (by grind),lU,a (by omega),ARa]
theorem mh{l:List Nat}{i x:Nat}(h:l[i]? = some x):idx (nI l) (i:Int)=some (x:Int)/\A7 (nI l) (A2 (i:Int)) (0:Int)=(x:Int):=⟨BB (Fx h),CG (Fx h)⟩
section
variable {xs:List Int} {b:Nat} (hl:xs.length<=1000) (hb:1<=b) (hb2:b<=100)
include hl hb hb2
theorem AYn{U:List Nat}{N:Nat}(m:N=nbl xs.length b)(d:U.Perm (List.range N))(k:Int):
  A_ J7 many (xs,(b:Int),k,nI U,List.replicate N (0:Int),(U.length:Int),(0:Int),())=some (.inl (xs,(b:Int),k,nI U,(List.range N).map (fun i=>sm (blk xs b i)),())):=by
 have n:N<=1000:=by rw[m];exact AZu (WO hb) hl
 have f:=d.length_eq;rw[AZd]at f
 have e:=Is (step:=J7) (fun i=>(xs,(b:Int),k,nI U,(U.take i).foldl (fun a i=>a.set i (sm (blk xs b i))) (List.replicate N (0:Int)),(U.length:Int),(i:Int),())) U.length (.inl (xs,(b:Int),k,nI U,(List.range N).map (fun i=>sm (blk xs b i)),())) (by omega)
  (fun i hi=>by
   obtain⟨u,g⟩:=Cb hi
   have c:u<N:=AZY.1 (d.mem_iff.1 (AY9 g))
   have h:u*b<xs.length:=(bX hb).1 (m▸c)
   obtain⟨o,p⟩:=mh g
   obtain⟨y,q⟩:=Cb (xs:=(U.take i).foldl (fun a i=>a.set i (sm (blk xs b i))) (List.replicate N (0:Int))) (i:=u) (by rw[NT,AZs];exact c)
   have l:(blk xs b u).length<=1000000:=by rw[UD];omega
   rw[J7,A4,AY0 hi]
   simp only[o,p,iF hl hb2 (AbX h) (by omega),RM _ l,BB q,FX]
   rw[A6 (by omega),Ct g,Aac]
   rfl)
  (by
   rw[J7,A4,AYz (by omega),AZT,uK fun j r=>d.mem_iff.2 (AZY.2 r)])
 exact e
theorem AYl{i N:Nat}(hi:i<N)(m:i*b<xs.length)(w:N<=1000)(out:List Int)(n:out.length=xs.length)(d k:Int)(g:List Int)(h f:Int):
  A_ J5 many (xs,(b:Int),out,d,k,(List.range N).map (fun i=>sm (xs.take (i*b))),(i:Int),g,h,f,ahL (blk xs b i),((blk xs b i).length:Int),(0:Int),()) =
   some (.inl (xs,(b:Int),(List.range' (i*b) (blk xs b i).length).foldl (fun a p=>a.set p (sm (xs.take p))) out,d,k,(List.range N).map (fun i=>sm (xs.take (i*b))),g,h,f,())):=by
 have x:(i+1)*b=i*b+b:=Nat.succ_mul i b;have o:=UD (xs:=xs) (b:=b) (i:=i);have q:(ahL (blk xs b i)).length=(blk xs b i).length:=by simp[ahL]
 have c:((List.range N).map (fun i=>sm (xs.take (i*b))))[i]? = some (sm (xs.take (i*b))):=by grind
 have e:=Is (step:=J5) (fun j=>(xs,(b:Int),(List.range' (i*b) j).foldl (fun a p=>a.set p (sm (xs.take p))) out,d,k,(List.range N).map (fun i=>sm (xs.take (i*b))),(i:Int),g,h,f,ahL (blk xs b i),((blk xs b i).length:Int),(j:Int),())) (blk xs b i).length
  (.inl (xs,(b:Int),(List.range' (i*b) (blk xs b i).length).foldl (fun a p=>a.set p (sm (xs.take p))) out,d,k,(List.range N).map (fun i=>sm (xs.take (i*b))),g,h,f,())) (by omega)
  (fun j r=>by
   have l:(ahL (blk xs b i))[j]? = some (sm ((blk xs b i).take j)):=by
    unfold ahL
    grind
   have s:w64 (w64 ((i:Int)*(b:Int))+(j:Int))=((i*b+j:Nat):Int):=by
    have t:w64 ((i:Int)*(b:Int))=((i*b:Nat):Int):=by rw[<- Abm,BI (by omega)]
    rw[t,wrap_add (by omega)]
   obtain⟨y,u⟩:=Cb (xs:=(List.range' (i*b) j).foldl (fun a p=>a.set p (sm (xs.take p))) out) (i:=i*b+j) (by rw[NT,n];omega)
   have v:IntKind.wrap .u32 (sm (xs.take (i*b))+sm ((blk xs b i).take j))=sm (xs.take (i*b+j)):=by
    rw[AB1,vT (by omega),AK9]
   rw[J5,A4,AY0 r]
   simp only[BB l,CG l,BB c,CG c,s,BB u,FX,v]
   rw[A6 (by omega),List.range'_concat,Aac]
   simp)
  (by rw[J5,A4,AYz (by omega)])
 exact e
theorem AYm{U:List Nat}{N:Nat}(h:N=nbl xs.length b)(l:U.Perm (List.range N))(c k:Int):
  A_ J6 many (xs,(b:Int),List.replicate xs.length (0:Int),c,k,(List.range N).map (fun i=>sm (xs.take (i*b))),nI U,(U.length:Int),(0:Int),())=some (.inl (ahL xs,c,k,())):=by
 have m:N<=1000:=by rw[h];exact AZu (WO hb) hl
 have n:=l.length_eq;rw[AZd]at n
 have e:=Is (step:=J6) (fun i=>(xs,(b:Int),((U.take i).flatMap fun i=>List.range' (i*b) (blk xs b i).length).foldl (fun a p=>a.set p (sm (xs.take p))) (List.replicate xs.length (0:Int)),c,k,(List.range N).map (fun i=>sm (xs.take (i*b))),nI U,(U.length:Int),(i:Int),())) U.length (.inl (ahL xs,c,k,())) (by omega)
  (fun i hi=>by
   obtain⟨u,o⟩:=Cb hi
   have d:u<N:=AZY.1 (l.mem_iff.1 (AY9 o))
   have g:u*b<xs.length:=(bX hb).1 (h▸d)
   obtain⟨t,v⟩:=mh o
   have q:(blk xs b u).length<=1000000:=by rw[UD];omega
   have r:(ahL (blk xs b u)).length=(blk xs b u).length:=by simp[ahL]
   rw[J6,A4,AY0 hi]
   simp only[t,v,iF hl hb2 (AbX g) (by omega),RM _ q,A9,r]
   have s:=AYl hl hb hb2 d g m (((U.take i).flatMap fun i=>List.range' (i*b) (blk xs b i).length).foldl (fun a p=>a.set p (sm (xs.take p))) (List.replicate xs.length (0:Int))) (by rw[NT,AZs]) c k (nI U) (U.length:Int) (i:Int)
   simp only[s]
   rw[A6 (by omega),Ct o,AaS,Aac]
   simp)
  (by
   rw[J6,A4,AYz (by omega),AZT]
   have:∀ j,j<xs.length->j∈U.flatMap fun i=>List.range' (i*b) (blk xs b i).length:=by
    intro j w
    have t:j/b*b<=j:=Nat.div_mul_le_self j b
    have v:j<(j/b+1)*b:=by
     rw[Nat.succ_mul]
     have x:j/b*b+j % b=j:=by rw[Nat.mul_comm];exact Nat.div_add_mod j b
     have:=AbO j (show 0<b by omega)
     omega
    refine Aa2.2 ⟨j/b,l.mem_iff.2 (AZY.2 (by rw[h,bX hb];omega)),?_⟩
    rw[List.mem_range'_1,UD]
    omega
   rw[uK (f:=fun p=>sm (xs.take p)) this]
   rfl)
 exact e
theorem iB{p:Int×Int×List (List Int)×Unit}{U:List Nat}{k:Nat}(o:k<=40000)(g:U.Perm (List.range (nbl xs.length b)))(h:DH ((nbl xs.length b:Int),p,())=some (nI U,(k:Int),0,())):
  iC (xs,(b:Int),p,())=some (ahL xs,sm xs,((2*k:Nat):Int),0,()):=by
 have j:nbl xs.length b<=1000:=AZu (WO hb) hl;have l:ieq (0:Int) 0=true:=by rw[BL];rfl
 obtain⟨a,c,q,u⟩:=p;rw[aE,Yt];have:Sj (xs,(b:Int),(a,c,q,()),())=some (ahL xs,sm xs,((2*k:Nat):Int),0,()):=by
  rw[RI,Ps];simp only[VY,AY0 (show 1<=(b:Int)/\(b:Int)<=100 by omega),AY4,A9];rw[BG,AYz (by omega)];have d:=AYn hl hb hb2 rfl g (k:Int);simp only[XS hl hb hb2,h,l,AY4,IV (show nbl xs.length b<=4294967296 by omega),KX,Dx,d];have m:((List.range (nbl xs.length b)).map fun i=>sm (blk xs b i)).length<=1000000:=by grind
  have e:ahL ((List.range (nbl xs.length b)).map fun i=>sm (blk xs b i))=(List.range (nbl xs.length b)).map fun i=>sm (xs.take (i*b)):=by unfold ahL;rw[AZZ,AZd];refine Aad fun i hi=>XN xs b _ i (AbX (AZY.1 hi))
  have f:sm ((List.range (nbl xs.length b)).map fun i=>sm (blk xs b i))=sm xs:=by
   have:=XN xs b (nbl xs.length b) (nbl xs.length b) (AY8 _);rw[AZq (by simp)]at this;rw[this,AZq];have:=(bX (n:=xs.length) (i:=nbl xs.length b) hb)
   omega
  simp only[RM _ m,e,f,IV (show xs.length<=4294967296 by omega)];simp only[AYm hl hb hb2 rfl g (sm xs) (k:Int)];rw[show((2:Int)*(k:Int))=((2*k:Nat):Int) by omega,BI (by omega)]
 grind
end
theorem AEy{xs:List Int}{b:Int}{p:Int×Int×List (List Int)×Unit}(h:¬ (1<=b/\b<=100/\xs.length<=1000/\Li p)):iC (xs,b,p,())=some ([],0,0,1,()):=by
 obtain⟨a,c,q,u⟩:=p;rw[aE,Yt];have:Sj (xs,b,(a,c,q,()),())=some ([],0,0,1,()):=by
  rw[RI,Ps];simp only[VY,A9];by_cases d:1<=b/\b<=100;rw[AY0 d];simp only[AY4];by_cases e:xs.length<=1000;rw[BG,AYz (by omega)];obtain⟨b,rfl⟩:=AY6 (show 0<=b by omega);have f:¬ Li (a,c,q,()):=fun g=>h ⟨d.1,d.2,e,g⟩;have i:DH ((nbl xs.length b:Int),(a,c,q,()),())=some ([],0,1,()):=AAY fun j=>f j.2.2;have k:ieq (1:Int) 0=false:=by rw[BL];rfl
  simp only[XS (b:=b) e (by omega) (by omega),i,k,AZO];rw[BG,AY0 (by omega)];grind
 grind
def FO(m:Nat)(p:Int×Int×List (List Int)×Unit):Prop:=∀ n:Nat,n<=m->∃ (U:List Nat) (k:Nat),U.Perm (List.range n)/\(1<=n->1<=k)/\k<=40000/\DH ((n:Int),p,())=some (nI U,(k:Int),0,())
theorem FO.mono{m a:Nat}{p:Int×Int×List (List Int)×Unit}(h:FO m p)(b:a<=m):FO a p:=fun n c=>h n (AZu c b)
def MB(keep:List Bool):List Int:=keep.map fun b=>if b then 1 else 0
theorem xw(keep:List Bool)(f:keep.length<=1000000):mJ (keep,false,())=some (MB keep,()):=by
 rw[iZ,aw]
 have e:=Is (step:=L4) (fun i=>(false,Nz keep.length (fun j=>if keep.getD j false then(1:Int)else 0) (0:Int) i,keep,(keep.length:Int),(i:Int),())) keep.length (.inl (MB keep,())) (by omega)
  (fun i hi=>by
   obtain⟨x,a⟩:=Cb hi
   obtain⟨y,b⟩:=Cb (xs:=Nz keep.length (fun j=>if keep.getD j false then(1:Int)else 0) (0:Int) i) (i:=i) (by rw[Oh];exact hi)
   have c:keep.getD i false=x:=by grind
   rw[L4,A4,AY0 hi]
   simp only[BB a,BB b,FX]
   rw[A6 (by omega),<- bP]
   cases x with
   |true=>grind
   |false=>
    simp only[c,AZH,AZL]
    have:(Nz keep.length (fun j=>if keep.getD j false then(1:Int)else 0) (0:Int) i).set i 0=Nz keep.length (fun j=>if keep.getD j false then(1:Int)else 0) (0:Int) i:=by
     apply AZt
     intro j
     rw[AbW]
     by_cases h:i=j
     ·subst h
      rw[AZA rfl,Oh,AZA hi,bQ,AZA hi,AY7 (by omega)]
     grind
    grind)
  (by
   rw[L4,A4,AYz (by omega),bR]
   have:(List.range keep.length).map (fun j=>if keep.getD j false then(1:Int)else 0)=MB keep:=by
    apply AZt
    intro j
    unfold MB
    grind
   rw[this])
 rw[WJ]at e;have d:A_ L4 many (false,List.replicate keep.length (0:Int),keep,(keep.length:Int),(0:Int),())=_:=e;simp only[A9,IV (show keep.length<=4294967296 by omega),KX,d]
def kept(keep:List Bool)(n:Nat):List Nat:=(List.range n).filter fun i=>keep.getD i false
theorem Wa(keep:List Bool)(n:Nat):kept keep (n+1)=kept keep n++(if keep.getD n false then [n]else []):=by unfold kept;rw[AZo,AZ5];grind
theorem ZG(keep:List Bool):∀ n,(kept keep n).length<=n:=fun n=>by have:=AZy (fun i=>keep.getD i false) (List.range n);simpa [kept]using this
theorem TM(keep:List Bool){i n:Nat}(h:i<n)(b:keep.getD i false=true):(kept keep n)[(kept keep i).length]? = some i:=by
 have:∀ d,∃ r,kept keep (i+1+d)=kept keep i++i::r:=by
  intro d;induction d with
   |zero=>exact⟨[],by rw[AZ6,Wa,b];rfl⟩
   |succ d c=>obtain⟨r,a⟩:=c;exact⟨r++(if keep.getD (i+1+d) false then [i+1+d]else []),by rw[<- Aa9,Wa,a];simp⟩
 obtain⟨r,a⟩:=this (n-(i+1));grind
theorem ACE{keep:List Bool}(d:keep.length<=1000000):∀ i,i<=keep.length->sm ((MB keep).take i)=((kept keep i).length:Int):=by
 intro i;induction i with
  |zero=>intro _;simp[kept,sm]
  |succ i a=>
   intro hi;obtain⟨x,e⟩:=Cb (show i<keep.length by omega);have b:keep.getD i false=x:=by grind
   have c:(MB keep)[i]? = some (if x then 1 else 0):=by unfold MB;grind
   have:=ZG keep i;rw[Ct c,lU,a (by omega),Wa,AZF,b];grind
theorem uJ{α:Type}{g:Nat->Nat}{v:Nat->α}:∀ (U:List Nat) (a:List α),U.Nodup->(∀ i∈U,∀ j∈U,g i=g j->i=j)->∀ i∈U,g i<a.length->(U.foldl (fun a i=>a.set (g i) (v i)) a)[g i]? = some (v i):=by
 intro U;induction U with
  |nil=>simp
  |cons u U f=>
   intro a d c i hi k;rw[AZm];rw[AaA]at d;rcases AZJ.1 hi with rfl|hi;have:∀ (V:List Nat) (a:List α),(∀ j∈V,g j≠g i)->(V.foldl (fun a i=>a.set (g i) (v i)) a)[g i]? = a[g i]? := by
    intro V;induction V with
     |nil=>simp
     |cons x V b=>intro a h;rw[AZm,b _ fun j e=>h j (by simp[e]),Aaw (h x (by simp))]
   grind;grind
theorem JK{α:Type}(g:Nat->Nat)(v:Nat->α)(U:List Nat):∀ (a:List α),(U.foldl (fun a i=>a.set (g i) (v i)) a).length=a.length:=by
 induction U with
  |nil=>simp
  |cons u U b=>grind
theorem ANn{keep:List Bool}{i j:Nat}(hi:keep.getD i false=true)(a:keep.getD j false=true)(h:(kept keep i).length=(kept keep j).length):i=j:=by have b:=TM keep (n:=i+j+1) (i:=i) (by omega) hi;have c:=TM keep (n:=i+j+1) (i:=j) (by omega) a;grind
theorem AL3{keep:List Bool}{U:List Nat}(l:U.Perm (List.range keep.length)):
  ((U.filter fun i=>keep.getD i false).foldl (fun a i=>a.set (kept keep i).length (i:Int)) (List.replicate (kept keep keep.length).length (0:Int)))=nI (kept keep keep.length):=by
 have c:=uJ (g:=fun i=>(kept keep i).length) (v:=fun i:Nat=>(i:Int)) (U.filter fun i=>keep.getD i false) (List.replicate (kept keep keep.length).length (0:Int))
  ((l.nodup_iff.2 Aa3).filter _) (fun i hi j d h=>ANn (AZS.1 hi).2 (AZS.1 d).2 h)
 apply AZt;intro j;by_cases d:j<(kept keep keep.length).length;obtain⟨i,hi⟩:=Cb d;have n:=AY9 hi;have b:=AZS.1 n;have e:i<keep.length:=AZY.1 b.1;have m:=TM keep e b.2;have f:(kept keep i).length=j:=by have k:(kept keep keep.length).Nodup:=List.nodup_range.filter _;exact(AbV (Ez m) k).1 (m.trans hi.symm)
 have:=c i (AZS.2 ⟨l.mem_iff.2 b.1,b.2⟩) (by grind);simp only[f]at this;rw[this,Fx hi];rw[AaV (by rw[JK,AZs];omega),AaV (by rw[Dx];omega)]
theorem rW{keep:List Bool}{b:Nat}(J:keep.length<=1000)(B:1<=b)(h:b<=100){p:Int×Int×List (List Int)×Unit}{U V:List Nat}{k m:Nat}(C:k<=40000)(K:m<=40000)
  (L:U.Perm (List.range (nbl keep.length b))) (M:DH ((nbl keep.length b:Int),p,())=some (nI U,(k:Int),0,())) (j:V.Perm (List.range keep.length)) (l:DH ((keep.length:Int),p,())=some (nI V,(m:Int),0,())) :
  Y4 (MB keep,(b:Int),p,())=some (nI (kept keep keep.length),((2*k+m:Nat):Int),0,()):=by
 have D:ieq (0:Int) 0=true:=by rw[BL];rfl
 have n:(MB keep).length=keep.length:=by simp[MB]
 have E:=ZG keep keep.length;have o:=j.length_eq;rw[AZd]at o;have w:=iB (xs:=MB keep) (b:=b) (by omega) B h (p:=p) (U:=U) C (by grind) (by grind);have f:sm (MB keep)=((kept keep keep.length).length:Int):=by have:=ACE (keep:=keep) (by omega) keep.length (AY8 _);grind
 rw[f]at w;obtain⟨a,c,q,u⟩:=p;rw[av,Vy];simp only[w,D,AY4,A9,n,l,IV (show(kept keep keep.length).length<=4294967296 by omega),KX,Dx]
 have e:=Is (step:=KD) (fun i=>(MB keep,ahL (MB keep),((2*k:Nat):Int),(m:Int),((V.take i).filter fun i=>keep.getD i false).foldl (fun a i=>a.set (kept keep i).length (i:Int)) (List.replicate (kept keep keep.length).length (0:Int)),nI V,(V.length:Int),(i:Int),())) V.length
  (.inl (((2*k:Nat):Int),(m:Int),nI (kept keep keep.length),())) (by omega)
  (fun i hi=>by
   obtain⟨v,r⟩:=Cb hi
   have d:v<keep.length:=AZY.1 (j.mem_iff.1 (AY9 r))
   obtain⟨F,G⟩:=mh r
   obtain⟨x,N⟩:=Cb d
   have z:keep.getD v false=x:=by grind
   have s:(MB keep)[v]? = some (if x then 1 else 0):=by unfold MB;grind
   have g:(ahL (MB keep))[v]? = some ((kept keep v).length:Int):=by
    unfold ahL
    rw[Abv,List.getElem?_range (by omega)]
    show some (sm ((MB keep).take v))=_
    rw[ACE (by omega) v (AbX d)]
   rw[KD,A4,AY0 hi]
   simp only[F,G,BB s]
   rw[A6 (by omega),Ct r,AZ5,Aac]
   cases x with
   |true=>
    have t:(kept keep v).length<(kept keep keep.length).length:=Ez (TM keep d z)
    obtain⟨y,H⟩:=Cb (xs:=((V.take i).filter fun i=>keep.getD i false).foldl (fun a i=>a.set (kept keep i).length (i:Int)) (List.replicate (kept keep keep.length).length (0:Int))) (i:=(kept keep v).length) (by
     rw[JK (fun i=>(kept keep i).length) (fun i:Nat=>(i:Int)),AZs];exact t)
    have A:ieq (1:Int) 1=true:=by rw[BL];rfl
    simp only[AZa,A,BB g,CG g,BB H,FX,AaF,z]
    rfl
   |false=>
    have A:ieq (0:Int) 1=false:=by rw[BL];rfl
    grind)
  (by rw[KD,A4,AYz (by omega),AZT,AL3 j])
 have I:A_ KD many (MB keep,ahL (MB keep),((2*k:Nat):Int),(m:Int),List.replicate (kept keep keep.length).length (0:Int),nI V,(V.length:Int),(0:Int),())=_:=e;simp only[I];rw[wrap_add (by omega)]
theorem xp{keep:List Bool}{b:Nat}(f:keep.length<=1000)(g:1<=b)(d:b<=100){p:Int×Int×List (List Int)×Unit}{U V:List Nat}{k m:Nat}(i:k<=40000)(j:m<=40000)
  (l:U.Perm (List.range (nbl keep.length b))) (n:DH ((nbl keep.length b:Int),p,())=some (nI U,(k:Int),0,())) (o:V.Perm (List.range keep.length)) (e:DH ((keep.length:Int),p,())=some (nI V,(m:Int),0,())) :
  mF (keep,(b:Int),p,())=some (nI (kept keep keep.length),((2*k+m:Nat):Int),0,()):=by have h:=rW f g d i j l n o e;obtain⟨a,c,q,u⟩:=p;rw[iV,aq];simp only[xw keep (by omega),h]
def bkt(d:Nat->Nat)(l:List Nat)(v:Nat):List Nat:=l.filter fun i=>d i==v
def GU(d:Nat->Nat)(B:Nat)(l:List Nat):List Nat:=(List.range B).flatMap (bkt d l)
def FY(d:Nat->Nat)(l:List Nat)(v:Nat):Nat:=(GU d v l).length
theorem Nc(d:Nat->Nat)(B:Nat)(l:List Nat):GU d (B+1) l=GU d B l++bkt d l B:=by unfold GU;rw[AZo,AaS];simp
theorem vR(d:Nat->Nat)(l:List Nat)(v:Nat):FY d l (v+1)=FY d l v+(bkt d l v).length:=by unfold FY;rw[Nc,AZF]
theorem dA(d:Nat->Nat)(l:List Nat):∀ B,(GU d B l).Perm (l.filter fun i=>decide (d i<B)):=by
 intro B;induction B with
  |zero=>
   have:l.filter (fun i=>decide (d i<0))=[]:=List.filter_eq_nil_iff.2 fun a _=>by simp
   rw[this];exact Abt _
  |succ B b=>
   rw[Nc];have h:=List.filter_append_perm (fun i=>decide (d i<B)) (l.filter fun i=>decide (d i<B+1));refine List.Perm.trans ?_ h;have c:(l.filter fun i=>decide (d i<B+1)).filter (fun i=>decide (d i<B))=l.filter fun i=>decide (d i<B):=by rw[Abp];refine AaU fun x _ => ?_;grind
   have e:(l.filter fun i=>decide (d i<B+1)).filter (fun i => !decide (d i<B))=bkt d l B:=by unfold bkt;rw[Abp];refine AaU fun x _ => ?_;rw[AaX];simp;omega
   grind
theorem X5{d:Nat->Nat}{B:Nat}{l:List Nat}(h:∀ i∈l,d i<B):(GU d B l).Perm l:=by have:=dA d l B;rw[AZ7.2 fun a b=>AY0 (h a b)]at this;omega
def Ql(d:Nat->Nat)(l:List Nat)(t:Nat):Nat:=FY d l (d (l.getD t 0))+(bkt d (l.take t) (d (l.getD t 0))).length
theorem uk(d:Nat->Nat)(l:List Nat){v B:Nat}(h:v<B):∃ r,GU d B l=GU d v l++(bkt d l v++r):=by
 have:∀ k,∃ r,GU d (v+1+k) l=GU d v l++(bkt d l v++r):=by
  intro k;induction k with
   |zero=>exact⟨[],by rw[AZ6,Nc];simp⟩
   |succ k a=>obtain⟨r,b⟩:=a;exact⟨r++bkt d l (v+1+k),by rw[<- Aa9,Nc,b];simp⟩
 have:=this (B-(v+1));grind
theorem um{d:Nat->Nat}{B:Nat}{l:List Nat}(h:∀ i∈l,d i<B){t x:Nat}(a:l[t]? = some x):(GU d B l)[Ql d l t]? = some x:=by
 have b:=h x (AY9 a);have c:l.getD t 0=x:=by grind
 obtain⟨r,f⟩:=uk d l b;unfold Ql;rw[c,f,AZp (by unfold FY;omega)];unfold FY;rw[Nat.add_sub_cancel_left];have g:bkt d l (d x)=bkt d (l.take t) (d x)++x::bkt d (l.drop (t+1)) (d x):=by
  have e:l=l.take t++x::l.drop (t+1):=by obtain⟨j,rfl⟩:=AZM.1 a;simp
  unfold bkt;grind
 grind
theorem oN{k:Nat->Nat}{m b B:Nat}{l:List Nat}(e:B=2 ^ b)(h:l.Pairwise fun i j=>k i % 2 ^ m<=k j % 2 ^ m):
  (GU (fun i=>k i/2 ^ m % B) B l).Pairwise fun i j=>k i % 2 ^ (m+b)<=k j % 2 ^ (m+b):=by
 have a:∀ i,k i % 2 ^ (m+b)=2 ^ m*(k i/2 ^ m % B)+k i % 2 ^ m:=by intro i;rw[Nat.pow_add,Nat.mod_mul,e];omega
 unfold GU;rw[List.pairwise_flatMap];constructor;intro v _;unfold bkt;have:=h.filter (fun i=>k i/2 ^ m % B==v);refine this.imp_of_mem fun {i j} hi d f => ?_;grind;refine List.pairwise_lt_range.imp fun {v w} c i hi j d => ?_;have g:k i/2 ^ m % B=v:=by simpa using (AZS.1 hi).2
 have n:k j/2 ^ m % B=w:=by simpa using (AZS.1 d).2
 rw[a,a,g,n];have o:=AbO (k i) (AaI m);have p:2 ^ m*(v+1)<=2 ^ m*w:=Nat.mul_le_mul_left _ c;grind
def aW(k:Nat->Nat)(b:Nat)(l:List Nat):Nat->List Nat
 |0=>l
 |p+1=>GU (fun i=>k i/2 ^ (p*b) % 2 ^ b) (2 ^ b) (aW k b l p)
theorem iN(k:Nat->Nat)(b:Nat)(l:List Nat):∀ p,(aW k b l p).Perm l/\(aW k b l p).Pairwise fun i j=>k i % 2 ^ (p*b)<=k j % 2 ^ (p*b):=by
 intro p;induction p with
  |zero=>refine⟨Abt _,?_⟩;simp only[AbF,Nat.pow_zero,Nat.mod_one];exact List.pairwise_of_forall fun _ _=>AY8 _
  |succ p a=>refine⟨(X5 fun i _=>AbO _ (AaI b)).trans a.1,?_⟩;rw[Nat.succ_mul];exact oN rfl a.2
def R1(s:List Int):List Bool:=(List.range s.length).map fun i=>decide (i=0)||decide (s.getD (i-1) 0≠s.getD i 0)
def nps(b:Nat):Nat:=(32+b-1)/b
theorem ANS{b p:Nat}(a:1<=b):p<nps b↔p*b<32:=by unfold nps;rw[Nat.lt_div_iff_mul_lt (by omega)];omega
theorem mc{b:Nat}:nps b<=47:=by unfold nps;rcases Aah b with h|h;grind;have c:=Nat.div_mul_le_self (32+b-1) b;generalize (32+b-1)/b=q at c;rcases Aa7 32 q with a|a;have:33*b<=q*b:=AZ1 _ a;omega;omega
theorem ACw{b:Nat}(a:1<=b):1<=nps b:=by have:=(ANS (p:=0) a).2 (by omega);omega
theorem qu{b:Int}(h:¬ (1<=b/\b<=16)):Px (b,())=some (0,()):=by rw[RO,Pw];by_cases a:b<1;rw[BG,AY0 a];rw[BG,AYz a,BG,AY0 (by omega)]
theorem OR{b:Nat}(h:1<=b)(c:b<=16):Px ((b:Int),())=some ((nps b:Int),()):=by
 have:=mc (b:=b);rw[RO,Pw];rw[BG,AYz (by omega),BG,AYz (by omega)];have e:w64 (w64 ((32:Int)+(b:Int))-1)=((32+b-1:Nat):Int):=by
  have a:w64 ((32:Int)+(b:Int))=((32+b:Nat):Int):=by rw[BI (by omega)];omega
  rw[a,BI (by omega)];omega
 simp only[e];rw[OV,eP,AY7 (by omega),<- Int.ofNat_tdiv];unfold nps at this |-;generalize (32+b-1)/b=q at this |-;rw[XK (by omega)]
theorem lD{n:Nat}(h:n<18446744073709551616):IntKind.wrap .u64 (n:Int)=n:=IntWalk.u64_in _ (by omega)
theorem I'{n:Nat}(h:n<4294967296):IntKind.wrap .u32 (n:Int)=n:=IntWalk.u32_in _ (by omega)
theorem ANV{x b:Nat}(d:x<4294967296)(c:b<=16):IntKind.wrap .u32 (BitVec.ofInt (IntKind.bits .u32) (x:Int) &&& BitVec.ofInt (IntKind.bits .u32) ((2 ^ b-1:Nat):Int)).toNat=((x % 2 ^ b:Nat):Int):=by
 have f:2 ^ b<=2 ^ 16:=AZw (by omega) c;have g:(2:Nat) ^ 16=65536:=by decide
 have e:(BitVec.ofInt (IntKind.bits .u32) (x:Int) &&& BitVec.ofInt (IntKind.bits .u32) ((2 ^ b-1:Nat):Int)).toNat=x % 2 ^ b:=by rw[BitVec.toNat_and,Aak,Aak,Aat,Aat];have a:IntKind.bits .u32=32:=rfl;rw[a,AZz (by omega),AZz (by omega),Nat.and_two_pow_sub_one_eq_mod]
 rw[e];have:=Nat.mod_le x (2 ^ b);exact I' (by omega)
theorem xl{x p b:Nat}(g:x<4294967296)(c:1<=b)(a:b<=16)(d:p<nps b):Vx ((x:Int),(p:Int),(b:Int),())=some (((x/2 ^ (p*b) % 2 ^ b:Nat):Int),()):=by
 have h:=(ANS c).1 d;have r:=mc (b:=b);rw[iU,ai];have i:ll ((p:Int),(b:Int),())=some (true,()):=by rw[iM,aT];rw[BQ,AY0 (by omega)];simp only[OR c a];rw[A4,AY0 d]
 have j:IntKind.wrap .u64 (w64 ((p:Int)*(b:Int)))=((p*b:Nat):Int):=by rw[<- Abm,BI (by omega),lD (by omega)]
 have k:IntKind.wrap .u64 (b:Int)=(b:Int):=lD (by omega);have l:shr? .u32 (x:Int) ((p*b:Nat):Int)=some ((x/2 ^ (p*b):Nat):Int):=by
  rw[RJ,lY,AY7 (by omega)];have:min ((p*b:Nat):Int).toNat (IntKind.bits .u32)=p*b:=by show min _ 32=_;omega
  grind
 have m:2 ^ b<=2 ^ 16:=AZw (by omega) a;have e:(2:Nat) ^ 16=65536:=by decide
 have f:=AaI b;have n:shl? .u32 (1:Int) (b:Int)=some ((2 ^ b:Nat):Int):=by
  rw[OI,eM,AY7 (by omega)];have:min (b:Int).toNat (IntKind.bits .u32)=b:=by show min _ 32=_;omega
  rw[this,Int.one_mul,show(2:Int) ^ b=((2 ^ b:Nat):Int) by simp,I' (by omega)]
 have o:IntKind.wrap .u32 (((2 ^ b:Nat):Int)-1)=((2 ^ b-1:Nat):Int):=by rw[show((2 ^ b:Nat):Int)-1=((2 ^ b-1:Nat):Int) by omega,I' (by omega)]
 have q:x/2 ^ (p*b)<4294967296:=Nat.lt_of_le_of_lt (Nat.div_le_self _ _) g;simp only[i,AY4,j,k,l,n,o];rw[ANV q a]
section
variable {ks l:List Nat} {b p:Nat} (hk:∀ x∈ks,x<4294967296) (hb:1<=b) (hb2:b<=16) (hp:p<nps b) (hn:ks.length<=1000) (hl:l.Perm (List.range ks.length))
include hk hb hb2 hp hn hl
def dgt(ks:List Nat)(b p:Nat)(i:Nat):Nat:=ks.getD i 0/2 ^ (p*b) % 2 ^ b
omit hl hn in
theorem oE{i:Nat}(hi:i<ks.length):∃ x:Nat,ks[i]? = some x/\Vx ((x:Int),(p:Int),(b:Int),())=some ((dgt ks b p i:Int),())/\dgt ks b p i<2 ^ b:=by obtain⟨x,a⟩:=Cb hi;refine⟨x,a,?_,AbO _ (AaI b)⟩;rw[xl (hk x (AY9 a)) hb hb2 hp];unfold dgt;grind
def ABT(d:Nat->Nat)(l:List Nat):Nat->Int
 |0=>(0:Int)
 |v+1=>((bkt d l v).length:Int)
def PI(d:Nat->Nat)(B:Nat)(l:List Nat):List Int:=(List.range (B+1)).map (ABT d l)
omit hk hb hb2 hp hn hl in
theorem oT(d:Nat->Nat)(B:Nat)(l:List Nat){j:Nat}(h:j<B+1):(PI d B l)[j]? = some (ABT d l j):=by unfold PI;grind
omit hk hb hb2 hp hn hl in
theorem dF(d:Nat->Nat)(B:Nat)(l:List Nat):(PI d B l).length=B+1:=by simp[PI]
omit hk hb hb2 hp hn hl in
theorem vU(d:Nat->Nat)(l:List Nat)(x v:Nat):bkt d (l++[x]) v=bkt d l v++(if d x==v then [x]else []):=by unfold bkt;grind
omit hk hb hb2 hp hn hl in
theorem AJL(d:Nat->Nat)(B:Nat)(l:List Nat)(x:Nat):PI d B (l++[x])=(PI d B l).set (d x+1) (((bkt d l (d x)).length+1:Nat):Int):=by
 apply AZt;intro j;rw[AbW,dF];by_cases a:j<B+1;rw[oT d B _ a];by_cases h:d x+1=j;subst h;rw[AZA rfl,AZA a];simp[ABT,vU];rw[AY7 h,oT d B _ a];cases j with
  |zero=>rfl
  |succ v=>have:¬ d x=v:=fun e=>h (by omega);simp[ABT,vU,this]
 rw[AaV (l:=PI d B (l++[x])) (by rw[dF];omega)];by_cases h:d x+1=j;grind;rw[AY7 h];exact(AaV (by rw[dF];omega)).symm
def UG(d:Nat->Nat)(B:Nat)(l:List Nat)(k:Nat):List Int:=(List.range (B+1)).map fun v=>if v<=k then(FY d l v:Int)else ABT d l v
omit hk hb hb2 hp hn hl in
theorem AJr(d:Nat->Nat)(B:Nat)(l:List Nat):UG d B l 0=PI d B l:=by
 unfold UG PI;refine Aad fun v _ => ?_;cases v with
  |zero=>rfl
  |succ v=>omega
omit hk hb hb2 hp hn hl in
theorem ZW(d:Nat->Nat)(B:Nat)(l:List Nat)(k:Nat){v:Nat}(a:v<B+1):(UG d B l k)[v]? = some (if v<=k then(FY d l v:Int)else ABT d l v):=by unfold UG;grind
omit hk hb hb2 hp hn hl in
theorem AJs(d:Nat->Nat)(B:Nat)(l:List Nat){k:Nat}(h:k<B):(UG d B l k)[k]? = some (FY d l k:Int)/\(UG d B l k)[k+1]? = some ((bkt d l k).length:Int)/\(UG d B l k).set (k+1) (FY d l (k+1):Int)=UG d B l (k+1):=by
 refine⟨by rw[ZW d B l k (by omega),AZA (AY8 _)],by rw[ZW d B l k (by omega),AY7 (by omega)];rfl,?_⟩;have a:∀ k,(UG d B l k).length=B+1:=fun k=>by simp[UG]
 apply AZt;intro j;rw[AbW,a];by_cases e:j<B+1;rw[ZW d B l (k+1) e];by_cases c:k+1=j;grind;rw[AY7 c,ZW d B l k e];grind;grind
def mb(d:Nat->Nat)(B:Nat)(l:List Nat)(t:Nat):List Int:=(List.range (B+1)).map fun v=>((FY d l v+(bkt d (l.take t) v).length:Nat):Int)
omit hk hb hb2 hp hn hl in
theorem bV(d:Nat->Nat)(B:Nat)(l:List Nat)(t:Nat){v:Nat}(h:v<B+1):(mb d B l t)[v]? = some ((FY d l v+(bkt d (l.take t) v).length:Nat):Int):=by unfold mb;grind
omit hk hb hb2 hp hn hl in
theorem AGo(d:Nat->Nat)(B:Nat)(l:List Nat){t x:Nat}(h:l[t]? = some x):(mb d B l t).set (d x) ((FY d l (d x)+(bkt d (l.take t) (d x)).length+1:Nat):Int)=mb d B l (t+1):=by
 have a:∀ t,(mb d B l t).length=B+1:=fun t=>by simp[mb]
 apply AZt;intro j;rw[AbW];by_cases c:j<B+1;have hb:bkt d (l.take (t+1)) j=bkt d (l.take t) j++(if d x==j then [x]else []):=by rw[Ct h];unfold bkt;grind
 rw[bV d B l _ c,bV d B l _ c,hb];grind;grind
theorem AR5:rby (nI ks,nI l,(p:Int),(b:Int),())=some (nI (GU (dgt ks b p) (2 ^ b) l),()):=by
 have h16:2 ^ b<=2 ^ 16:=AZw (by omega) hb2;have T:(2:Nat) ^ 16=65536:=by decide
 have U:=AaI b;have I:=hl.length_eq;rw[AZd]at I;generalize J:2 ^ b=B at *;have hd:∀ {t x:Nat},l[t]? = some x->x<ks.length:=fun h=>AZY.1 (hl.mem_iff.1 (AY9 h));have f:∀ i∈l,dgt ks b p i<B:=fun i hi=>by obtain⟨x,_,_,h⟩:=oE hk hb hb2 hp (AZY.1 (hl.mem_iff.1 hi));omega
 have m:∀ (K:List Nat) v,(bkt (dgt ks b p) K v).length<=K.length:=fun K v=>AZy _ _;have e:=X5 f;have A:∀ v,v<=B->FY (dgt ks b p) l v<=1000:=fun v hv=>by have L:=(dA (dgt ks b p) l v).length_eq;have V:=AZy (fun i=>decide (dgt ks b p i<v)) l;unfold FY;omega
 rw[ALx,ALy];have e1:IntKind.wrap .u64 (b:Int)=(b:Int):=lD (by omega);have e2:shl? .i64 (1:Int) (b:Int)=some (B:Int):=by
  rw[OI,eM,AY7 (by omega)];have:min (b:Int).toNat (IntKind.bits .i64)=b:=by show min _ 64=_;omega
  rw[this,Int.one_mul,show(2:Int) ^ b=((2 ^ b:Nat):Int) by simp,J,XK (by omega)]
 simp only[e1,e2];rw[A6 (by omega)];simp only[IV (show B+1<=4294967296 by omega),KX,A9,Dx]
 have W:=Is (step:=ak) (fun t=>(nI ks,nI l,(p:Int),(b:Int),PI (dgt ks b p) B (l.take t),nI l,(l.length:Int),(t:Int),())) l.length (.inl (nI ks,nI l,(p:Int),(b:Int),PI (dgt ks b p) B l,())) (by omega)
  (fun t d=>by
   obtain⟨x,c⟩:=Cb d
   obtain⟨y,s,n,o⟩:=oE hk hb hb2 hp (hd c)
   rw[J]at o
   have u:(PI (dgt ks b p) B (l.take t))[dgt ks b p x+1]? = some ((bkt (dgt ks b p) (l.take t) (dgt ks b p x)).length:Int):=oT _ _ _ (by omega)
   have q:=m (l.take t) (dgt ks b p x)
   rw[AZU]at q
   have hw:IntKind.wrap .u32 ((dgt ks b p x:Int)+1)=((dgt ks b p x+1:Nat):Int):=by
    rw[show(dgt ks b p x:Int)+1=((dgt ks b p x+1:Nat):Int) by omega,I' (by omega)]
   rw[ak,A4,AY0 d]
   simp only[BB (Fx c),BB (Fx s),n,hw,BB u,CG u,FX]
   rw[A6 (by omega),A6 (by omega),Ct c,AJL])
  (by rw[ak,A4,AYz (by omega),AZT])
 have z0:PI (dgt ks b p) B (l.take 0)=List.replicate (B+1) (0:Int):=by rw[List.take_zero];unfold PI;apply AbY (by simp);intro i _ _;cases i<;>simp[bkt,ABT]
 rw[z0]at W;have M:A_ ak many (nI ks,nI l,(p:Int),(b:Int),List.replicate (B+1) (0:Int),nI l,(l.length:Int),(0:Int),())=_:=W;simp only[M]
 have X:=Is (step:=aj) (fun k=>(nI ks,nI l,(p:Int),(b:Int),UG (dgt ks b p) B l k,(B:Int),(k:Int),())) B (.inl (nI ks,nI l,(p:Int),(b:Int),UG (dgt ks b p) B l B,())) (by omega)
  (fun k C=>by
   obtain⟨Y,Z,g3⟩:=AJs (dgt ks b p) B l C
   have hb1:=m l k
   have hb2:=A k (by omega)
   rw[aj,A4,AY0 C]
   rw[A6 (by omega)]
   simp only[BB Y,BB Z,CG Y,CG Z,FX]
   rw[wrap_add (by omega),<- g3,vR,Nat.add_comm (bkt (dgt ks b p) l k).length])
  (by rw[aj,A4,AYz (by omega)])
 rw[AJr]at X;have N:A_ aj many (nI ks,nI l,(p:Int),(b:Int),PI (dgt ks b p) B l,(B:Int),(0:Int),())=_:=X;have O:((PI (dgt ks b p) B l).length:Int)-1=(B:Int):=by simp[PI]
 rw[O,BI (by omega)];simp only[N,Dx,IV (show l.length<=4294967296 by omega),KX];have D:l.Nodup:=hl.nodup_iff.2 Aa3;have r:∀ t,t<l.length->(GU (dgt ks b p) B l)[Ql (dgt ks b p) l t]? = some (l.getD t 0):=fun t d=>by obtain⟨x,c⟩:=Cb d;rw[um f c,AZK,c];rfl
 have E:∀ i∈List.range l.length,∀ j∈List.range l.length,Ql (dgt ks b p) l i=Ql (dgt ks b p) l j->i=j:=fun i hi j w he=>by have hi:=AZY.1 hi;have w:=AZY.1 w;have L:=r i hi;have V:=r j w;rw[he,V]at L;obtain⟨x,c⟩:=Cb hi;obtain⟨y,s⟩:=Cb w;have P:=Option.some.inj L;rw[AZK,AZK,c,s]at P;simp only[AZ2]at P;subst P;exact(AbV (Ez c) D).1 (c.trans s.symm)
 have q2:=Is (step:=mC) (fun t=>(nI ks,(p:Int),(b:Int),mb (dgt ks b p) B l t,(List.range t).foldl (fun a i=>a.set (Ql (dgt ks b p) l i) ((l.getD i 0:Nat):Int)) (List.replicate l.length (0:Int)),nI l,(l.length:Int),(t:Int),())) l.length (.inl (nI (GU (dgt ks b p) B l),())) (by omega)
  (fun t d=>by
   obtain⟨x,c⟩:=Cb d
   obtain⟨y,s,n,o⟩:=oE hk hb hb2 hp (hd c)
   rw[J]at o
   have hg:l.getD t 0=x:=by grind
   have u:=bV (dgt ks b p) B l t (v:=dgt ks b p x) (by omega)
   have q:=m (l.take t) (dgt ks b p x)
   rw[AZU]at q
   have hs1:=A (dgt ks b p x) (by omega)
   have F:FY (dgt ks b p) l (dgt ks b p x)+(bkt (dgt ks b p) (l.take t) (dgt ks b p x)).length=Ql (dgt ks b p) l t:=by unfold Ql;rw[hg]
   have hplt:Ql (dgt ks b p) l t<l.length:=by
    have:=Ez (r t d)
    rw[e.length_eq]at this;omega
   obtain⟨z,hz⟩:=Cb (xs:=(List.range t).foldl (fun a i=>a.set (Ql (dgt ks b p) l i) ((l.getD i 0:Nat):Int)) (List.replicate l.length (0:Int))) (i:=Ql (dgt ks b p) l t) (by
    rw[JK (Ql (dgt ks b p) l) (fun i=>((l.getD i 0:Nat):Int)),AZs];omega)
   rw[mC,A4,AY0 d]
   simp only[BB (Fx c),BB (Fx s),n,BB u,CG u]
   rw[F]at u |-
   simp only[BB hz,FX]
   rw[A6 (by omega),A6 (by omega),<- AGo (dgt ks b p) B l c,F,AZo,Aac]
   grind)
  (by
   rw[mC,A4,AYz (by omega)]
   have G:=uJ (g:=Ql (dgt ks b p) l) (v:=fun i=>((l.getD i 0:Nat):Int)) (List.range l.length) (List.replicate l.length (0:Int)) Aa3 E
   have:(List.range l.length).foldl (fun a i=>a.set (Ql (dgt ks b p) l i) ((l.getD i 0:Nat):Int)) (List.replicate l.length (0:Int))=nI (GU (dgt ks b p) B l):=by
    apply AZt
    intro j
    by_cases w:j<l.length
    ·obtain⟨x,c⟩:=Cb (xs:=GU (dgt ks b p) B l) (i:=j) (by rw[e.length_eq];exact w)
     obtain⟨t,d⟩:=Aaz (e.mem_iff.1 (AY9 c))
     have Q:=Ez d
     have H:=um f d
     have R:(GU (dgt ks b p) B l).Nodup:=e.nodup_iff.2 D
     have S:Ql (dgt ks b p) l t=j:=(AbV (Ez H) R).1 (H.trans c.symm)
     have:=G t (AZY.2 Q) (by grind)
     rw[S]at this
     rw[this,Fx c,AZK,d];rfl
    ·rw[AaV (by rw[JK (Ql (dgt ks b p) l) (fun i=>((l.getD i 0:Nat):Int)),AZs];omega),AaV (by rw[Dx,e.length_eq];omega)]
   rw[this])
 have z2:UG (dgt ks b p) B l B=mb (dgt ks b p) B l 0:=by unfold UG mb;refine Aad fun v hv => ?_;grind
 grind
end
abbrev AVQ:=Int×Int×List (List Int)×Unit
abbrev SB:=Int×Int×AVQ×Unit
def PS(w:SB):Prop:=1<=w.1/\w.1<=16/\1<=w.2.1/\w.2.1<=100/\Li w.2.2.1
def YR(a:List Nat)(i:Nat):Nat:=a.getD i 0
def ANN(a:List Nat)(b:Nat):List Nat:=aW (YR a) b (List.range a.length) (nps b)
def srt(a:List Nat)(b:Nat):List Nat:=(ANN a b).map (YR a)
theorem im(a:List Nat)(b:Nat):(ANN a b).Perm (List.range a.length):=(iN _ _ _ _).1
theorem OG(a:List Nat)(b:Nat):(srt a b).Perm a:=by
 have h:=(im a b).map (YR a);have:(List.range a.length).map (YR a)=a:=by apply AbY (by simp);intro i d c;simp[YR,AZE c]
 rw[this]at h;exact h
section
variable {ks:List Nat} {b c:Nat} {p:AVQ} (hk:∀ x∈ks,x<4294967296) (hn:ks.length<=1000)
theorem AFU(f:1<=b)(e:b<=16)(r:1<=c)(g:c<=100)(hk:∀ x∈ks,x<4294967296)(hn:ks.length<=1000){U:List Nat}{k:Nat}(h:k<=40000)(s:U.Perm (List.range (nbl ks.length c)))(t:DH ((nbl ks.length c:Int),p,())=some (nI U,(k:Int),0,())):
  iO (nI ks,(b:Int),(c:Int),p,())=some (nI (ANN ks b),((2*k*nps b:Nat):Int),0,()):=by
 have v:ieq (0:Int) 0=true:=by rw[BL];rfl
 have j:=mc (b:=b);have n:=ACw f;have w:=iB (xs:=nI ks) (b:=c) (by rw[Dx];exact hn) r g (p:=p) (U:=U) (k:=k) h (by rw[Dx];exact s) (by rw[Dx];exact t);obtain⟨a,d,q,u⟩:=p;rw[aV,Y0];simp only[OR f e];rw[BL,AYz (by omega)];simp only[w,v,AY4,A9,Dx]
 have y:=Is (step:=OQ) (fun i=>(nI ks,(b:Int),(nps b:Int),((2*k:Nat):Int),nI (List.range i),(ks.length:Int),(i:Int),())) ks.length (.inl (nI ks,(b:Int),(nps b:Int),((2*k:Nat):Int),nI (List.range ks.length),())) (by omega)
  (fun i hi=>by
   rw[OQ,A4,AY0 hi,A9,Dx,AZd,A9]
   simp only[AZC,AZP]
   rw[CN (by omega),A6 (by omega)]
   simp only[I0]
   rw[AZo]
   unfold nI
   simp)
  (by rw[OQ,A4,AYz (by omega)])
 have l:A_ OQ many (nI ks,(b:Int),(nps b:Int),((2*k:Nat):Int),([]:List Int),(ks.length:Int),(0:Int),())=_:=y;simp only[l]
 have z:=Is (step:=OP) (fun i=>(nI ks,(b:Int),(nps b:Int),((2*k:Nat):Int),nI (aW (YR ks) b (List.range ks.length) i),(nps b:Int),(i:Int),())) (nps b) (.inl ((nps b:Int),((2*k:Nat):Int),nI (ANN ks b),())) (by omega)
  (fun i hi=>by
   have A:=(iN (YR ks) b (List.range ks.length) i).1
   rw[OP,A4,AY0 hi]
   simp only[AR5 hk f e hi hn A]
   rw[A6 (by omega)]
   rfl)
  (by rw[OP,A4,AYz (by omega)];rfl)
 have m:A_ OP many (nI ks,(b:Int),(nps b:Int),((2*k:Nat):Int),nI (List.range ks.length),(nps b:Int),(0:Int),())=_:=z;simp only[m];have o:2*k*nps b<=80000*47:=Aas (by omega) j;rw[<- Abm,BI (by omega)]
theorem AFV{xs:List Int}{w:SB}(h:¬ (PS w/\xs.length<=1000)):iO (xs,w.1,w.2.1,w.2.2.1,())=some ([],0,1,()):=by
 obtain⟨b,c,⟨a,d,q,u⟩,v⟩:=w;rw[aV,Y0];by_cases f:1<=b/\b<=16;obtain⟨b,rfl⟩:=AY6 (show 0<=b by omega);have g:=ACw (b:=b) (by omega);have i:ieq (1:Int) 0=false:=by rw[BL];rfl
 have j:=AEy (xs:=xs) (b:=c) (p:=(a,d,q,u)) (fun e=>h ⟨⟨f.1,f.2,e.1,e.2.1,e.2.2.2⟩,e.2.2.1⟩);simp only[OR (b:=b) (by omega) (by omega)];grind;simp only[qu f];rw[BL,AY0 rfl]
theorem AFY{l:List Nat}{n:Nat}(g:l.Perm (List.range n))(hn:n<=1000):ACI (nI l,(n:Int),())=some (true,()):=by
 have a:=g.length_eq;rw[AZd]at a;have h:l.Nodup:=g.nodup_iff.2 Aa3;rw[q7,lp]
 have q:=Is (step:=OS) (fun i=>(nI l,(n:Int),M1 (l.take i),nI l,(l.length:Int),(i:Int),())) l.length (.inr (.inl (nI l,(n:Int),()))) (by omega)
  (fun i hi=>by
   obtain⟨x,e⟩:=Cb hi
   have r:x<n:=AZY.1 (g.mem_iff.1 (AY9 e))
   have d:x∉l.take i:=by
    intro s
    obtain⟨j,f⟩:=Aaz s
    rw[AbJ]at f
    split at f
    ·have:=(AbV (Ez f) h).1 (f.trans e.symm)
     omega
    grind
   obtain⟨o,t⟩:=AQa d
   have k:w64 (((A8 (M1 (l.take i)) (x:Int)).getD (0:Int))+(1:Int))=1:=by
    rw[t];exact BI (by decide)
   have m:A8 (M1 (l.take i++[x])) (x:Int)=some 1:=by
    rw[<- o,Gl,AZA rfl]
   rw[OS,A4,AY0 hi]
   simp only[BB (Fx e)]
   rw[BG,AYz (by omega),FJ,AYz (by omega)]
   simp only[k,o,m,AZ2]
   rw[BG,AYz (by decide),A6 (by omega),Ct e])
  (by rw[OS,A4,AYz (by omega)])
 have u:A_ OS many (nI l,(n:Int),([]:List (Int×Int)),nI l,(l.length:Int),(0:Int),())=_:=q;simp only[A9,Dx,u];rw[nN,AY0 a]
theorem ANm{i:Nat}(h:i<ks.length):ks[i]? = some (YR ks i):=by unfold YR;grind
theorem qt{l:List Nat}(a:l.Perm (List.range ks.length))(hn:ks.length<=1000):Sq (nI ks,nI l,())=some (nI (l.map (YR ks)),true,()):=by
 have d:=a.length_eq;rw[AZd]at d;rw[aU,Vt];simp only[A9,Dx,AFY a hn,AY4]
 have q:=Is (step:=J') (fun i=>(nI ks,nI ((l.take i).map (YR ks)),nI l,(l.length:Int),(i:Int),())) l.length (.inl (nI (l.map (YR ks)),())) (by omega)
  (fun i hi=>by
   obtain⟨x,e⟩:=Cb hi
   have f:x<ks.length:=AZY.1 (a.mem_iff.1 (AY9 e))
   rw[J',A4,AY0 hi]
   simp only[BB (Fx e),BB (Fx (ANm f)),A9,Dx,AZZ,AZU,AZC,AZP]
   rw[CN (by omega),A6 (by omega),Ct e]
   simp only[I0]
   unfold nI
   simp)
  (by rw[J',A4,AYz (by omega),AZT])
 have g:A_ J' many (nI ks,([]:List Int),nI l,(l.length:Int),(0:Int),())=_:=q;grind
theorem ug(s:List Int)(k:s.length<=1000000):ZS (s,())=some (R1 s,()):=by
 rw[cw,Wx]
 have q:=Is (step:=KZ) (fun i=>(s,Nz s.length (fun i=>decide (i=0)||decide (s.getD (i-1) 0≠s.getD i 0)) false i,s,(s.length:Int),(i:Int),())) s.length (.inl (R1 s,())) (by omega)
  (fun i hi=>by
   obtain⟨x,a⟩:=Cb hi
   obtain⟨y,d⟩:=Cb (xs:=Nz s.length (fun i=>decide (i=0)||decide (s.getD (i-1) 0≠s.getD i 0)) false i) (i:=i) (by rw[Oh];exact hi)
   rw[KZ,A4,AY0 hi]
   simp only[BB a,BB d,FX]
   rw[A6 (by omega),<- bP,BL]
   by_cases l:i=0
   ·grind
   ·obtain⟨j,rfl⟩:∃ j,i=j+1:=⟨i-1,by omega⟩
    obtain⟨z,e⟩:=Cb (xs:=s) (i:=j) (by omega)
    rw[AYz (by omega),show((j+1:Nat):Int)-1=(j:Int) by omega,BI (by omega)]
    simp only[BB e]
    have f:s.getD j 0=z:=by grind
    have g:s.getD (j+1) 0=x:=by grind
    have:(!(ieq z x))=(decide (j+1=0)||decide (s.getD (j+1-1) 0≠s.getD (j+1) 0)):=by
     rw[Nat.add_sub_cancel,f,g,BL];simp
    rw[this])
  (by rw[KZ,A4,AYz (by omega),bR];rfl)
 rw[WJ]at q;have h:A_ KZ many (s,List.replicate s.length false,s,(s.length:Int),(0:Int),())=_:=q;simp only[A9,IV (show s.length<=4294967296 by omega),KX,h]
def bT(s:List Int):List Int:=(kept (R1 s) s.length).map fun i=>s.getD i 0
theorem AOl(s:List Int):(R1 s).length=s.length:=by simp[R1]
theorem uG{s:List Int}{i:Nat}(h:i<s.length):(R1 s).getD i false=(decide (i=0)||decide (s.getD (i-1) 0≠s.getD i 0)):=by unfold R1;grind
theorem bZ{s:List Int}{x:Int}:x∈bT s↔x∈s:=by
 unfold bT;rw[AZG];constructor;rintro⟨i,hi,rfl⟩;have:=AZY.1 (AZS.1 hi).1;grind;intro h;have d:∀ i,i<s.length->s.getD i 0=x->∃ j,j∈kept (R1 s) s.length/\s.getD j 0=x:=by
  intro i;induction i with
   |zero=>intro hi a;exact⟨0,AZS.2 ⟨AZY.2 hi,by rw[uG hi];rfl⟩,a⟩
   |succ i f=>intro hi a;by_cases e:s.getD i 0=x;grind;refine⟨i+1,AZS.2 ⟨AZY.2 hi,?_⟩,a⟩;rw[uG hi,Nat.add_sub_cancel,a,AY0 e];simp
 obtain⟨i,hi⟩:=Aaz h;grind
theorem ud(C:1<=b)(n:b<=16)(v:1<=c)(g:c<=100)(hk:∀ x∈ks,x<4294967296)(hn:ks.length<=1000){U V:List Nat}{k m:Nat}(h:k<=40000)(o:m<=40000)(D:U.Perm (List.range (nbl ks.length c)))(E:DH ((nbl ks.length c:Int),p,())=some (nI U,(k:Int),0,()))
  (W:V.Perm (List.range ks.length)) (F:DH ((ks.length:Int),p,())=some (nI V,(m:Int),0,())) :
  ∃ T,Tx (nI ks,((b:Int),(c:Int),p,()),())=some (bT (nI (srt ks b)),T,((2*k*nps b+(2*k+m):Nat):Int),0,()):=by
 have G:ieq (0:Int) 0=true:=by rw[BL];rfl
 have r:=mc (b:=b);have w:2*k*nps b<=80000*47:=Aas (by omega) r;have e:(srt ks b).length=ks.length:=(OG ks b).length_eq;have j:=AFU (p:=p) C n v g hk hn h D E;have H:=qt (im ks b) hn;have s:Sq (nI ks,nI (ANN ks b),())=some (nI (srt ks b),true,()):=H;have I:=ug (nI (srt ks b)) (by rw[Dx,e];omega);have J:(R1 (nI (srt ks b))).length=ks.length:=by rw[AOl,Dx,e]
 have K:=xp (keep:=R1 (nI (srt ks b))) (b:=c) (p:=p) (U:=U) (V:=V) (k:=k) (m:=m) (by omega) v g h o (by grind) (by grind) (by grind) (by grind);obtain⟨a,d,q,u⟩:=p;rw[R4,QL];simp only[j,G,AY4,s,I,K];generalize z:kept (R1 (nI (srt ks b))) (R1 (nI (srt ks b))).length=P;generalize L:nI (srt ks b)=S at *;have M:S.length=ks.length:=by rw[<- L,Dx,e]
 have N:P.length<=1000:=by rw[<- z];have:=ZG (R1 S) (R1 S).length;omega
 have t:∀ {i x:Nat},P[i]? = some x->S[x]? = some (S.getD x 0)/\x<=1000:=fun {i x} f=>by have:=AY9 f;rw[<- z]at this;have:=AZY.1 (AZS.1 this).1;grind
 let l:Nat->Int:=fun i=>if i+1<P.length then w64 ((P.getD (i+1) 0:Nat)-(P.getD i 0:Nat):Int)else w64 ((S.length:Int)-(P.getD i 0:Nat))
 have Q:=Is (step:=KY) (fun i=>(((2*k*nps b:Nat):Int),S,nI P,((2*k+m:Nat):Int),(P.take i).map (fun i=>S.getD i 0),(List.range i).map l,(P.length:Int),(i:Int),())) P.length
  (.inl (((2*k*nps b:Nat):Int),((2*k+m:Nat):Int),P.map (fun i=>S.getD i 0),(List.range P.length).map l,())) (by omega)
  (fun i hi=>by
   obtain⟨x,f⟩:=Cb hi
   obtain⟨A,X⟩:=t f
   have Y:P.getD i 0=x:=by grind
   rw[KY,A4,AY0 hi]
   simp only[BB (Fx f),CG (Fx f),A9,Dx]
   rw[A6 (by omega),A4]
   simp only[BB A,CG A,AZZ,AZU,AZd,AZC,AZP]
   rw[CN (by omega),CN (by omega)]
   simp only[I0]
   rw[Ct f,AZo,AaP,AaP]
   by_cases j:i+1<P.length
   ·obtain⟨y,B⟩:=Cb j
    have O:P.getD (i+1) 0=y:=by grind
    have:l i=w64 ((y:Int)-(x:Int)):=by
     grind
    simp only[AY0 j,BB (Fx B),CG (Fx B),AZN,Aa6,this]
   grind)
  (by rw[KY,A4,AYz (by omega),AZT])
 have R:A_ KY many (((2*k*nps b:Nat):Int),S,nI P,((2*k+m:Nat):Int),([]:List Int),([]:List Int),(P.length:Int),(0:Int),())=_:=Q;refine⟨(List.range P.length).map l,?_⟩;simp only[Dx,A9,R];rw[wrap_add (by omega)];have:bT S=P.map fun i=>S.getD i 0:=by unfold bT;grind
 rw[this]
end
end Go.Pev.Pl
end
section
namespace Go.Pev.Pl.SE
open Go.Sort
theorem R7{x y:Int×Int×Unit}(_:ok x)(_:ok y):∃ c,Bn (x,y,())=some (c,())/\ilt c (0:Int)=lt x y:=by rw[Xs,Rz];simp only[X7,or_val,BG,lt];grind
noncomputable def S:SG.SP (Int×Int×Unit) Int:=⟨((0:Int),((0:Int),())),Bn,tLt,ok,okz,WK,lt,swo,fun a b=>R7 a b⟩
theorem IJ(xs:List (Int×Int×Unit))(h:xs.length<4294967296)(a:∀ x∈xs,ok x):∃ ys,ACD (xs,())=some (ys,())/\ys.Perm xs/\ys.Pairwise fun x y=>lt y x=false:=SG.IJ S xs h a
end Go.Pev.Pl.SE
namespace Go.Pev.Pl
open Tok
section
variable {α β:Type} [DecidableEq α]
end
theorem tS(l:List Edge)(n:Int)(ts:List Tie)(b:List Edge)(j:b.length<1073741824):
  ∃ m:List (Edge×Int),A_ QG many (l,n,ts,([]:List (Edge×Int)),b,A3 b,(0:Int),())=some (.inl (l,n,ts,m,()))/\∀ k,(A8 m k).getD 0=if k∈b then 1 else 0:=by
 have e:=Er (step:=QG) (fun i (a:List (Edge×Int))=>(l,n,ts,a,b,A3 b,(i:Int),())) b (fun x a=>.inl (BC a x (1:Int))) (fun a=>.inl (l,n,ts,a,())) (fun i a=>True) (by omega)
  (fun i x a hi f _=>by
   refine⟨fun o c => ?_,fun r c=>(by cases c)⟩
   cases c
   refine⟨?_,trivial⟩
   rw[QG,A9,A4,AY0 hi]
   simp only[BB f,CG f]
   rw[A6 (by omega)])
  (fun a _=>by rw[QG,A9,A4,AYz (by omega)]) [] trivial
 have g:A_ QG many (l,n,ts,([]:List (Edge×Int)),b,A3 b,(0:Int),())=_:=e;rw[Ch (fun(x:Edge) (a:List (Edge×Int))=>BC a x (1:Int))]at g;refine⟨_,g,?_⟩;have d:∀ (xs:List Edge) (a:List (Edge×Int)) (k:Edge),(A8 (xs.foldl (fun a x=>BC a x (1:Int)) a) k).getD 0=if k∈xs then 1 else(A8 a k).getD 0:=by
  intro xs;induction xs with
   |nil=>simp
   |cons x xs h=>intro a k;rw[AZm,h,Qt];grind
 intro k;rw[d];rfl
theorem AIK(n:Int)(ts:List Tie)(m:List (Edge×Int))(l:List Edge)(s:l.length<1073741824):
  A_ QF many (n,ts,m,([]:List Edge),l,A3 l,(0:Int),())=some (walk (YQ n) (fun a=>.inr (.inl (a.2,()))) l (m,[])):=by
 have e:=Er (step:=QF) (fun i (a:List (Edge×Int)×List Edge)=>(n,ts,a.1,a.2,l,A3 l,(i:Int),())) l (YQ n) (fun a=>.inr (.inl (a.2,()))) (fun i a=>a.2.length<=i) (by omega)
  (fun i x a hi o t=>by
   have step:QF (n,ts,a.1,a.2,l,A3 l,(i:Int),())=match YQ n x a with
     |.inl g=>some (.inl (n,ts,g.1,g.2,l,A3 l,((i+1:Nat):Int),()))
     |.inr r=>some (.inr r):=by
    rw[QF,A9,A4,AY0 hi]
    simp only[BB o,QB,TU]
    rw[BG,BQ,BG,BL,A6 (by omega),CN (by simp only[A9,AZC,AZP];omega)]
    unfold YQ
    have b:(nrm x).1=min x.1 x.2.1:=rfl
    have c:(nrm x).2.1=max x.1 x.2.1:=rfl
    have d:(min x.1 x.2.1,max x.1 x.2.1,())=nrm x:=rfl
    rw[d,<- b,<- c]
    by_cases p:(nrm x).1<0
    ·grind
    rw[AYz p]
    by_cases q:n<=(nrm x).2.1
    ·grind
    rw[AYz q,AY7 (fun h=>by omega)]
    by_cases j:(nrm x).1<(nrm x).2.1
    ·rw[AY0 j]
     by_cases k:(A8 a.1 (nrm x)).getD 0=0
     ·rw[AY0 k,AZA ⟨j,k⟩]
      rfl
     grind
    grind
   refine⟨fun u f => ?_,fun r f => ?_⟩
   ·rw[f]at step
    refine⟨step,?_⟩
    unfold YQ at f
    grind
   grind)
  (fun a _=>by rw[QF,A9,A4,AYz (by omega)]) (m,[]) (AY8 _)
 exact e
theorem AOf{N:Nat}(o:1<=N)(p:N<=64)(ts:List Tie)(s:ts.length<=400)(l:List Edge)(t:l.length<1073741824)(q:Ej (((N:Int),(ts,())),())=some (true,())):
  AOg (((N:Int),(ts,())),l,())=some (if ∀ e∈l,In (N:Int) e.1/\In (N:Int) e.2.1 then(I7 N ts l,0,())else([],10,())):=by
 obtain⟨m,u,F⟩:=tS l (N:Int) ts (ts.map ed) (by grind);rw[ADT,AAU];simp only[q,AY4,bp (N:Int) ts s q,u,AIK (N:Int) ts m l t];have d:(∀ x∈l,0<=(nrm x).1/\(nrm x).2.1<(N:Int))↔∀ e∈l,In (N:Int) e.1/\In (N:Int) e.2.1:=by constructor;intro h e n;have:=h e n;simp only[nrm]at this;exact⟨ADL o p (by omega),ADL o p (by omega)⟩;intro h e n;obtain⟨⟨_,_,G,H⟩,⟨_,_,I,J⟩⟩:=h e n;simp only[nrm];omega
 by_cases c:∀ e∈l,In (N:Int) e.1/\In (N:Int) e.2.1;rw[AZA c];obtain⟨ys,v,w,y,K⟩:=AGq (N:Int) (ts.map ed) l m [] (d.2 c) List.nodup_nil (fun k=>by grind)
 rw[v];have g:ys.length<4294967296:=by grind
 obtain⟨L,z,A,B⟩:=SE.IJ ys g (fun _ _=>trivial);have i:=ABR N ts l;have f:ys.Perm (I7 N ts l):=by
  rw[Aap w (i.imp fun {a b} h=>by rintro rfl;unfold DI at h;omega)]
  intro k;rw[y,AGu];constructor;rintro (h|⟨r,j,x,C,rfl⟩);cases h;have:=(d.2 c) x C;refine⟨⟨this.1,j,this.2,?_⟩,r⟩;obtain⟨a,b,⟨⟩⟩:=x;unfold Rw nrm;grind;rintro⟨⟨r,j,M,D⟩,E⟩;refine .inr ⟨E,j,?_⟩;obtain⟨a,b,⟨⟩⟩:=k;simp only at j;rcases D with h|h;exact⟨_,h,by unfold nrm;grind⟩;exact⟨_,h,by unfold nrm;grind⟩
 rw[xQ A B i f]at z;grind;rw[AY7 c,mg (N:Int) l (m,[]) (fun h=>c (d.1 h))]
end Go.Pev.Pl
end
section
namespace Go.Pev.Pl
def MH(e:Edge):Nat:=(min e.1 e.2.1).toNat*65536+(max e.1 e.2.1).toNat
def Fz(e:Edge):Prop:=0<=e.1/\e.1<65536/\0<=e.2.1/\e.2.1<65536
theorem ADI{e:Edge}(h:Fz e):MH e<4294967296:=by unfold Fz at h;unfold MH;omega
theorem jl{n:Int}(h:0<=n/\n<65536):uf (n,())=some (true,()):=by rw[ue,oF,BQ,AY0 h.1,BG,AY0 h.2]
theorem ANO{a b:Nat}(d:a<65536)(f:b<65536):IntKind.wrap .u32 (BitVec.ofInt (IntKind.bits .u32) ((a*65536:Nat):Int) ||| BitVec.ofInt (IntKind.bits .u32) (b:Int)).toNat=((a*65536+b:Nat):Int):=by
 have e:(BitVec.ofInt (IntKind.bits .u32) ((a*65536:Nat):Int) ||| BitVec.ofInt (IntKind.bits .u32) (b:Int)).toNat=a*65536+b:=by rw[BitVec.toNat_or,Aak,Aak,Aat,Aat];have c:IntKind.bits .u32=32:=rfl;rw[c,AZz (by omega),AZz (by omega)];have:=Nat.shiftLeft_add_eq_or_of_lt (i:=16) (b:=b) (by omega) a;rw[Nat.shiftLeft_eq]at this;grind
 rw[e];exact I' (by omega)
theorem Tv{e:Edge}(h:Fz e):AA2 ((e.1,(e.2.1,())),())=some ((MH e:Int),true,()):=by
 obtain⟨u,v,⟨⟩⟩:=e;obtain⟨a,c,b,d⟩:=h;simp only at a c b d;obtain⟨u,rfl⟩:=AY6 a;obtain⟨v,rfl⟩:=AY6 b;rw[ADj,AA1];simp only[jl (show 0<=(u:Int)/\(u:Int)<65536 by omega),jl (show 0<=(v:Int)/\(v:Int)<65536 by omega),AY4];have f:Cl (u:Int) (v:Int)=((min u v:Nat):Int):=by unfold Cl;omega
 have g:imax (u:Int) (v:Int)=((max u v:Nat):Int):=by unfold imax;omega
 have i:min u v<65536:=by omega
 have j:max u v<65536:=by omega
 rw[f,g,I' (by omega),I' (by omega)];have k:shl? .u32 ((min u v:Nat):Int) (16:Int)=some ((min u v*65536:Nat):Int):=by
  rw[OI,eM,AY7 (by omega)];have:min (16:Int).toNat (IntKind.bits .u32)=16:=by decide
  rw[this,show((min u v:Nat):Int)*2 ^ 16=((min u v*65536:Nat):Int) by omega,I' (by omega)]
 simp only[k];rw[ANO i j];have:MH ((u:Int),(v:Int),())=min u v*65536+max u v:=by unfold MH;grind
 rw[this]
def Zt(k:Int):Edge:=(k/65536,k % 65536,())
theorem AI3{k:Nat}(h:k<4294967296):ADl ((k:Int),())=some (Zt k,()):=by
 rw[uh,oL];have a:shr? .u32 (k:Int) (16:Int)=some ((k:Int)/65536):=by
  rw[RJ,lY,AY7 (by omega)];have:min (16:Int).toNat (IntKind.bits .u32)=16:=by decide
  grind
 have b:IntKind.wrap .u16 (k:Int)=(k:Int) % 65536:=by simp[IntKind.wrap,IntKind.bits,IntKind.signed]
 simp only[a,b];rw[BI (by omega),BI (by omega)];rfl
theorem gf{e:Edge}(h:Fz e):Zt (MH e:Int)=(min e.1 e.2.1,max e.1 e.2.1,()):=by obtain⟨u,v,⟨⟩⟩:=e;obtain⟨a,b,c,d⟩:=h;simp only at a b c d;unfold Zt MH;grind
def D8(l:List Edge):List Nat:=(l.filter fun e=>decide (e.1≠e.2.1)).map MH
theorem tZ{l:List Edge}(h:∀ e∈l,Fz e):∀ k∈D8 l,k<4294967296:=by intro k a;obtain⟨e,b,rfl⟩:=AZG.1 a;exact ADI (h e (AZS.1 b).1)
theorem P7(l:List Edge):(D8 l).length<=l.length:=by unfold D8;grind
noncomputable def HM(w:SB)(n:Nat):Int:=match DH ((nbl n w.2.1.toNat:Int),w.2.2.1,()),DH ((n:Int),w.2.2.1,())with
 |some a,some b=>2*a.2.1*(nps w.1.toNat:Int)+(2*a.2.1+b.2.1)
 |_,_=>0
theorem APQ{f:List Nat}{w:SB}(r:PS w)(h:FO f.length w.2.2.1)(s:∀ x∈f,x<4294967296)(i:f.length<=1000):
  0<=HM w f.length/\(HM w f.length=0->f=[])/\(f=[]->HM w f.length=0)/\ct (nI f,w,())=some (bT (nI (srt f w.1.toNat)),HM w f.length,0,()):=by
 obtain⟨b,c,p,u⟩:=w;obtain⟨t,y,z,A,j⟩:=r;simp only at t y z A j;obtain⟨b,rfl⟩:=AY6 (show 0<=b by omega);obtain⟨c,rfl⟩:=AY6 (show 0<=c by omega);have B:nbl f.length c<=1000:=AZu (WO (by omega)) i;obtain⟨U,k,C,I,D,l⟩:=h (nbl f.length c) (WO (by omega));obtain⟨V,m,E,J,F,G⟩:=h _ (AY8 _);have g:HM ((b:Int),(c:Int),p,u) f.length=((2*k*nps b+(2*k+m):Nat):Int):=by unfold HM;grind
 obtain⟨T,K⟩:=ud (p:=p) (b:=b) (c:=c) (by omega) (by omega) (by omega) (by omega) s i D F C l E G;rw[g];refine⟨by omega,fun o => ?_,fun o => ?_,?_⟩;grind;subst o;have L:k=0:=by
  have H:nbl ([]:List Nat).length c=0:=by have:=WO (n:=0) (b:=c) (by omega);grind
  rw[H]at l;have e:=uI j;grind
 grind;obtain⟨a,d,q,v⟩:=p;rw[cr,ZR];grind
theorem AIo{xs:List Int}{w:SB}(h:¬ (PS w/\xs.length<=1000)):ct (xs,w,())=some ([],0,1,()):=by
 have e:=AFV h;obtain⟨b,c,⟨a,d,q,v⟩,u⟩:=w;have g:ieq (1:Int) 0=false:=by rw[BL];rfl
 have f:iO (xs,b,c,(a,d,q,()),())=some ([],0,1,()):=e;have hd:Tx (xs,(b,c,(a,d,q,()),()),())=some ([],[],0,1,()):=by rw[R4,QL];grind
 rw[cr,ZR];grind
def LH(l:List Edge)(b:Nat):List Edge:=(bT (nI (srt (D8 l) b))).map Zt
theorem zc{l:List Nat}{x:Int}:x∈nI l↔∃ k∈l,x=(k:Int):=by unfold nI;grind
theorem Pz{l:List Edge}{b:Nat}(j:∀ e∈l,Fz e)(x:Edge):x∈LH l b↔0<=x.1/\x.1<x.2.1/\Rw l x.1 x.2.1:=by
 unfold LH;rw[AZG];constructor;rintro⟨k,f,rfl⟩;rw[bZ,zc]at f;obtain⟨k,f,rfl⟩:=f;rw[(OG _ _).mem_iff]at f;obtain⟨e,c,rfl⟩:=AZG.1 f;obtain⟨c,d⟩:=AZS.1 c;have d:e.1≠e.2.1:=by grind
 rw[gf (j e c)];have g:=j e c;obtain⟨u,v,⟨⟩⟩:=e;unfold Fz at g;simp only at d g |-;rcases Int.lt_or_gt_of_ne d with h|h;rw[AbN (by omega),Abb (by omega)];exact⟨by omega,h,.inl c⟩;rw[Int.min_eq_right (by omega),Int.max_eq_left (by omega)];exact⟨by omega,h,.inr c⟩
 ·rintro⟨n,o,i⟩;obtain⟨u,v,⟨⟩⟩:=x;simp only at n o i;have m:∀ e:Edge,e∈l->e.1≠e.2.1->min e.1 e.2.1=u->max e.1 e.2.1=v->∃ a∈bT (nI (srt (D8 l) b)),Zt a=(u,v,()):=by intro e c d p q;refine⟨(MH e:Int),?_,by rw[gf (j e c),p,q]⟩;rw[bZ,zc];refine⟨MH e,(OG _ _).mem_iff.2 (AZG.2 ⟨e,AZS.2 ⟨c,by grind⟩,rfl⟩),rfl⟩
  rcases i with i|i;all_goals grind
theorem jf{l:List Edge}{b:Nat}:(LH l b).length<=l.length:=by unfold LH bT;rw[AZZ,AZZ];have a:=ZG (R1 (nI (srt (D8 l) b))) (nI (srt (D8 l) b)).length;have c:=(OG (D8 l) b).length_eq;have d:=P7 l;rw[Dx]at a |-;omega
section
variable {l:List Edge} {w:SB} (hf:∀ e∈l,Fz e) (hn:l.length<=1000)
include hf hn
theorem X4(b c a d:Int)(q:List (List Int)):A_ Mb many (b,c,a,d,q,([]:List Int),l,(l.length:Int),(0:Int),())=some (.inr (.inl (b,c,a,d,q,nI (D8 l),()))):=by
 have Q:=Is (step:=Mb) (fun i=>(b,c,a,d,q,nI (D8 (l.take i)),l,(l.length:Int),(i:Int),())) l.length (.inr (.inl (b,c,a,d,q,nI (D8 l),()))) (by omega)
  (fun i hi=>by
   obtain⟨e,f⟩:=Cb hi
   have g:=hf e (AY9 f)
   have j:=P7 (l.take i)
   rw[AZU]at j
   have k:D8 (l.take (i+1))=D8 (l.take i)++(if e.1=e.2.1 then []else [MH e]):=by
    rw[Ct f]
    unfold D8
    grind
   rw[Mb,A4,AY0 hi]
   simp only[BB f,Tv g,AY4,BL]
   rw[A6 (by omega),k]
   by_cases h:e.1=e.2.1
   ·grind
   ·rw[AYz h,AY7 h]
    simp only[AZO,A9,Dx,AZC,AZP]
    rw[CN (by omega)]
    simp only[I0]
    unfold nI
    simp)
  (by rw[Mb,A4,AYz (by omega),AZT])
 exact Q
theorem AI2(o:PS w)(p:FO (D8 l).length w.2.2.1):PC (l,w,())=some (LH l w.1.toNat,HM w (D8 l).length,0,()):=by
 have r:=P7 l;obtain⟨_,_,_,hd⟩:=APQ o p (tZ hf) (by omega);obtain⟨b,c,⟨a,d,q,v⟩,u⟩:=w;have g:ct (nI (D8 l),(b,c,(a,d,q,()),()),())=some (bT (nI (srt (D8 l) b.toNat)),HM (b,c,(a,d,q,()),()) (D8 l).length,0,()):=hd;rw[W0,Tz];simp only[A9,X4 hf hn,g];generalize m:bT (nI (srt (D8 l) b.toNat))=O;have h:∀ k∈O,∃ n:Nat,k=(n:Int)/\n<4294967296:=by intro k f;rw[<- m,bZ,zc]at f;obtain⟨n,s,t⟩:=f;exact⟨n,t,tZ hf n ((OG _ _).mem_iff.1 s)⟩
 have x:O.length<=1000:=by have:=jf (l:=l) (b:=b.toNat);unfold LH at this;grind
 have Q:=Is (step:=Hf) (fun i=>(HM (b,c,(a,d,q,()),()) (D8 l).length,(0:Int),(O.take i).map Zt,O,(O.length:Int),(i:Int),())) O.length (.inl (HM (b,c,(a,d,q,()),()) (D8 l).length,(0:Int),O.map Zt,())) (by omega)
  (fun i hi=>by
   obtain⟨k,f⟩:=Cb hi
   obtain⟨n,rfl,j⟩:=h k (AY9 f)
   rw[Hf,A4,AY0 hi]
   simp only[BB f,CG f,AI3 j,A9,AZZ,AZU,AZC,AZP]
   rw[CN (by omega),A6 (by omega),Ct f]
   simp only[I0,AaP]
   rfl)
  (by rw[Hf,A4,AYz (by omega),AZT])
 have y:A_ Hf many (HM (b,c,(a,d,q,()),()) (D8 l).length,(0:Int),([]:List Edge),O,(O.length:Int),(0:Int),())=_:=Q;simp only[y];unfold LH;rw[m]
theorem AA7(g:¬ PS w):PC (l,w,())=some ([],0,1,()):=by
 have hd:=AIo (xs:=nI (D8 l)) (w:=w) fun h=>g h.1;obtain⟨b,c,⟨a,d,q,v⟩,u⟩:=w;have f:ct (nI (D8 l),(b,c,(a,d,q,()),()),())=some ([],0,1,()):=hd;rw[W0,Tz];simp only[A9,X4 hf hn,f]
 have Q:=Is (step:=Hf) (fun i=>((0:Int),(1:Int),([]:List Edge),([]:List Int),(0:Int),(i:Int),())) 0 (.inl ((0:Int),(1:Int),([]:List Edge),())) (by omega)
  (fun i hi=>absurd hi (by omega))
  (by rw[Hf,BG,AYz (by omega)])
 grind
end
theorem mL{N:Nat}{l a:List Edge}(h:∀ u v:Int,0<=u->u<v->(Rw l u v↔Rw a u v)):EM N l=EM N a:=by
 unfold EM;refine AaB (List.flatMap · (List.range N)) (funext fun u => ?_)
 unfold qy;grind
theorem AIf{l:List Edge}{b:Nat}(c:∀ e∈l,Fz e){u v:Int}(d:0<=u)(h:u<v):Rw (LH l b) u v↔Rw l u v:=by unfold Rw;constructor;rintro (a|a);exact((Pz c _).1 a).2.2;have:=((Pz c _).1 a).2.1;grind;intro a;exact .inl ((Pz c (u,v,())).2 ⟨d,h,a⟩)
theorem X2{l:List Edge}{b N:Nat}(a:∀ e∈l,Fz e):EM N (LH l b)=EM N l:=mL fun _ _ c h=>AIf a c h
end Go.Pev.Pl
end
