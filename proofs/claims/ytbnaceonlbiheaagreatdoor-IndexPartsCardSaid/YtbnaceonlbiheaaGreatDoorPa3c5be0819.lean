/- A part of the proofs of this seat: NKD T22a T21a T23a T23b T24a PlnC NKE NKF NKG NKH NU24a NU24b NU24c NU24d NU23a NU23b NU23c NU23d NU23e T24b NU24f NU24g NU24h NU24i NU24j NU24k NU24l NU24m NU24n PlnD NU21a NU21b NSIg NU23f NU23g PlnE NU23h NU23i NU23n CU26al T05a T05b T05c CU26a CU26b CU26c CU26d CU26e CU26f T26a CU26g CU26h CBW22v CU26i. -/
import Derived.Test.YtbnaceonlbiheaaGreatDoorP699b60e296
import Derived.KernelRfl
set_option linter.unusedVariables false
set_option linter.unusedSimpArgs false
set_option linter.unusedSectionVars false
set_option maxRecDepth 100000
section
section
namespace Go.Pev.Pl
open Tok
def EB{α:Type}(P:Nat->Bool):Nat->List α->List α
 |_,[]=>[]
 |i,x::xs=>if P i then EB P (i+1) xs else x::EB P (i+1) xs
theorem s8{α:Type}(P:Nat->Bool):∀ (xs:List α) (s:Nat),(∀ k,s<=k->P k=false)->EB P s xs=xs:=by
 intro xs;induction xs with
  |nil=>intro s _;rfl
  |cons x xs a=>intro s h;rw[EB,h s (AV8 _),a (s+1) fun k b=>h k (by omega)];rfl
theorem zx{α:Type}(P:Nat->Bool)(i:Nat):∀ (xs:List α) (s:Nat),s<=i->(∀ k,s<=k->P k=decide (k=i))->EB P s xs=xs.eraseIdx (i-s):=by
 intro xs;induction xs with
  |nil=>intro s _ _;rfl
  |cons x xs a=>intro s c h;rw[EB,h s (AV8 _)];by_cases e:s=i;subst e;rw[s8 P xs (s+1) fun k b=>by grind];simp;rw[a (s+1) (by omega) fun k b=>h k (by omega)];rw[AV1 e,AV9 (by simp),show i-s=(i-(s+1))+1 by omega,AYF]
theorem cF{α:Type}(P:Nat->Bool)(i j:Nat)(a:i<j):∀ (xs:List α) (s:Nat),s<=i->(∀ k,s<=k->P k=decide (k=i\/k=j))->EB P s xs=(xs.eraseIdx (j-s)).eraseIdx (i-s):=by
 intro xs;induction xs with
  |nil=>intro s _ _;rfl
  |cons x xs b=>intro s d h;rw[EB,h s (AV8 _)];by_cases e:s=i;subst e;rw[zx P j xs (s+1) (by omega) fun k c=>by rw[h k (by omega)];grind];rw[AV2 (.inl rfl),AWB rfl,show j-s=(j-(s+1))+1 by omega,AYF,AXT,List.eraseIdx_zero];rfl;rw[b (s+1) (by omega) fun k c=>h k (by omega)];rw[AV1 (by omega),AV9 (by simp),show j-s=(j-(s+1))+1 by omega,AYF,show i-s=(i-(s+1))+1 by omega,AYF]
theorem s9{α:Type}(P:Nat->Bool):∀ (xs:List α) (b:List α) (k:Nat),(xs.foldl (fun(a:List α×Nat) x=>(if P a.2 then a.1 else a.1++[x],a.2+1)) (b,k)).1=b++EB P k xs:=by
 intro xs;induction xs with
  |nil=>intro b k;simp[EB]
  |cons x xs c=>intro b k;rw[AXA,c,EB];grind
theorem zy{α:Type}(P:Nat->Bool):∀ (xs:List α) (k:Nat),(EB P k xs).length<=xs.length/\∀ x∈EB P k xs,x∈xs:=by
 intro xs;induction xs with
  |nil=>intro k;simp[EB]
  |cons x xs a=>intro k;obtain⟨b,c⟩:=a (k+1);rw[EB];grind
theorem ADb(n:Int)(c:List (List Int))(d:List Int)(g:List (List Int))(u:c.length<1073741824)(E:d.length<1073741824)(F:g.length<1073741824)
  (q:∀ l∈c,l≠[]) (s:∀ r∈g,plain r≠[]) :
  ∃ ys,ABL ((n,(c,())),d,g,())=some (n,ys,())/\ys.Perm (EB (fun k=>decide ((k:Int)∈d)) 0 c++g.map plain)/\ys.Pairwise (fun a b=>¬ hd b<hd a):=by
 rw[oh,jl]
 have e:=DS (step:=NF) (fun i (a:List (List Int)×Nat)=>(d,g,n,c,(0:Int),a.1,c,A2 c,(i:Int),())) c
  (fun x a=>.inl (if decide ((a.2:Int)∈d)then a.1 else a.1++[x],a.2+1)) (fun a=>.inl (g,n,c,(0:Int),a.1,())) (fun i a=>a.2=i/\a.1.length<=i) (by omega)
  (fun i x a hi o ⟨v,G⟩=>by
   refine⟨fun w j => ?_,fun r j=>by cases j⟩
   cases j
   subst v
   rw[NF,A6,A3,AV2 hi]
   simp only[A' o,Hb d _ (show d.length<9223372036854775808 by omega)]
   rw[A5 (by omega),Bo (by simp only[A6,AWD,AWK];omega)]
   by_cases h:(a.2:Int)∈d
   ·grind
   ·simp only[h,AWg,AWR]
    exact⟨by trivial,by trivial,by grind⟩)
  (fun a _=>by rw[NF,A6,A3,AV1 (by omega)]) ([],0) ⟨rfl,by simp⟩
 have y:A8 NF many (d,g,n,c,(0:Int),[],c,A2 c,(0:Int),())=_:=e;rw[y,B'];have t:(c.foldl (fun(a:List (List Int)×Nat) x=>(if decide ((a.2:Int)∈d)then a.1 else a.1++[x],a.2+1)) ([],0)).1=EB (fun k=>decide ((k:Int)∈d)) 0 c:=by have:=s9 (fun k=>decide ((k:Int)∈d)) c [] 0;grind
 simp only[t];obtain⟨H,z⟩:=zy (fun k=>decide ((k:Int)∈d)) c 0;generalize EB (fun k=>decide ((k:Int)∈d)) 0 c=rest at *
 have f:=DS (step:=ND) (fun i (a:List (List Int))=>(n,c,(0:Int),a,g,A2 g,(i:Int),())) g
  (fun x a=>.inl (a++[plain x])) (fun a=>.inl (n,c,(0:Int),a,())) (fun i a=>a.length=rest.length+i) (by omega)
  (fun i x a hi o v=>by
   refine⟨fun w j => ?_,fun r j=>by cases j⟩
   cases j
   rw[ND,A6,A3,AV2 hi]
   simp only[A' o,wE]
   rw[A5 (by omega),Bo (by simp only[A6,AWD,AWK];omega)]
   exact⟨rfl,by grind⟩)
  (fun a _=>by rw[ND,A6,A3,AV1 (by omega)]) rest rfl
 have A:A8 ND many (n,c,(0:Int),rest,g,A2 g,(0:Int),())=_:=f;rw[A,B'];have m:∀ (l p:List (List Int)),l.foldl (fun a x=>a++[plain x]) p=p++l.map plain:=by
  intro l;induction l with
   |nil=>simp
   |cons x l I=>grind
 simp only[m];obtain⟨ys,J,B,C⟩:=SL.FF (rest++g.map plain) (by grind) (fun x o=>by rcases AWL.1 o with h|h;exact q x (z x h);obtain⟨r,D,rfl⟩:=AWV.1 h;exact s r D)
 refine⟨ys,by grind,B,C.imp fun {a b} h => ?_⟩;simp only[SL.lt,Go.Sort.ltInt,AWY]at h;exact h
def AEx(a:List (List Int))(p:List Int):List (List Int):=a.take (a.findIdx fun x => !decide (hd x<hd p))++p::a.drop (a.findIdx fun x => !decide (hd x<hd p))
theorem AEw(a:List (List Int))(p:List Int):(AEx a p).Perm (p::a):=by rw[AEx];refine List.perm_middle.trans ?_;simp
theorem AQG{c:List (List Int)}{p:List Int}(h:c.Pairwise (fun a b=>hd a<hd b))(g:∀ x∈c,hd x≠hd p):(AEx c p).Pairwise (fun a b=>hd a<hd b):=by
 rw[AEx];have k:∀ x∈c.take (c.findIdx fun x => !decide (hd x<hd p)),hd x<hd p:=by intro x d;obtain⟨j,l,e⟩:=AYa.1 d;grind
 have hgt:∀ x∈c.drop (c.findIdx fun x => !decide (hd x<hd p)),hd p<hd x:=by
  intro x d;by_cases f:(c.findIdx fun x => !decide (hd x<hd p))<c.length;have m:=List.findIdx_getElem (p:=fun x => !decide (hd x<hd p)) (xs:=c) (w:=f);rw[AWv f]at d;have n:¬ hd c[c.findIdx fun x => !decide (hd x<hd p)]<hd p:=by grind
  have o:=g _ (AWu f);rcases AWO.1 d with rfl|d;omega;have i:(c.drop (c.findIdx fun x => !decide (hd x<hd p))).Pairwise (fun a b=>hd a<hd b):=h.sublist (List.drop_sublist _ _);rw[AWv f,AWr]at i;grind;grind
 rw[List.pairwise_append,AWr];grind
end Go.Pev.Pl
end
section
namespace Go.Pev.Pl
open Tok
theorem n6{n u v:Int}(h:okT n (.arc u v)):n<=PQ n u v:=by rw[Ju h];exact(YP h.1 h.2.1).1
def DD(n:Int)(A B:List Int)(u v:Int):List Int:=u::PQ n u v::(C9 B v++PQ n v u::(C9 A u).tail)
theorem UM{n u v:Int}{A B:List Int}(q:TI n A)(r:TI n B)(j:u∈A)(k:v∈B)(i:In n u)(m:In n v)(hd:Dis n A B):
  TI n (DD n A B u v)/\C9 A u=u::(C9 A u).tail/\(∀ t,t<n->(t∈DD n A B u v↔t∈A\/t∈B))/\u≠v/\okT n (.arc u v):=by
 obtain⟨a,s,w,y⟩:=uO q (t:=.ver u) i j;obtain⟨b,z,C,J⟩:=uO r (t:=.ver v) m k;have d:C9 A u=(Tok.ver u::a).map (Hy n):=s;have f:C9 B v=(Tok.ver v::b).map (Hy n):=z;have g:u≠v:=by rintro rfl;exact hd u j i.2.2.2 k
 have e:okT n (.arc u v):=⟨i,m,g⟩
 have D:=(Eb j).perm;have o:=(Eb k).perm;have c:C9 A u=u::(C9 A u).tail:=by rw[d];rfl
 have h:DD n A B u v=(Tok.ver u :: .arc u v::(.ver v::b ++ .arc v u::a)).map (Hy n):=by rw[DD,d,f,Ju e,Ju (Nl e)];grind
 refine⟨⟨_,h,fun t c => ?_,T.join w C fun x p l => ?_⟩,c,fun t E => ?_,g,e⟩;rcases AWO.1 c with rfl|c;exact i;rcases AWO.1 c with rfl|c;exact e;rcases AWL.1 c with c|c;grind;rcases AWO.1 c with rfl|c;exact Nl e;grind;have F:=y _ p;have G:x∈A:=D.mem_iff.2 (by rw[d];exact AWV.2 ⟨_,p,rfl⟩);have H:x∈B:=o.mem_iff.2 (by rw[f];exact AWV.2 ⟨_,l,rfl⟩);exact hd x G F.2.2.2 H;have K:=n6 e;have L:=n6 (Nl e);have I:t∈A↔t=u\/t∈(C9 A u).tail:=by grind
 rw[DD,AWO,AWO,AWL,AWO,I,<- o.mem_iff];grind
theorem S3{n:Int}{a b:List (List Int)}(h:a.Perm b)(c:a.Pairwise (Dis n)):b.Pairwise (Dis n):=(h.pairwise_iff fun {_ _} d=>d.symm).1 c
theorem ASj{n:Int}{c d m:List (List Int)}{A B p:List Int}(h:FR n c)(o:c.Perm (A::B::d))(w:RG n p)(q:∀ t,t<n->(t∈p↔t∈A\/t∈B))(k:m.Perm (p::d))(x:m.Pairwise (fun a b=>hd a<hd b)):FR n m:=by have f:=S3 o h.dis;rw[AWr,AWr]at f;obtain⟨y,z,C⟩:=f;refine⟨h.sz,fun l i => ?_,x,S3 k.symm ?_,fun v s => ?_⟩;rcases AWO.1 (k.mem_iff.1 i)with rfl|i;exact w;exact h.rg l (o.mem_iff.2 (by simp[i]));rw[AWr];refine⟨fun r u t D e => ?_,C⟩;rcases(q t e).1 D with g|g;exact y r (by simp[u]) t g e;exact z r u t g e;obtain⟨l,i,j⟩:=h.cov v s;have:=o.mem_iff.1 i;simp only[AWO]at this;rcases this with rfl|rfl|g;exact⟨p,k.mem_iff.2 (by simp),(q v s.2.2.2).2 (.inl j)⟩;exact⟨p,k.mem_iff.2 (by simp),(q v s.2.2.2).2 (.inr j)⟩;grind
theorem jE(n:Int)(a:List (List Int))(u v:Int)(b:Dom a):asked ((n,(a,())),u,v,())=some (if RF n a then if In n u/\In n v then 0 else 10 else 1,()):=by rw[uE,ny];simp only[Lt n a b.1 b.2,Xs];grind
theorem AQ3{n:Int}{c:List (List Int)}{u v:Int}{i j:Nat}{A B:List Int}(h:FR n c)(K:In n u)(L:In n v)(hi:c[i]? = some A)(w:c[j]? = some B)(H:u∈A)(I:v∈B)(y:i≠j):
  ∃ M d,fT ((n,(c,())),u,v,())=some (n,M,0,())/\FR n M/\c.Perm (A::B::d)/\M.Perm (plain (DD n A B u v)::d)/\Dis n A B:=by
 have J:=h.dom;have N:=RH.2 h;have O:=h.rg A (AWA hi);have rB:=h.rg B (AWA w);have X:=(AWH.1 hi).1;have Y:=(AWH.1 w).1;have Z:plc c u=(i:Int):=h.kj hi K.2.2.2 H;have pv:plc c v=(j:Int):=h.kj w L.2.2.2 I;have f:c.Perm (A::B::(c.eraseIdx (max i j)).eraseIdx (min i j)):=by rcases Nat.lt_or_gt_of_ne y with g|g;rw[Nat.max_eq_right (by omega),AXn (by omega)];exact Ww g hi w;rw[Nat.max_eq_left (by omega),Nat.min_eq_right (by omega)];exact(Ww g w hi).trans (List.Perm.swap _ _ _)
 have q:Dis n A B:=by have:=S3 f h.dis;simp_all
 obtain⟨l1,l2,T,huv,ho⟩:=UM O.2.2.2 rB.2.2.2 H I K L q;obtain⟨o,r⟩:=uQ l1;have U:DD n A B u v=u::PQ n u v::(C9 B v++PQ n v u::(C9 A u).tail):=rfl;have lA:(C9 A u).length<=1000:=by rw[<- (Eb H).perm.length_eq];exact O.1.1
 have lB:(C9 B v).length<=1000:=by rw[<- (Eb I).perm.length_eq];exact rB.1.1
 have m:((c.eraseIdx (max i j)).eraseIdx (min i j)).Sublist c:=(List.eraseIdx_sublist _ _).trans (List.eraseIdx_sublist _ _);have P:EB (fun k=>decide ((k:Int)∈[(i:Int),(j:Int)])) 0 c=(c.eraseIdx (max i j)).eraseIdx (min i j):=by rcases Nat.lt_or_gt_of_ne y with g|g;rw[Nat.max_eq_right (by omega),AXn (by omega)];exact cF _ i j g c 0 (by omega) fun k _=>AXy.2 (by simp only[AWO,AYs,or_false];omega);rw[Nat.max_eq_left (by omega),Nat.min_eq_right (by omega)];exact cF _ j i g c 0 (by omega) fun k _=>AXy.2 (by simp only[AWO,AYs,or_false];omega)
 have hrl:((c.eraseIdx (max i j)).eraseIdx (min i j)).length<=c.length:=m.length_le;generalize (c.eraseIdx (max i j)).eraseIdx (min i j)=d at *;have z:d.Pairwise (fun a b=>hd a<hd b):=h.up.sublist m;have C:∀ l∈d,l≠[]:=fun l D=>(h.rg l (m.subset D)).2.1;have s:=S3 f h.dis;rw[AWr,AWr]at s;have p:∀ x∈d,hd x≠hd (plain (DD n A B u v)):=by intro x Q e;have R:=TP o;have g2:=(T _ R.2.2.2).1 (r.perm.mem_iff.2 (mJ o.2.1));have V:hd (plain (DD n A B u v))∈x:=e▸mJ (C x Q);rcases g2 with g|g;exact s.1 x (by simp[Q]) _ g R.2.2.2 V;exact s.2.1 x Q _ g R.2.2.2 V
 have E:=AQG z p;have F:=AEw d (plain (DD n A B u v));refine⟨AEx d (plain (DD n A B u v)),d,?_,ASj h f o (fun t ht=>by rw[<- r.perm.mem_iff];exact T t ht) F E,f,F,q⟩;obtain⟨ys,W,y2,y3⟩:=ADb n c [(i:Int),(j:Int)] [DD n A B u v] J.1 (by simp) (by simp) (fun l D=>(h.rg l D).2.1) (by simp;exact o.2.1);have S:ys=AEx d (plain (DD n A B u v)):=by refine pQ E (y2.trans ?_) y3;grind
 rw[S]at W;rw[Y2,Xq];have s1:Ci (C9 A u) (0:Int) (1:Int)=some [u]:=by have:=Tl (xs:=C9 A u) (l:=0) (h:=1) (by omega) (by grind);grind
 have s2:Ci (C9 A u) (1:Int) (A2 (C9 A u))=some (C9 A u).tail:=by have:=I' (xs:=C9 A u) (l:=1) (by grind);grind
 have d1:IF 0 (A4 (A2 [u])) (C9 A u)=[u]:=by rw[l2];rfl
 have d2:IF 1 (A4 (A2 (C9 A u).tail)) (C9 A u)=(C9 A u).tail:=by rw[IF,A6,OD,AYn,AWT]
 have G:Mm ([[u],[PQ n u v],C9 B v,[PQ n v u],(C9 A u).tail],())=some (DD n A B u v,()):=by rw[W7 _ (by simp) (by simp;omega)];simp[DD]
 have ne:((i:Int))≠(j:Int):=by omega
 simp only[jE n c u v J,N,K,L,and_self,AWf,BB,Pz n c _ J.1 (fun l D=>(J.2 l D).1),Z,pv,ne,AWG,AWg,AV6,A' hi,A' w,AEs,mU,O.1,rB.1,H,I,s1,s2,AJl,d1,d2,G,W]
theorem yu{n:Int}{a:List (List Int)}{u v:Int}(h:FR n a)(d:In n u)(e:In n v)(f:plc a u=plc a v):
  fT ((n,(a,())),u,v,())=some (n,a,5,()):=by have b:=h.dom;have c:=RH.2 h;rw[Y2,Xq];simp only[jE n a u v b,c,d,e,and_self,AWf,BB,Pz n a _ b.1 (fun l g=>(b.2 l g).1),f,AWG,AV6]
end Go.Pev.Pl
end
section
namespace Go.Pev.Pl
open Tok
def RC(c:List (List Int))(a b:Int):Prop:=∃ A∈c,a∈A/\b∈A
structure FC(n:Int)(rings:List (List Int))(l:List Edge):Prop where
 fr:FR n rings
 sam:∀ a b,In n a->In n b->(RC rings a b↔Con l a b)
 arcs:∀ A∈rings,∀ u v,okT n (.arc u v)->PQ n u v∈A->∃ e∈l,(e.1=u/\e.2.1=v)\/(e.1=v/\e.2.1=u)
theorem FR.AKK{n:Int}{c:List (List Int)}(h:FR n c){a b:Int}(g:In n a)(l:In n b):plc c a=plc c b↔RC c a b:=by
 obtain⟨i,A,pa,hi,m,_⟩:=QL (h.cov a g);obtain⟨j,B,p,f,o,_⟩:=QL (h.cov b l);rw[pa,p];constructor;intro e;have:i=j:=by omega
 subst this;rw[hi]at f;cases f;exact⟨A,AWA hi,m,o⟩;rintro⟨K,q,r,s⟩;obtain⟨k,d⟩:∃ k:Nat,c[k]? = some K:=by obtain⟨k,d,rfl⟩:=AWw q;exact⟨k,AWC d⟩
 rw[h.uniq hi d g.2.2.2 m r,h.uniq f d l.2.2.2 o s]
theorem FR.one{n:Int}{a:List (List Int)}(h:FR n a){A B:List Int}(b:A∈a)(c:B∈a){v:Int}(d:v<n)(e:v∈A)(f:v∈B):A=B:=by obtain⟨i,hi,rfl⟩:=AWw b;obtain⟨j,g,rfl⟩:=AWw c;have:=h.uniq (AWC hi) (AWC g) d e f;grind
theorem RC.perm{a b:List (List Int)}(h:a.Perm b)(x y:Int):RC a x y↔RC b x y:=by constructor;rintro⟨A,c,d⟩;exact⟨A,h.mem_iff.1 c,d⟩;rintro⟨A,c,d⟩;exact⟨A,h.mem_iff.2 c,d⟩
theorem AGh{n u v x y:Int}{A B:List Int}(e:TI n A)(f:TI n B)(c:u∈A)(d:v∈B)(i:In n u)(j:In n v)(hd:Dis n A B)(b:okT n (.arc x y))(h:PQ n x y∈DD n A B u v):PQ n x y∈A\/PQ n x y∈B\/(x=u/\y=v)\/(x=v/\y=u):=by obtain⟨_,l,_,k,a⟩:=UM e f c d i j hd;have m:=(Eb c).perm;have o:=(Eb d).perm;have g:=n6 b;rw[DD,AWO,AWO,AWL,AWO]at h;rcases h with h|h|h|h|h;grind;rw[Ju b,Ju a]at h;have:=S1 b a h;grind;grind;rw[Ju b,Ju (Nl a)]at h;have:=S1 b (Nl a) h;grind;grind
theorem ASk{n:Int}{d:List (List Int)}{l:List Edge}{e:Edge}(h:FC n d l)(k:In n e.1)(m:In n e.2.1):
  ∃ z q,fT ((n,(d,())),e.1,e.2.1,())=some (n,z,q,())/\FC n z (l++[e])/\(q=0/\z.length+1=d.length\/q=5/\z=d):=by
 have o:=h.fr;obtain⟨i,A,pu,hi,D,_⟩:=QL (o.cov _ k);obtain⟨j,B,pv,V,E,_⟩:=QL (o.cov _ m);have P:=AWA hi;have Q:=AWA V;by_cases R:i=j;have F:plc d e.1=plc d e.2.1:=by omega
 refine⟨d,5,yu o k m F,⟨o,fun a b p r => ?_,fun A hA u v W G => ?_⟩,.inr ⟨rfl,rfl⟩⟩;rw[h.sam a b p r,Con.snoc];have X:Con l e.1 e.2.1:=(h.sam _ _ k m).1 ((o.AKK k m).1 F);constructor;grind;rintro (g|⟨H,I⟩|⟨H,I⟩);exact g;exact H.trans (X.trans I);exact H.trans (X.symm.trans I);obtain⟨C,J,L⟩:=h.arcs A hA u v W G;grind
 ·obtain⟨z,f,q1,q3,Y,S,Z⟩:=AQ3 o k m hi V D E R;have gA:=o.rg A P;have gB:=o.rg B Q;obtain⟨l1,l2,l3,huv,W⟩:=UM gA.2.2.2 gB.2.2.2 D E k m Z;obtain⟨hRG,s⟩:=uQ l1;have M:=Y.length_eq;have N:=S.length_eq;simp only[AWD]at M N;refine⟨z,0,q1,⟨q3,fun a b p r => ?_,fun K t x y O G => ?_⟩,.inl ⟨rfl,by omega⟩⟩;rw[RC.perm S,Con.snoc,<- h.sam a b p r,<- h.sam a _ p k,<- h.sam _ b m r,<- h.sam a _ p m,<- h.sam _ b k r];have w:∀ x,In n x->(x∈plain (DD n A B e.1 e.2.1)↔x∈A\/x∈B):=fun x T=>by rw[<- s.perm.mem_iff];exact l3 x T.2.2.2
  have sA:∀ x,In n x->(RC d x e.1↔x∈A):=fun x T=>by constructor;rintro⟨K,t,J,L⟩;rw[o.one P t k.2.2.2 D L];exact J;intro U;exact⟨A,P,U,D⟩
  have sB:∀ x,In n x->(RC d x e.2.1↔x∈B):=fun x T=>by constructor;rintro⟨K,t,J,L⟩;rw[o.one Q t m.2.2.2 E L];exact J;intro U;exact⟨B,Q,U,E⟩
  have sy:∀ x y,RC d x y↔RC d y x:=fun x y=>⟨fun ⟨K,a,b,c⟩=>⟨K,a,c,b⟩,fun ⟨K,a,b,c⟩=>⟨K,a,c,b⟩⟩
  rw[sA a p,sB a p,sy e.2.1 b,sB b r,sy e.1 b,sA b r];have hs:RC d a b↔(a∈A/\b∈A)\/(a∈B/\b∈B)\/∃ K∈f,a∈K/\b∈K:=by rw[RC.perm Y];simp only[RC,AWO,exists_eq_or_imp]
  have hz:RC (plain (DD n A B e.1 e.2.1)::f) a b↔((a∈A\/a∈B)/\(b∈A\/b∈B))\/∃ K∈f,a∈K/\b∈K:=by simp only[RC,AWO,exists_eq_or_imp,w a p,w b r]
  grind
  ·have old:∀ K∈d,PQ n x y∈K->∃ C∈l++[e],(C.1=x/\C.2.1=y)\/(C.1=y/\C.2.1=x):=fun K t G=>by obtain⟨C,J,L⟩:=h.arcs K t x y O G;grind
   rcases AWO.1 (S.mem_iff.1 t)with rfl|t
   ·rcases AGh gA.2.2.2 gB.2.2.2 D E k m Z O (s.perm.mem_iff.2 G)with g|g|⟨H,I⟩|⟨H,I⟩
    all_goals grind
   grind
theorem AA9{N:Nat}(d:1<=N)(e:N<=64):FC (N:Int) (DC N) []:=by
 have f:∀ A∈DC N,∃ k:Nat,k<N/\A=[(k:Int)]:=fun A c=>by simp only[DC,AWV,AWS]at c;grind
 have g:∀ k,k<N->In (N:Int) (k:Int):=fun k i=>⟨by omega,by omega,by omega,by omega⟩
 refine⟨⟨⟨by omega,by omega⟩,fun l n => ?_,?_,?_,fun v j => ?_⟩,fun a b m s => ?_,fun A c u v o p => ?_⟩;obtain⟨k,i,rfl⟩:=f l n;refine⟨⟨by simp,fun x w => ?_,by simp⟩,by simp,rfl,(AUt (N:Int) k).2 (g k i)⟩;grind;rw[DC,AXW];exact List.pairwise_lt_range.imp fun h=>by simp only[hd,AYK];omega
 rw[DC,AXW];exact List.pairwise_lt_range.imp fun {a b} h t y _ q=>by grind
 obtain⟨k,rfl⟩:=AV7 j.2.2.1;have:=j.2.2.2;exact⟨[(k:Int)],by simp only[DC,AWV,AWS];grind,by simp⟩;constructor;rintro⟨A,c,d,e⟩;obtain⟨k,_,rfl⟩:=f A c;simp only[AXe]at d e;rw[d,e];exact .refl _;intro r;have:=r.nil;subst this;obtain⟨k,rfl⟩:=AV7 m.2.2.1;have:=m.2.2.2;exact⟨[(k:Int)],by simp only[DC,AWV,AWS];grind,by simp,by simp⟩;obtain⟨k,i,rfl⟩:=f A c;simp only[AXe]at p;have:=n6 o;omega
theorem se(l:List Edge)(g:l.length<1073741824):ends (l,())=some (l.flatMap fun e=>[e.1,e.2.1],()):=by
 rw[ACn,zi]
 have e:=DS (step:=S0) (fun i (a:List Int)=>(a,l,A2 l,(i:Int),())) l (fun x a=>.inl (a++[x.1,x.2.1])) (fun a=>.inl (a,())) (fun i a=>a.length=2*i) (by omega)
  (fun i x a hi d h=>by
   refine⟨fun j c => ?_,fun r c=>by cases c⟩
   cases c
   rw[S0,A6,A3,AV2 hi]
   simp only[A' d]
   rw[A5 (by omega),Bo (by simp only[A6,AWD,AWK];omega)]
   exact⟨rfl,by grind⟩)
  (fun a _=>by rw[S0,A6,A3,AV1 (by omega)]) [] rfl
 have f:A8 S0 many ([],l,A2 l,(0:Int),())=_:=e;rw[f,B'];have k:∀ (xs:List Edge) (b:List Int),xs.foldl (fun a x=>a++[x.1,x.2.1]) b=b++xs.flatMap fun e=>[e.1,e.2.1]:=by
  intro xs;induction xs with
   |nil=>simp
   |cons x xs m=>grind
 grind
theorem ANm(n:Int)(l:List Edge):((l.flatMap fun e=>[e.1,e.2.1]).all fun v=>decide (In n v))=l.all fun e=>decide (In n e.1/\In n e.2.1):=by simp
theorem ANl(l:List Edge):(l.flatMap fun e=>[e.1,e.2.1]).length=2*l.length:=by
 induction l with
  |nil=>rfl
  |cons e l a=>grind
theorem ym{n:Int}(l:List Edge)(w:l.length<1073741824)(o:∀ e∈l,In n e.1/\In n e.2.1):
  ∀ (m i cnt:Nat) (a:List (List Int)) (b:List Bool),i+m=l.length->b.length=i->FC n a (l.take i)->m<cnt ->
  ∃ g d,BC H0 cnt (n,a,(0:Int),b,l,(l.length:Int),(i:Int),())=some (.inl (n,g,(0:Int),d,()))/\FC n g l/\d.length=l.length:=by
 intro m;induction m with
  |zero=>
   intro i cnt a b hi j h p;obtain⟨cnt,rfl⟩:∃ c,cnt=c+1:=⟨cnt-1,by omega⟩
   rw[AXH (by omega)]at h;refine⟨a,b,?_,h,by omega⟩;rw[BC,H0,A3,AV1 (by omega)]
  |succ m r=>
   intro i cnt a b hi j h p;obtain⟨cnt,rfl⟩:∃ c,cnt=c+1:=⟨cnt-1,by omega⟩
   have f:i<l.length:=by omega
   have s:l[i]? = some l[i]:=AWC f;obtain⟨t,u⟩:=o _ (AWu f);obtain⟨g,q,v,k,_⟩:=ASk h t u;rw[BC,H0,A3,AV2 f];simp only[A' s,v];rw[A5 (by omega),Bo (by simp only[A6,AWD,AWK];omega)];rw[<- AW1 f]at k;exact r (i+1) cnt g _ (by omega) (by simp[Dy,j]) k (by omega)
theorem mX(k:Int)(l:List Edge)(j:Sz k)(d:l.length<1073741824):
  ((∀ e∈l,In k e.1/\In k e.2.1)/\∃ a,fof (k,l,())=some ((k,(a,())),0,())/\FC k a l) \/
  (¬ (∀ e∈l,In k e.1/\In k e.2.1)/\fof (k,l,())=some ((0,([],())),10,())):=by
 have f:9223372036854775808<many:=by simp only[many];omega
 rw[ANY,ANZ];have n:YF k=(k,DC k.toNat,0,()):=by rw[YF,AWB j]
 obtain⟨r,s⟩:=j;obtain⟨N,rfl⟩:=AV7 (show 0<=k by omega);have m:=AA9 (N:=N) (by omega) (by omega);have o:=m.fr.dom;have g:=RH.2 m.fr;have p:=ANl l;have b:MY (((N:Int),(DC N,())),l.flatMap fun e=>[e.1,e.2.1],())=some (if ∀ e∈l,In (N:Int) e.1/\In (N:Int) e.2.1 then 0 else 10,()):=by rw[Qu _ _ _ o (by omega),ANm,AOn,AWB g];grind
 simp only[AD1,n,AW8,bJ,AV6];rw[iN,bp,W0,Q0];by_cases c:∀ e∈l,In (N:Int) e.1/\In (N:Int) e.2.1;refine .inl ⟨c,?_⟩;rw[AWB c]at b;obtain⟨t,h,q,u,_⟩:=ym l d c l.length 0 many (DC N) [] (by omega) rfl (by grind) (by omega);have i:BC H0 many ((N:Int),DC N,(0:Int),[],l,(l.length:Int),(0:Int),())=_:=q;simp only[se l d,b,bJ,AV6,BR,A6,i];grind;refine .inr ⟨c,?_⟩;rw[AV9 c]at b;simp only[se l d,b,BB];rfl
end Go.Pev.Pl
end
section
namespace Go.Pev.Pl
open Tok
def cl(out:List Int)(v:Int):Int:=out.getD v.toNat 0
def CI(N:Nat)(l:List Edge)(out:List Int):Prop:=out.length=N/\∀ k,k<N->0<=out.getD k 0/\out.getD k 0<=(k:Int)/\Con l (k:Int) (out.getD k 0)
theorem ABT:∀ (l:List Int) (k:Nat) (x:Int),k<l.length->(l.set k x).sum=l.sum-l.getD k 0+x:=by
 intro l;induction l with
  |nil=>simp
  |cons y l a=>
   intro k x h;cases k with
    |zero=>grind
    |succ k=>grind
theorem P2{N:Nat}{l:List Edge}{out:List Int}(h:CI N l out)(e:N<=64):0<=out.sum/\out.sum<=4096:=by
 obtain⟨f,g⟩:=h;have a:∀ (xs:List Int),(∀ x∈xs,0<=x/\x<=64)->0<=xs.sum/\xs.sum<=64*(xs.length:Int):=by
  intro xs;induction xs with
   |nil=>simp
   |cons x xs b=>intro h;have i:=b fun y c=>h y (AXl _ c);have j:=h x (by simp);grind
 have:=a out fun x d=>by obtain⟨k,m,rfl⟩:=AWw d;grind
 omega
theorem AU2(N:Nat)(l:List Edge)(V:l.length<1073741824)(L:∀ e∈l,In (N:Int) e.1/\In (N:Int) e.2.1):
  ∀ (m i cnt:Nat) (out:List Int) (d:Bool),i+m=l.length->CI N l out->m<cnt ->
  ∃ b a,BC GY cnt ((N:Int),l,out,d,(i:Int),())=some (.inl ((N:Int),l,b,a,()))/\CI N l b /\
   ((a=d/\b=out/\∀ e∈l.drop i,cl out e.1=cl out e.2.1)\/(a=true/\b.sum<out.sum)):=by
 intro m;induction m with
  |zero=>
   intro i cnt out d hi h M;obtain⟨cnt,rfl⟩:∃ c,cnt=c+1:=⟨cnt-1,by omega⟩
   refine⟨out,d,?_,h,.inl ⟨rfl,rfl,?_⟩⟩;rw[BC,GY,A6,A3,AV1 (by omega)];grind
  |succ m C=>
   intro i cnt out d hi h M;obtain⟨cnt,rfl⟩:∃ c,cnt=c+1:=⟨cnt-1,by omega⟩
   have j:i<l.length:=by omega
   have O:l[i]? = some l[i]:=AWC j;have D:=AWu j;have t:l.drop i=l[i]::l.drop (i+1):=AWv j;rw[BC,GY,A6,A3,AV2 j];simp only[A' O];rw[t,A5 (by omega)];generalize l[i]=e at *;obtain⟨w,x⟩:=L e D;have f:=Con.edge e D;obtain⟨W,ev,P⟩:=e;simp only at w x f |-;obtain⟨u,rfl⟩:=AV7 w.2.2.1;obtain⟨v,rfl⟩:=AV7 x.2.2.1;have E:u<N:=by have:=w.2.2.2;omega
   have F:v<N:=by have:=x.2.2.2;omega
   have p:u<out.length:=by rw[h.1];exact E
   have y:v<out.length:=by rw[h.1];exact F
   rw[BD,AV1 (by omega)];simp only[];rw[BD,AV1 (by omega)];simp only[];rw[BM,AV1 (by omega)];simp only[];rw[BM,AV1 (by omega)];simp only[C3 (0:Int) p,C3 (0:Int) y,IE,DO,BB];by_cases z:out.getD u 0=out.getD v 0;rw[AV2 z];obtain⟨b,a,G,H,I⟩:=C (i+1) cnt out d (by omega) h (by omega);refine⟨b,a,G,H,?_⟩;rcases I with⟨Q,R,X⟩|g;refine .inl ⟨Q,R,fun Y q => ?_⟩;rcases AWO.1 q with rfl|q;simpa [cl]using z;grind;grind;rw[AV1 z];have S:u≠v:=by grind
   have r:Cp (out.getD u 0) (out.getD v 0)=if out.getD v 0<out.getD u 0 then out.getD v 0 else out.getD u 0:=rfl
   generalize T:Cp (out.getD u 0) (out.getD v 0)=low at *;have n:v<(out.set u low).length:=by grind
   simp only[C3 (0:Int) n];have Z:=h.2 u E;have A:=h.2 v F;have s:∀ k,k<N->((out.set u low).set v low).getD k 0=if k=u\/k=v then low else out.getD k 0:=by grind
   have o:0<=low/\low<=(u:Int)/\low<=(v:Int)/\Con l (u:Int) low:=by rw[r];split;exact⟨A.1,by omega,A.2.1,f.trans A.2.2⟩;grind
   have U:CI N l ((out.set u low).set v low):=by refine⟨by simp[h.1],fun k J => ?_⟩;rw[s k J];split;rename_i B;rcases B with rfl|rfl;grind;exact⟨o.1,o.2.2.1,f.symm.trans o.2.2.2⟩;exact h.2 k J
   have K:((out.set u low).set v low).sum<out.sum:=by rw[ABT _ _ _ n,ABT _ _ _ p];grind
   obtain⟨b,a,G,H,I⟩:=C (i+1) cnt _ true (by omega) U (by omega);grind
theorem ATI(N:Nat)(i:N<=64)(l:List Edge)(n:l.length<1073741824)(o:∀ e∈l,In (N:Int) e.1/\In (N:Int) e.2.1):
  ∀ (m cnt:Nat) (out:List Int),out.sum.toNat=m->CI N l out->m+1<cnt ->
  ∃ a,BC Ii cnt ((N:Int),l,out,true,())=some (.inl (a,()))/\CI N l a/\∀ e∈l,cl a e.1=cl a e.2.1:=by
 have b:9223372036854775808<many:=by simp only[many];omega
 intro m;induction m using Nat.strongRecOn with
  |_ m p=>
   intro cnt out s h t;obtain⟨cnt,rfl⟩:∃ c,cnt=c+1:=⟨cnt-1,by omega⟩
   rw[BC,Ii];obtain⟨a,d,q,j,r⟩:=AU2 N l n o l.length 0 many out false (by omega) h (by omega);have f:BC GY many ((N:Int),l,out,false,(0:Int),())=_:=q;simp only[BR,f];rcases r with⟨g,k,u⟩|⟨g,k⟩
   subst g k;obtain⟨cnt,rfl⟩:∃ c,cnt=c+1:=⟨cnt-1,by omega⟩
   rw[BC,Ii];grind;subst g;have v:=P2 h i;have w:=P2 j i;exact p a.sum.toNat (by omega) cnt a rfl j (by omega)
structure Vw(n:Int)(l:List Edge)(out:List Int):Prop where
 len:(out.length:Int)=n
 same:∀ a b,In n a->In n b->(cl out a=cl out b↔Con l a b)
 isin:∀ a,In n a->In n (cl out a)
 con:∀ a,In n a->Con l a (cl out a)
 least:∀ a b,In n a->In n b->Con l a b->cl out a<=b
theorem He(n:Int)(l:List Edge)(x:Sz n)(y:l.length<1073741824)(z:∀ e∈l,In n e.1/\In n e.2.1):∃ out,PI (n,l,())=some (out,())/\Vw n l out:=by
 have j:9223372036854775808<many:=by simp only[many];omega
 obtain⟨A,B⟩:=x;obtain⟨N,rfl⟩:=AV7 (show 0<=n by omega);rw[TF,OQ];have o:∀ (m k cnt:Nat),k+m=N->m<cnt->BC GZ cnt ((N:Int),l,(List.range k).map (fun(k:Nat)=>(k:Int)),(k:Int),())=some (.inl ((N:Int),l,(List.range N).map (fun(k:Nat)=>(k:Int)),())):=by
  intro m;induction m with
   |zero=>
    intro k cnt q C;obtain⟨cnt,rfl⟩:∃ c,cnt=c+1:=⟨cnt-1,by omega⟩
    have:k=N:=by omega
    subst this;rw[BC,GZ,A3,AV1 (by omega)]
   |succ m D=>
    intro k cnt q C;obtain⟨cnt,rfl⟩:∃ c,cnt=c+1:=⟨cnt-1,by omega⟩
    have g:=D (k+1) cnt (by omega) (by omega);rw[AWX,AW3]at g;rw[BC,GZ,A3,AV2 (by omega)];simp only[];rw[A5 (by omega),Bo (by simp only[A6,AWD,AWK,AWQ,AWJ];omega)];exact g
 have E:=o N 0 many (by omega) (by omega);have p:BC GZ many ((N:Int),l,[],(0:Int),())=_:=E;have r:CI N l ((List.range N).map (fun(k:Nat)=>(k:Int))):=by
  refine⟨by simp,fun k q => ?_⟩;have:((List.range N).map (fun(k:Nat)=>(k:Int))).getD k 0=(k:Int):=by grind
  rw[this];exact⟨by omega,by omega,.refl _⟩
 have G:=P2 r (by omega);obtain⟨out,F,s,t⟩:=ATI N (by omega) l y z _ many _ rfl r (by omega);simp only[BR,p,F];have d:∀ a,In (N:Int) a->0<=cl out a/\cl out a<=a/\Con l a (cl out a):=by intro a i;obtain⟨k,rfl⟩:=AV7 i.2.2.1;have:=s.2 k (by have:=i.2.2.2;omega);simpa [cl]using this
 refine⟨out,rfl,by rw[s.1],fun a b f u=>⟨fun h => ?_,fun h=>h.const t⟩,fun a f => ?_,fun a f=>(d a f).2.2,fun a b f u h => ?_⟩;have v:=(d a f).2.2;have w:=(d b u).2.2;rw[<- h]at w;exact v.trans w.symm;have:=d a f;have H:=f.2.2.2;exact⟨A,B,by omega,by omega⟩;have v:cl out a=cl out b:=h.const t;grind
end Go.Pev.Pl
end
end
section
namespace Go.Pev.Pl
def Low(l:List Edge)(k:Nat):Prop:=∀ j:Nat,j<k->¬ Con l (j:Int) (k:Int)
noncomputable def AT3(l:List Edge)(k:Nat):Bool:=@decide (Low l k) (Classical.propDecidable _)
theorem AMR(l:List Edge)(k:Nat):AT3 l k=true↔Low l k:=by unfold AT3;simp
noncomputable def cc(N:Nat)(l:List Edge):Nat:=(List.range N).countP (AT3 l)
noncomputable def VU(l:List Edge)(a b:Int):Bool:=@decide (Con l a b) (Classical.propDecidable _)
theorem LZ(l:List Edge)(a b:Int):VU l a b=true↔Con l a b:=by unfold VU;simp
theorem Con.sub{l d:List Edge}(h:∀ e∈l,e∈d){a b:Int}(c:Con l a b):Con d a b:=c.mono fun e f=>⟨e,h e f,.inl ⟨rfl,rfl⟩⟩
def InE(N:Nat)(e:Edge):Prop:=(0<=e.1/\e.1<(N:Int))/\(0<=e.2.1/\e.2.1<(N:Int))
noncomputable def gfl:List Edge->List Edge->List Bool
 |_,[]=>[]
 |b,x::xs=>(!VU b x.1 x.2.1)::gfl (b++[x]) xs
theorem mQ:∀ (xs b:List Edge),(gfl b xs).length=xs.length:=by
 intro xs;induction xs with
  |nil=>intro b;rfl
  |cons x xs a=>intro b;rw[gfl,AWD,AWD,a]
theorem ANL:∀ (xs b:List Edge) (x:Edge),gfl b (xs++[x])=gfl b xs++[!VU (b++xs) x.1 x.2.1]:=by
 intro xs;induction xs with
  |nil=>intro b x;simp[gfl]
  |cons y xs a=>intro b x;rw[AWa,gfl,gfl,a,AWa];simp
def Fo(N:Nat)(l:List Edge):Prop:=cc N l+l.length=N
theorem nG{N:Nat}{base l:List Edge}{r:Int->Int}(t:∀ a b,(0<=a/\a<(N:Int))->(0<=b/\b<(N:Int))->(r a=r b↔Con base a b))(m:∀ a,(0<=a/\a<(N:Int))->Con base a (r a))
  (q:∀ e∈base,InE N e) (s:∀ e∈l,InE N e) {a b:Int} (u:0<=a/\a<(N:Int)) (v:0<=b/\b<(N:Int)) :
  Con (base++l) a b↔Con (l.map fun e=>(r e.1,r e.2.1,())) (r a) (r b):=by
 constructor;intro h;have g:∀ {x y:Int},Con (base++l) x y->x=y\/Con (l.map fun e=>(r e.1,r e.2.1,())) (r x) (r y):=by
  intro x y i;induction i with
   |refl x=>omega
   |edge e d=>rcases AWL.1 d with d|d;have:=(t e.1 e.2.1 (q e d).1 (q e d).2).2 (.edge e d);rw[this];exact .inr (.refl _);exact .inr (.edge (l:=l.map fun e=>(r e.1,r e.2.1,())) (r e.1,r e.2.1,()) (AWV.2 ⟨e,d,rfl⟩))
   |symm _ o=>rcases o with h|h;omega;exact .inr h.symm
   |trans _ _ j f=>rcases j with rfl|w;exact f;rcases f with rfl|z;grind;exact .inr (w.trans z)
 rcases g h with rfl|h;exact .refl _;omega;intro h;have n:∀ {x y:Int},Con base x y->Con (base++l) x y:=fun c=>c.sub fun e d=>AWL.2 (.inl d);have g:∀ {x y:Int},Con (l.map fun e=>(r e.1,r e.2.1,())) x y->Con (base++l) x y:=by
  intro x y i;induction i with
   |refl x=>exact .refl x
   |edge e d=>obtain⟨p,k,rfl⟩:=AWV.1 d;exact((n (m _ (s p k).1)).symm.trans (.edge p (AWL.2 (.inr k)))).trans (n (m _ (s p k).2))
   |symm _ o=>exact o.symm
   |trans _ _ j f=>exact j.trans f
 exact((n (m a u)).trans (g h)).trans (n (m b v)).symm
abbrev Tie:=Int×Int×Int×Bool×Unit
abbrev zT:Tie:=(0,0,0,false,())
def ahead(p x:Tie):Prop:=p.1<x.1\/(p.1=x.1/\p.2.1<x.2.1)
instance (p x:Tie):Decidable (ahead p x):=inferInstanceAs (Decidable (_\/_))
def ed(t:Tie):Edge:=(t.1,t.2.1,())
def trk(a:List Tie)(k:Int):List Edge:=(a.filter fun t=>t.2.2.2.1&&decide (k<=t.2.2.1)).map ed
theorem AQ0{f:List Tie}{k:Int}{e:Edge}:e∈trk f k↔∃ t∈f,t.2.2.2.1=true/\k<=t.2.2.1/\ed t=e:=by unfold trk;simp only[AWV,AWZ,AV5,AV4];constructor;rintro⟨t,⟨a,b,c⟩,d⟩;exact⟨t,a,b,c,d⟩;rintro⟨t,a,b,c,d⟩;exact⟨t,⟨a,b,c⟩,d⟩
noncomputable def csz(N:Nat)(l:List Edge)(v:Int):Nat:=(List.range N).countP fun(w:Nat)=>VU l v (w:Int)
def QJ(top:Int)(t:Tie):Tie:=(t.1,t.2.1,min top (t.2.2.1+1),t.2.2.2.1,())
def nz(t:Tie):Tie:=(t.1,t.2.1,t.2.2.1,true,())
def both(S:Int->Bool)(t:Tie):Bool:=S t.1&&S t.2.1
def bt(S:Int->Bool)(t:Tie):Prop:=S t.1≠S t.2.1
instance (S:Int->Bool)(t:Tie):Decidable (bt S t):=inferInstanceAs (Decidable (_≠_))
def rT(S:Int->Bool)(top i:Int)(t:Tie):Tie:=if t.2.2.2.1=true/\t.2.2.1=i/\both S t=true then QJ top t else t
def rB(S:Int->Bool)(top i:Int)(t:Tie):Tie:=if t.2.2.1=i/\both S t=true then QJ top t else t
def CZ(S:Int->Bool)(top i:Int):List Tie->List Tie×Nat×Option Edge
 |[]=>([],0,none)
 |t::ts=>if t.2.2.2.1=true\/t.2.2.1≠i then(t::(CZ S top i ts).1,(CZ S top i ts).2)
  else if both S t=true then(QJ top t::(CZ S top i ts).1,(CZ S top i ts).2.1+1,(CZ S top i ts).2.2)
  else if bt S t then(nz t::ts,0,some (ed t))
  else(t::(CZ S top i ts).1,(CZ S top i ts).2)
theorem AQE(S:Int->Bool)(top i:Int)(t:Tie):(rT S top i t).2.2.2.1=t.2.2.2.1:=by unfold rT;split<;>rfl
theorem WW{S:Int->Bool}{top i:Int}{t:Tie}(h:t.2.2.2.1=false):rT S top i t=t:=by unfold rT;rw[AV9];rintro⟨a,_⟩;rw[h]at a;cases a
section
variable {N:Nat} {top:Int} {O:List Tie} {S:Int->Bool} {i:Int} {c:Int}
variable (hS:∀ a b,Con (trk O i) a b->S a=S b)
include hS
end
theorem u5(A B:List Tie)(k:Int):trk (A++B) k=trk A k++trk B k:=by unfold trk;rw[AXQ,AW3]
structure Snd(N:Nat)(top:Int)(O:List Tie):Prop where
 lvl:∀ x∈O,0<=x.2.2.1/\x.2.2.1<=top
 ins:∀ x∈O,InE N (ed x)
 fo:Fo N (trk O 0)
 lie:∀ x∈O,x.2.2.2.1=false->Con (trk O x.2.2.1) x.1 x.2.1
 halv:∀ k:Nat,(k:Int)<=top->∀ v:Nat,v<N->csz N (trk O k) v<=max 1 (N/2 ^ k)
structure AVe(N:Nat)(top:Int)(t:Edge)(j:Int)(O:List Tie):Prop where
 lvl:∀ x∈O,0<=x.2.2.1/\x.2.2.1<=top
 ins:∀ x∈O,InE N (ed x)
 it:InE N t
 fo:Fo N (trk O 0++[t])
 lie1:∀ x∈O,x.2.2.2.1=false->j<=x.2.2.1->Con (trk O x.2.2.1) x.1 x.2.1
 lie2:∀ x∈O,x.2.2.2.1=false->x.2.2.1<j->Con (trk O x.2.2.1++[t]) x.1 x.2.1
 halv:∀ k:Nat,(k:Int)<=top->∀ v:Nat,v<N->csz N (trk O k) v<=max 1 (N/2 ^ k)
 halt:∀ k:Nat,(k:Int)<j->(k:Int)<=top->∀ v:Nat,v<N->csz N (trk O k++[t]) v<=max 1 (N/2 ^ k)
structure AUv(N:Nat)(t:Edge)(i:Nat)(O:List Tie)(S:Int->Bool)(c:Nat):Prop where
 cN:c<N
 at_:t.1=(c:Int)\/t.2.1=(c:Int)
 side:∀ w:Nat,w<N->(S (w:Int)=true↔Con (trk O i) (c:Int) (w:Int))
 less:2*csz N (trk O i) (c:Int)<=csz N (trk O i) t.1+csz N (trk O i) t.2.1
section
variable {N:Nat} {top:Int} {t:Edge} {O:List Tie} {S:Int->Bool} {i c:Nat}
variable (hG:AVe N top t ((i:Int)+1) O) (hit:(i:Int)<=top) (hL:AUv N t i O S c)
include hG
include hit hL
include hL
end
theorem AOf{σ ρ:Type}{step:σ->Option (σ⊕ρ)}(st:Nat->Nat->σ)(P:Nat->Bool)(fin:Nat->ρ)(c hi:Nat)
  (h:∀ i j,c<=i->i<j->j<=hi->step (st i j)=some (.inl (if P ((i+j)/2)=true then st ((i+j)/2+1) j else st i ((i+j)/2))))
  (p:∀ i,c<=i->i<=hi->step (st i i)=some (.inr (fin i)))
  (mono:∀ x y,c<=x->x<=y->y<hi->P y=true->P x=true) :
  ∀ (m i j n:Nat),j-i=m->c<=i->i<=j->j<=hi->m<n->(∀ x,c<=x->x<i->P x=true)->(∀ x,j<=x->x<hi->P x=false) ->
  ∃ k,c<=k/\k<=hi/\(∀ x,c<=x->x<k->P x=true)/\(∀ x,k<=x->x<hi->P x=false)/\BC step n (st i j)=some (fin k):=by
 intro m;induction m using Nat.strongRecOn with
  |ind m g=>
   intro i j n t hi q d u l o;obtain⟨n,rfl⟩:∃ k,n=k+1:=⟨n-1,by omega⟩
   by_cases r:i=j;subst r;exact⟨i,hi,d,l,o,by rw[BC,p i hi d]⟩;have f:i<j:=by omega
   rw[BC,h i j hi f d];by_cases e:P ((i+j)/2)=true;rw[AWB e];exact g (j-((i+j)/2+1)) (by omega) ((i+j)/2+1) j n rfl (by omega) (by omega) d (by omega) (fun x a b=>mono x ((i+j)/2) a (by omega) (by omega) e) o;rw[AV9 e];refine g ((i+j)/2-i) (by omega) i ((i+j)/2) n rfl hi (by omega) (by omega) (by omega) l (fun x a b => ?_);cases s:P x;rfl;exact absurd (mono ((i+j)/2) x (by omega) a b s) e
theorem AVw{σ ρ:Type}{step:σ->Option (σ⊕ρ)}(st:Nat->Nat->σ)(P:Nat->Bool)(fin:Nat->ρ)(c hi:Nat)(d:c<=hi)(f:hi<9223372036854775808)
  (h:∀ i j,c<=i->i<j->j<=hi->step (st i j)=some (.inl (if P ((i+j)/2)=true then st ((i+j)/2+1) j else st i ((i+j)/2))))
  (e:∀ i,c<=i->i<=hi->step (st i i)=some (.inr (fin i)))
  (mono:∀ x y,c<=x->x<=y->y<hi->P y=true->P x=true) :
  ∃ k,c<=k/\k<=hi/\(∀ x,c<=x->x<k->P x=true)/\(∀ x,k<=x->x<hi->P x=false)/\A8 step many (st c hi)=some (fin k):=by
 have g:9223372036854775808<many:=by simp only[many];omega
 rw[BR];exact AOf st P fin c hi h e mono (hi-c) c hi many rfl (AV8 _) d (AV8 _) (by omega) (fun x a b=>by omega) (fun x a b=>by omega)
end Go.Pev.Pl
end
section
section
namespace Go.Pev.Pl
structure UF(N:Nat)(s:List Int)(c:Int->Int):Prop where
 len:s.length=N
 lo:∀ k,k<N->0<=s.getD k 0/\s.getD k 0<=(k:Int)
 par:∀ k,k<N->c (s.getD k 0)=c (k:Int)
 root:∀ k,k<N->s.getD k 0=(k:Int)->c (k:Int)=(k:Int)
 le:∀ k,k<N->0<=c (k:Int)/\c (k:Int)<=(k:Int)
theorem ZN{s:List Int}{k:Nat}(x:Int)(h:k<s.length)(j:Nat):(s.set k x).getD j 0=if j=k then x else s.getD j 0:=by grind
theorem UF.idem{N:Nat}{s:List Int}{c:Int->Int}(h:UF N s c):∀ (m k:Nat),k<=m->k<N->c (c (k:Int))=c (k:Int):=by
 intro m;induction m with
  |zero=>intro k b a;have:=h.le k a;grind
  |succ m g=>
   intro k b a;have d:=h.lo k a;by_cases f:s.getD k 0=(k:Int)
   have e:=h.root k a f;rw[e,e];obtain⟨j,i⟩:=AV7 d.1;have l:=h.par k a;grind
theorem UF.top{N:Nat}{s:List Int}{c:Int->Int}(h:UF N s c){k:Nat}(d:k<N):s.getD (c (k:Int)).toNat 0=c (k:Int):=by
 have e:=h.le k d;obtain⟨j,f⟩:=AV7 e.1;have hi:=h.idem k k (AV8 _) d;rw[f]at hi |-;have a:j<N:=by omega
 have g:=h.lo j a;have l:=h.par j a;obtain⟨i,b⟩:=AV7 g.1;rw[b]at l;have m:=h.le i (by omega);grind
theorem JD{N:Nat}{c:Int->Int}(F:N<=64):∀ {s:List Int} (_:UF N s c) {v:Nat} (_:v<N),∃ a,Tq (s,(v:Int),())=some (a,c (v:Int),())/\UF N a c/\∀ j,j<N->s.getD j 0=c (j:Int)->a.getD j 0=c (j:Int):=by
 intro s B v C;rw[fi,ZJ]
 obtain⟨r,e,h⟩:=zE (step:=Tp)
  (fun st=>∃ (a:List Int) (w:Nat),st=(a,(w:Int),())/\w<N/\UF N a c/\c (w:Int)=c (v:Int)/\∀ j,j<N->s.getD j 0=c (j:Int)->a.getD j 0=c (j:Int))
  (fun r=>∃ a,r = .inl (a,c (v:Int),())/\UF N a c/\∀ j,j<N->s.getD j 0=c (j:Int)->a.getD j 0=c (j:Int)) (fun st=>st.2.1.toNat)
  (fun st n=>by
   obtain⟨a,w,rfl,m,d,z,f⟩:=n
   have G:=d.len
   have D:=d.lo w m
   rw[Tp]
   simp only[C3 0 (show w<a.length by omega),IE,BB]
   by_cases o:a.getD w 0=(w:Int)
   ·right
    rw[AV2 o]
    refine⟨_,rfl,a,?_,d,f⟩
    rw[<- z,d.root w m o]
   ·left
    rw[AV1 o]
    obtain⟨p,t⟩:=AV7 D.1
    have g:p<N:=by omega
    have E:=d.lo p g
    obtain⟨q,u⟩:=AV7 E.1
    have x:q<N:=by omega
    simp only[AWR,t,C3 0 (show p<a.length by omega),IE,DO,u]
    have l:(a.set w (q:Int)).length=N:=by grind
    have b:=fun j=>ZN (q:Int) (show w<a.length by omega) j
    simp only[C3 0 (show w<(a.set w (q:Int)).length by omega),b,AWf]
    refine⟨_,rfl,⟨_,q,rfl,x,?_,?_,?_⟩,?_⟩
    ·refine⟨l,fun k f => ?_,fun k f => ?_,fun k f i => ?_,d.le⟩
     ·rw[b]
      by_cases e:k=w
      ·omega
      ·rw[AV9 e];exact d.lo k f
     ·rw[b]
      by_cases e:k=w
      ·subst e
       rw[AWB rfl,<- u,d.par p g,<- t,d.par k m]
      ·rw[AV9 e];exact d.par k f
     ·rw[b]at i
      by_cases e:k=w
      ·omega
      ·rw[AV9 e]at i;exact d.root k f i
    ·rw[<- z,<- u,d.par p g,<- t,d.par w m]
    ·intro j A y
     rw[b]
     by_cases e:j=w
     ·subst e
      rw[AWB rfl]
      have:=f j A y
      have H:=d.top A
      simp_all
     grind
    grind)
  (s,(v:Int),()) ⟨s,v,rfl,C,B,rfl,fun _ _ h=>h⟩ (by simp only[many];omega)
 grind
theorem KL(a b:Int):Cp a b=min a b:=by unfold Cp;omega
theorem O7(a b:Int):imax a b=max a b:=by unfold imax;omega
theorem Ed{N i x:Nat}(h:(List.range N)[i]? = some x):x=i:=by grind
def gQ(c:Int->Int)(u v:Int):Int->Int:=fun x=>if c x=max (c u) (c v)then min (c u) (c v)else c x
theorem fj{N:Nat}(n:N<=64){c:Int->Int}{s:List Int}(q:UF N s c){u v:Nat}(i:u<N)(l:v<N):∃ o b,pU (s,(u:Int),(v:Int),())=some (o,b,())/\UF N o (gQ c u v):=by
 obtain⟨C,r,t,_⟩:=JD n q i;obtain⟨p,w,d,_⟩:=JD n t l;rw[ZK,Xw];simp only[r,w,KL,O7];have D:=d.le u i;have E:=d.le v l;have F:=d.idem u u (AV8 _) i;have G:=d.idem v v (AV8 _) l;obtain⟨M,y⟩:=AV7 (show 0<=max (c (u:Int)) (c (v:Int)) by omega);obtain⟨m,z⟩:=AV7 (show 0<=min (c (u:Int)) (c (v:Int)) by omega);have A:M<N:=by omega
 have B:m<N:=by omega
 have H:=d.len;have I:c (M:Int)=(M:Int):=by grind
 have J:c (m:Int)=(m:Int):=by grind
 rw[y,z];simp only[C3 0 (show M<p.length by omega),DO];refine⟨_,_,rfl,?_⟩;have a:=fun j=>ZN (m:Int) (show M<p.length by omega) j;have f:∀ x,gQ c u v x=if c x=(M:Int)then(m:Int)else c x:=by intro x;unfold gQ;omega
 refine⟨by grind,fun k g => ?_,fun k g => ?_,fun k g h => ?_,fun k g => ?_⟩;rw[a];by_cases e:k=M;omega;rw[AV9 e];exact d.lo k g;rw[a,f,f];by_cases e:k=M;grind;rw[AV9 e,d.par k g];rw[a]at h;rw[f];by_cases e:k=M;grind;rw[AV9 e]at h;have K:=d.root k g h;omega;rw[f];have:=d.le k g;omega
theorem ZZ(N:Nat)(h:N<=64):Zb ((N:Int),())=some ((List.range N).map fun(k:Nat)=>(k:Int),()):=by
 rw[gE,Za];have c:Ca (N:Int)=true:=(I4 _).2 (by omega);rw[c,D_,AV2 (AV8 _)];simp only[AXL];have f:Dm (A4 (N:Int)) (0:Int)=List.replicate N 0:=by simp[Dm,A4]
 rw[f]
 have e:=DS (step:=Ky) (fun i (a:List Int)=>(a,(N:Int),(i:Int),())) (List.range N) (fun(k:Nat) a=>.inl (a.set k (k:Int))) (fun a=>.inl (a,())) (fun i a=>a.length=N) (by grind)
  (fun i x a hi g n=>by
   refine⟨fun o b => ?_,fun r b=>by cases b⟩
   cases b
   have:=Ed g
   subst this
   rw[AWJ]at hi
   rw[Ky,A3,AV2 hi]
   simp only[C3 0 (show x<a.length by omega),DO]
   rw[A5 (by omega)]
   grind)
  (fun a _=>by rw[Ky,AWJ,A3,AV1 (by omega)]) (List.replicate N 0) (by simp)
 have j:A8 Ky many (List.replicate N 0,(N:Int),(0:Int),())=_:=e;rw[show A2 (List.replicate N (0:Int))=(N:Int) by simp[A2]];rw[j,B'];have l:∀ M,M<=N->(List.range M).foldl (fun(a:List Int) (k:Nat)=>a.set k (k:Int)) (List.replicate N 0)=((List.range M).map fun(k:Nat)=>(k:Int))++List.replicate (N-M) 0:=by
  intro M;induction M with
   |zero=>simp
   |succ M m=>
    intro p;rw[AWX,AXK,m (by omega)];simp only[AXA,List.foldl_nil,AW3,AWW,AXS];rw[List.set_append_right _ _ (by simp)];obtain⟨d,hd⟩:∃ d,N-M=d+1:=⟨N-M-1,by omega⟩
    rw[hd,show N-(M+1)=d by omega];simp[AYV]
 grind
theorem uN(N:Nat):UF N ((List.range N).map fun(k:Nat)=>(k:Int)) (fun x=>x):=by
 have b:∀ k,k<N->((List.range N).map fun(k:Nat)=>(k:Int)).getD k 0=(k:Int):=by grind
 exact⟨by simp,fun k a=>by grind,fun k a=>b k a,fun k a _=>rfl,fun k a=>by omega⟩
def dF(N:Nat)(c:Int->Int)(l:List Edge):Prop:=∀ a b,In (N:Int) a->In (N:Int) b->(c a=c b↔Con l a b)
theorem dF.snoc{N:Nat}{c:Int->Int}{l:List Edge}{e:Edge}(h:dF N c l)(g:In (N:Int) e.1)(i:In (N:Int) e.2.1):dF N (gQ c e.1 e.2.1) (l++[e]):=by intro a b d f;rw[Con.snoc,<- h a b d f,<- h a _ d g,<- h _ b i f,<- h a _ d i,<- h _ b g f];unfold gQ;omega
theorem mj{N:Nat}(I:1<=N)(A:N<=64)(l:List Edge)(J:l.length<1073741824)(o:∀ e∈l,In (N:Int) e.1/\In (N:Int) e.2.1):
  ∃ s f c,OC (l,(List.range N).map (fun(k:Nat)=>(k:Int)),())=some (s,f,())/\UF N s c/\dF N c l:=by
 rw[OB,Mh]
 have p:∀ (m i n:Nat) (s:List Int) (f:List Bool) (c:Int->Int),l.length-i=m->i<=l.length->m<n->f.length=i->UF N s c->dF N c (l.take i) ->
   ∃ j q c',BC Dh n (s,f,l,A2 l,(i:Int),())=some (.inl (j,q,()))/\UF N j c'/\dF N c' l:=by
  intro m
  induction m with
  |zero=>
   intro i n s f c B hi C y r t
   obtain⟨n,rfl⟩:∃ k,n=k+1:=⟨n-1,by omega⟩
   have e:i=l.length:=by omega
   subst e
   rw[BC,Dh,A6,A3,AV1 (by omega)]
   grind
  |succ m D=>
   intro i n s f c B hi C y r t
   obtain⟨n,rfl⟩:∃ k,n=k+1:=⟨n-1,by omega⟩
   have d:i<l.length:=by omega
   have z:l[i]? = some l[i]:=by simp
   obtain⟨E,F⟩:=o l[i] (AWu d)
   obtain⟨_,_,G,K⟩:=E
   obtain⟨_,_,H,L⟩:=F
   obtain⟨u,w⟩:=AV7 G
   obtain⟨v,x⟩:=AV7 H
   obtain⟨j,b,e,g⟩:=fj A r (u:=u) (v:=v) (by omega) (by omega)
   rw[BC,Dh,A6,A3,AV2 d]
   simp only[A' z,w,x,e,A6]
   rw[Bo (by grind),A5 (by omega)]
   refine D (i+1) n j _ _ (by omega) (by omega) (by omega) (by rw[Dy,AWF,y];rfl) g ?_
   rw[AYQ,z]
   have:=t.snoc (e:=l[i]) (o l[i] (AWu d)).1 (o l[i] (AWu d)).2
   grind
 obtain⟨s,f,c,e,r,t⟩:=p l.length 0 many _ [] _ rfl (AXV _) (by simp only[many];omega) rfl (uN N) (by intro a b _ _;rw[List.take_zero];exact⟨fun h=>by have h:a=b:=h;rw[h];exact .refl _,fun h=>h.nil⟩)
 have M:A8 Dh many ((List.range N).map (fun(k:Nat)=>(k:Int)),[],l,A2 l,(0:Int),())=_:=(BR _ _ _).trans e;grind
theorem ZS(n:Int)(l:List Edge)(b:Sz n)(d:l.length<1073741824)(c:∀ e∈l,In n e.1/\In n e.2.1):ZU (n,l,())=some (0,()):=by
 rw[fv,ZT];obtain⟨f,g⟩:=b;rw[BD,AV1 (by omega),BD,AV1 (by omega)]
 have e:=KR (step:=Ot) (fun i=>(n,l,A2 l,(i:Int),())) l (fun _=>false) (fun _=>.inl (10,())) (.inr (.inl ())) (by omega)
  (fun i x hi a=>by
   obtain⟨⟨_,_,h,j⟩,⟨_,_,k,m⟩⟩:=c x (AWA a)
   rw[Ot,A6,A3,AV2 hi]
   simp only[A' a,KL,O7]
   rw[BD,AV1 (by omega),BM,AV1 (by omega),A5 (by omega)]
   rfl)
  (by rw[Ot,A6,A3,AV1 (by omega)])
 grind
theorem kI(n:Int)(l:List Edge)(D:Sz n)(E:l.length<1073741824)(F:∀ e∈l,In n e.1/\In n e.2.1):∃ out,Rq (n,l,())=some (out,0,())/\Vw n l out:=by
 have z:=D;obtain⟨U,V⟩:=D;obtain⟨N,rfl⟩:=AV7 (show 0<=n by omega);rw[WT,P9];simp only[ZS _ l z E F,BB];obtain⟨s,I,c,e,w,A⟩:=mj (N:=N) (by omega) (by omega) l E F;have J:Tt ((List.range N).map (fun(k:Nat)=>(k:Int)),l,())=some (s,I,()):=by rw[Ts,Rl];grind
 simp only[AWG,AV6,ZZ N (by omega),J]
 have B:∀ (m i k:Nat) (s:List Int),N-i=m->i<=N->m<k->UF N s c->(∀ j,j<i->s.getD j 0=c (j:Int)) ->
   ∃ u,BC Hn k (s,(N:Int),(i:Int),())=some (.inl (u,()))/\UF N u c/\∀ j,j<N->u.getD j 0=c (j:Int):=by
  intro m
  induction m with
  |zero=>
   intro i k s K hi L w G
   obtain⟨k,rfl⟩:∃ q,k=q+1:=⟨k-1,by omega⟩
   have e:i=N:=by omega
   subst e
   rw[BC,Hn,A3,AV1 (by omega)]
   grind
  |succ m M=>
   intro i k s K hi L w G
   obtain⟨k,rfl⟩:∃ q,k=q+1:=⟨k-1,by omega⟩
   have r:i<N:=by omega
   obtain⟨u,e,g,C⟩:=JD (by omega) w r
   have W:=g.len
   rw[BC,Hn,A3,AV2 r]
   simp only[e,C3 0 (show i<u.length by omega),DO]
   rw[A5 (by omega)]
   have d:=fun j=>ZN (c (i:Int)) (show i<u.length by omega) j
   have X:=g.idem i i (AV8 _) r
   refine M (i+1) k _ (by omega) (by omega) (by omega) ⟨by grind,fun q v => ?_,fun q v => ?_,fun q v t => ?_,g.le⟩ fun j O => ?_
   ·rw[d]
    by_cases e:q=i
    ·subst e;rw[AWB rfl];exact g.le q v
    ·rw[AV9 e];exact g.lo q v
   ·rw[d]
    by_cases e:q=i
    ·grind
    ·rw[AV9 e];exact g.par q v
   ·rw[d]at t
    by_cases e:q=i
    ·grind
    ·rw[AV9 e]at t;exact g.root q v t
   ·rw[d]
    by_cases e:j=i
    all_goals grind
 obtain⟨o,e,g,Y⟩:=B N 0 many s rfl (AXV _) (by simp only[many];omega) w (fun j G=>by omega);have P:A8 Hn many (s,(N:Int),(0:Int),())=_:=(BR _ _ _).trans e;rw[A6,w.len,P];refine⟨o,rfl,?_⟩;have p:∀ a,In (N:Int) a->cl o a=c a/\(0<=c a/\c a<=a)/\c (c a)=c a:=by rintro a ⟨_,_,H,Q⟩;obtain⟨k,rfl⟩:=AV7 H;refine⟨?_,g.le k (by omega),g.idem k k (AV8 _) (by omega)⟩;unfold cl;simp_all
 have x:∀ a,In (N:Int) a->In (N:Int) (c a):=by intro a f;obtain⟨_,h,_⟩:=p a f;obtain⟨R,S,H,Q⟩:=f;exact⟨R,S,by omega,by omega⟩
 refine⟨by rw[g.len],fun a b f y => ?_,fun a f => ?_,fun a f => ?_,fun a b f y T => ?_⟩;rw[(p a f).1,(p b y).1];exact A a b f y;grind;rw[(p a f).1];exact(A a (c a) f (x a f)).1 (p a f).2.2.symm;rw[(p a f).1,(A a b f y).2 T];grind
end Go.Pev.Pl
end
section
namespace Go.Pev.Pl
def sh(n:Int):Prop:=0<=n/\n<=65535
instance (n:Int):Decidable (sh n):=inferInstanceAs (Decidable (_/\_))
def tw(n:Int):List Int:=[n/256,n % 256]
def by8(b:List Int):Prop:=∀ x∈b,0<=x/\x<=255
def num(b:List Int)(i:Nat):Int:=b.getD i 0*256+b.getD (i+1) 0
theorem FV{b:List Int}(a:by8 b)(i:Nat):0<=b.getD i 0/\b.getD i 0<=255:=by by_cases h:i<b.length;have:=a b[i] (AWu h);grind;grind
theorem AQr{x y:Int}(d:0<=x/\x<=255)(f:0<=y/\y<=255):((BitVec.ofInt (IntKind.bits .i64) (x*256) ||| BitVec.ofInt (IntKind.bits .i64) y).toNat:Int)=x*256+y:=by
 obtain⟨a,rfl⟩:=AV7 d.1;obtain⟨c,rfl⟩:=AV7 f.1;show((BitVec.ofInt 64 ((a:Int)*256) ||| BitVec.ofInt 64 (c:Int)).toNat:Int)=_;have e:((a:Int)*256)=((a*256:Nat):Int):=by simp
 rw[e,BitVec.toNat_or,AXm,AXm,AXr,AXr,AXI (by omega),AXI (by omega)];have:=Nat.shiftLeft_add_eq_or_of_lt (b:=c) (i:=8) (by omega) a;rw[Nat.shiftLeft_eq]at this;grind
theorem iM{α β:Type}(g:β->α):∀ (xs:List β) (a:List α),xs.foldl (fun a x=>a++[g x]) a=a++xs.map g:=by
 intro xs;induction xs with
  |nil=>simp
  |cons x xs b=>grind
end Go.Pev.Pl
end
section
namespace Go.Pev.Pl
theorem AGz(xs ys:List Int)(c:xs.length<9223372036854775808):Qi (xs,ys,())=some (decide (xs=ys),()):=by
 rw[iB,aw,bK];by_cases a:xs.length=ys.length;rw[AV2 a];simp only[AV6];rcases pe (step:=I2) (fun i=>(xs,ys,((i:Nat):Int),())) xs.length (fun i => !decide (xs.getD i 0=ys.getD i 0)) (fun _=>.inl (false,())) (.inr (.inl ())) c (fun i hi=>by rw[I2,A6,A3,AV2 hi];simp (disch:=omega) only[C3 (0:Int),A5,BB];grind) (by rw[I2,A6,A3,AV1 (by omega)])with⟨k,hk,hP,_,e⟩|⟨h,e⟩
 have b:A8 I2 many (xs,ys,(0:Int),())=_:=e;rw[b];have:xs≠ys:=rM (0:Int) (j:=k) (by grind);grind;have b:A8 I2 many (xs,ys,(0:Int),())=_:=e;rw[b];have:xs=ys:=Me (0:Int) a fun j d=>by grind
 grind;rw[AV1 a];have:xs≠ys:=fun e=>a (by rw[e]);grind
abbrev Res:=Int×Int×List Int×Unit
def val(r:Res):Prop:=(0<=r.1/\r.1<=255)/\sh r.2.1/\sh (r.2.2.1.length:Int)/\∀ x∈r.2.2.1,sh x
instance (r:Res):Decidable (val r):=inferInstanceAs (Decidable (_/\_/\_/\_))
def enc(r:Res):List Int:=r.1::(tw r.2.1++(tw (r.2.2.1.length:Int)++r.2.2.1.flatMap tw))
end Go.Pev.Pl
end
section
namespace Go.Pev.Pl
theorem Dw(a:Int):ieq a a=true:=by rw[Cj];simp
end Go.Pev.Pl
end
section
namespace Go.Pev.Pl
open Go.RowKit Tok
section
variable {n:Int} {rings:List (List Int)}
theorem bY{l:List Edge}{out:List Int}(h:FC n rings l)(c:Vw n l out){A:List Int}{u:Int}(d:A∈rings)(a:In n u)(e:u∈A):hd A=cl out u:=by have b:=h.fr.rg A d;have f:=TP b;have g:=mJ b.2.1;have i:Con l u (hd A):=(h.sam u (hd A) a f).1 ⟨A,d,e,g⟩;have q:=c.least u (hd A) a f i;have j:=c.isin u a;obtain⟨K,k,m,o⟩:=(h.sam u _ a j).2 (c.con u a);have:=h.fr.one d k a.2.2.2 e m;subst this;have p:=(G5 b.2.1).2 _ o;rw[b.2.2.1]at p;have:hd A=A.headD 0:=rfl;omega
end
end Go.Pev.Pl
end
section
namespace Go.Pev.Pl
def Jz(n:Nat):Int:=((@Ra idI ((n:Int),())).getD (0,())).1
theorem AVk:((List.range 65).all fun k=>decide (@Ra idI ((k:Int),())=some (Jz k,())))=true:=by kernel_rfl
theorem AUz:((List.range 65).all fun k=>decide (@lN idI ((k:Int),())=some (Jz k,())))=true:=by kernel_rfl
theorem ADy(n:Nat)(h:n<=64):Ra ((n:Int),())=some (Jz n,()):=by rw[show Ra ((n:Int),()) = @Ra idI ((n:Int),())from AWy (fun i=>@Ra i ((n:Int),())) aZ];exact AYk (AWU.1 AVk n (by grind))
theorem aU(n:Nat)(h:n<=64):lN ((n:Int),())=some (Jz n,()):=by rw[show lN ((n:Int),()) = @lN idI ((n:Int),())from AWy (fun i=>@lN i ((n:Int),())) aZ];exact AYk (AWU.1 AUz n (by grind))
def Q7(a b:Int):Int:=if a<b then -1 else if b<a then 1 else 0
theorem Mn(a b:Int):EJ (a,b,())=some (Q7 a b,()):=by rw[H3,HH];simp only[KG,L_,Dw,AV6];unfold Q7;rw[BD,BD];grind
theorem lC(a b:Int):orI ([a,b],())=some (if a=0 then b else a,()):=by
 rw[lD,rI]
 have e:=KR (step:=Kb) (fun i=>(0,[a,b],A2 [a,b],(i:Int),())) [a,b] (fun x => !decide (x=0)) (fun i=>.inl ([a,b].getD i 0,())) (.inr (.inl (0,()))) (by simp)
  (fun i x hi c=>by
   rw[Kb,A6,A3,AV2 hi]
   simp only[A' c,BB]
   have d:i<2:=hi
   rw[A5 (by omega)]
   grind)
  (by rw[Kb,A6,A3,AV1 (by omega)])
 grind
theorem lU(p x:Tie):∃ y,GJ (p,x,())=some (y,())/\ile 0 y = !decide (ahead p x):=by rw[Nr,MH];simp only[Mn,lC];refine⟨_,rfl,?_⟩;rw[BM];by_cases h:ahead p x;rw[AV2 h];unfold ahead at h;unfold Q7;grind;rw[AV1 h];unfold ahead at h;unfold Q7;grind
def PL(N:Nat)(a:List Tie)(i:Nat):Prop:=
 0<=(a.getD i zT).1/\(a.getD i zT).1<(a.getD i zT).2.1/\(a.getD i zT).2.1<(N:Int)/\0<=(a.getD i zT).2.2.1/\(a.getD i zT).2.2.1<=Jz N/\(i=0\/ahead (a.getD (i-1) zT) (a.getD i zT))
instance (N:Nat)(ts:List Tie)(i:Nat):Decidable (PL N ts i):=inferInstanceAs (Decidable (_/\_/\_/\_/\_/\_))
def trs(b:List Tie)(k:Nat):List Edge:=(List.range k).foldl (fun a i=>if(b.getD i zT).2.2.2.1=true then a++[ed (b.getD i zT)]else a) []
theorem oa{α β ρ:Type}(P:β->Prop)[DecidablePred P](g:β->α->α)(fin:α->ρ)(b:ρ):∀ (xs:List β) (a:α),walk (fun x a=>if P x then .inl (g x a)else .inr b) fin xs a=if ∀ x∈xs,P x then fin (xs.foldl (fun a x=>g x a) a)else b:=by
 intro xs;induction xs with
  |nil=>intro a;simp[walk]
  |cons x xs c=>intro a;rw[walk];grind
theorem oq(a:List Tie)(k:Nat):trs a (k+1)=if(a.getD k zT).2.2.2.1=true then trs a k++[ed (a.getD k zT)]else trs a k:=by unfold trs;rw[AWX,AXK];rfl
theorem RY(a:List Tie):∀ k,(trs a k).length<=k:=by
 intro k;induction k with
  |zero=>exact AV8 _
  |succ k b=>rw[oq];grind
theorem APO(a:List Tie)(e:Edge):∀ k,e∈trs a k->∃ i,i<k/\e=ed (a.getD i zT):=by
 intro k;induction k with
  |zero=>intro h;simp[trs]at h
  |succ k b=>intro h;rw[oq]at h;grind
def oks(N:Nat)(a:List Tie):Prop:=∀ i∈List.range a.length,PL N a i
instance (N:Nat)(ts:List Tie):Decidable (oks N ts):=inferInstanceAs (Decidable (∀ i∈List.range ts.length,PL N ts i))
theorem rV(N:Nat)(m:N<=64)(b:List Tie)(n:b.length<=400):
  A8 G8 many ((N:Int),b,Jz N,b,A2 b,(0:Int),())=some (if oks N b then .inr (.inl ((N:Int),b,()))else .inl (false,())):=by
 have e:=DS (step:=G8) (fun i (_:Unit)=>((N:Int),b,Jz N,b,A2 b,(i:Int),())) (List.range b.length) (fun i a=>if PL N b i then .inl a else .inr (.inl (false,()))) (fun _=>.inr (.inl ((N:Int),b,()))) (fun _ _=>True) (by grind)
  (fun i x a hi d _=>by
   have:=Ed d
   subst this
   rw[AWJ]at hi
   have step:G8 ((N:Int),b,Jz N,b,A2 b,(x:Int),())=if PL N b x then some (.inl ((N:Int),b,Jz N,b,A2 b,((x+1:Nat):Int),()))else some (.inr (.inl (false,()))):=by
    rw[G8,A6,A3,AV2 hi]
    simp only[C3 zT hi]
    obtain⟨t,c⟩:∃ t,b.getD x zT=t:=⟨_,rfl⟩
    have o:PL N b x↔(0<=t.1/\t.1<t.2.1/\t.2.1<(N:Int)/\0<=t.2.2.1/\t.2.2.1<=Jz N/\(x=0\/ahead (b.getD (x-1) zT) t)):=by unfold PL;rw[c]
    rw[c]
    rw[BD,BM,BM,BD,BD]
    by_cases f:t.1<0
    ·grind
    rw[AV1 f]
    by_cases g:t.2.1<=t.1
    ·grind
    rw[AV1 g]
    by_cases h:(N:Int)<=t.2.1
    ·grind
    rw[AV1 h]
    by_cases j:t.2.2.1<0
    ·grind
    rw[AV1 j]
    by_cases k:Jz N<t.2.2.1
    ·grind
    rw[AV1 k]
    simp only[]
    rw[A5 (by omega),BD]
    by_cases p:x=0
    ·grind
    ·rw[AV2 (by omega),BE (by omega),show((x:Int)-1)=((x-1:Nat):Int) by omega]
     simp only[C3 zT (show x-1<b.length by omega)]
     obtain⟨y,q,r⟩:=lU (b.getD (x-1) zT) t
     grind
   grind)
  (fun a _=>by rw[G8,AWJ,A6,A3,AV1 (by omega)]) () trivial
 have l:A8 G8 many ((N:Int),b,Jz N,b,A2 b,(0:Int),())=_:=e;rw[l,oa (PL N b) (fun _ a=>a)];rfl
theorem Rw(N:Nat)(m:N<=64)(b:List Tie)(y:b.length<=400):
  A8 FX many ((N:Int),b,[],(0:Int),())=some (if oks N b then .inr (.inl ((N:Int),b,trs b b.length,()))else .inl (false,())):=by
 have e:=DS (step:=FX) (fun i (a:List Edge)=>((N:Int),b,a,(i:Int),())) (List.range b.length) (fun i a=>if PL N b i then .inl (if(b.getD i zT).2.2.2.1=true then a++[ed (b.getD i zT)]else a)else .inr (.inl (false,()))) (fun a=>.inr (.inl ((N:Int),b,a,()))) (fun i a=>a.length<=i) (by grind)
  (fun i x a hi n z=>by
   have:=Ed n
   subst this
   rw[AWJ]at hi
   have step:FX ((N:Int),b,a,(x:Int),())=if PL N b x then some (.inl ((N:Int),b,if(b.getD x zT).2.2.2.1=true then a++[ed (b.getD x zT)]else a,((x+1:Nat):Int),()))else some (.inr (.inl (false,()))):=by
    rw[FX,A6,A3,AV2 hi]
    simp only[C3 zT hi,ADy N m]
    obtain⟨t,j⟩:∃ t,b.getD x zT=t:=⟨_,rfl⟩
    have d:PL N b x↔(0<=t.1/\t.1<t.2.1/\t.2.1<(N:Int)/\0<=t.2.2.1/\t.2.2.1<=Jz N/\(x=0\/ahead (b.getD (x-1) zT) t)):=by unfold PL;rw[j]
    rw[j]
    rw[BD,BM,BM,BD,BD]
    by_cases o:t.1<0
    ·grind
    rw[AV1 o]
    by_cases q:t.2.1<=t.1
    ·grind
    rw[AV1 q]
    by_cases r:(N:Int)<=t.2.1
    ·grind
    rw[AV1 r]
    by_cases s:t.2.2.1<0
    ·grind
    rw[AV1 s]
    by_cases u:Jz N<t.2.2.1
    ·grind
    rw[AV1 u]
    simp only[A6]
    have c:fits ((a.length:Int)+(([(t.1,t.2.1,())]:List Edge).length:Int))=true:=Bo (by grind)
    rw[A5 (by omega),BD]
    by_cases v:x=0
    ·subst v
     rw[AV1 (by omega),AWB (d.2 ⟨by omega,by omega,by omega,by omega,by omega,.inl rfl⟩)]
     cases f:t.2.2.2.1
     ·simp
     ·simp only[c]
      simp[ed,BV]
    ·rw[AV2 (by omega),BE (by omega),show((x:Int)-1)=((x-1:Nat):Int) by omega]
     simp only[C3 zT (show x-1<b.length by omega),BB]
     generalize b.getD (x-1) zT=p at d |-
     rw[BD,BM]
     by_cases k:t.1<p.1
     ·rw[AV2 k,AV9 (fun h=>by rcases(d.1 h).2.2.2.2.2 with h|h|h<;>omega)]
     rw[AV1 k]
     by_cases g:p.1=t.1
     ·rw[AV2 g]
      by_cases l:t.2.1<=p.2.1
      ·rw[AV2 l,AV9 (fun h=>by rcases(d.1 h).2.2.2.2.2 with h|h|h<;>omega)]
      rw[AV1 l,AWB (d.2 ⟨by omega,by omega,by omega,by omega,by omega,.inr (.inr ⟨g,by omega⟩)⟩)]
      cases f:t.2.2.2.1
      ·simp
      ·simp only[c]
       simp[ed,BV]
     ·rw[AV1 g,AWB (d.2 ⟨by omega,by omega,by omega,by omega,by omega,.inr (.inl (by omega))⟩)]
      cases f:t.2.2.2.1
      ·simp
      ·simp only[c]
       simp[ed,BV]
   grind)
  (fun a _=>by rw[FX,AWJ,A6,A3,AV1 (by omega)]) [] (AV8 _)
 have w:A8 FX many ((N:Int),b,[],(0:Int),())=_:=e;rw[w,oa (PL N b) (fun i a=>if(b.getD i zT).2.2.2.1=true then a++[ed (b.getD i zT)]else a)];rfl
end Go.Pev.Pl
end
end
section
section
namespace Go.Pev.Pl
theorem ACD{N:Nat}{a:List Tie}(d:N<=64){i:Nat}(h:PL N a i):In (N:Int) (ed (a.getD i zT)).1/\In (N:Int) (ed (a.getD i zT)).2.1:=by obtain⟨b,e,c,_⟩:=h;exact⟨⟨by omega,by omega,b,by show(a.getD i zT).1<_;omega⟩,⟨by omega,by omega,by show 0<=(a.getD i zT).2.1;omega,c⟩⟩
theorem Yu{N:Nat}{a:List Tie}(b:N<=64)(h:oks N a):∀ e∈trs a a.length,In (N:Int) e.1/\In (N:Int) e.2.1:=by intro e c;obtain⟨i,hi,rfl⟩:=APO a e _ c;exact ACD b (h i (by simp[hi]))
theorem AUV{N:Nat}{a:List Tie}(b:N<=64)(h:oks N a):∀ e∈a.map ed,In (N:Int) e.1/\In (N:Int) e.2.1:=by intro e c;obtain⟨t,d,rfl⟩:=AWV.1 c;obtain⟨i,hi,rfl⟩:=AWw d;have:=ACD b (h i (by simp[hi]));grind
theorem aS{N:Nat}(b:List Tie)(l:b.length<=400)(h:oks N b):UI (((N:Int),(b,())),(0:Int),())=some (trs b b.length,()):=by
 rw[UH,SD]
 have e:=DS (step:=Ez) (fun i (a:List Edge)=>((0:Int),a,b,A2 b,(i:Int),())) (List.range b.length) (fun i a=>.inl (if(b.getD i zT).2.2.2.1=true then a++[ed (b.getD i zT)]else a)) (fun a=>.inl (a,())) (fun i a=>a.length<=i) (by grind)
  (fun i x a hi g m=>by
   refine⟨fun n d => ?_,fun r d=>(by cases d)⟩
   cases d
   have:=Ed g
   subst this
   rw[AWJ]at hi
   have f:=(h x (by simp[hi])).2.2.2.1
   constructor
   ·rw[Ez,A6,A3,AV2 hi]
    simp only[C3 zT hi,A6]
    have c:fits ((a.length:Int)+(([((b.getD x zT).1,(b.getD x zT).2.1,())]:List Edge).length:Int))=true:=Bo (by grind)
    rw[A5 (by omega),BM,AV2 f]
    cases j:(b.getD x zT).2.2.2.1
    ·simp
    ·simp only[c]
     simp[ed,BV]
   grind)
  (fun a _=>by rw[Ez,AWJ,A6,A3,AV1 (by omega)]) [] (AV8 _)
 have k:A8 Ez many ((0:Int),[],b,A2 b,(0:Int),())=_:=e;simp only[k];rw[B' (fun i a=>if(b.getD i zT).2.2.2.1=true then a++[ed (b.getD i zT)]else a)];rfl
def cnt(out:List Int)(N:Nat):Nat:=((List.range N).filter fun k=>decide (out.getD k 0=(k:Int))).length
theorem p9{N:Nat}{c:List (List Int)}{l:List Edge}{out:List Int}(h:FC (N:Int) c l)(f:Vw (N:Int) l out):c.length=cnt out N:=by
 have d:=h.fr.sz;have m:(c.map hd).Perm (((List.range N).filter fun k=>decide (out.getD k 0=(k:Int))).map fun(k:Nat)=>(k:Int)):=by
  rw[AX4];intro a;simp only[AWV,AWZ,AWS,AV4];constructor;rintro⟨A,e,rfl⟩;have g:=h.fr.rg A e;have i:In (N:Int) (hd A):=TP g;have n:=mJ g.2.1;have:=bY h f e i n;obtain⟨_,_,p,q⟩:=i;refine⟨(hd A).toNat,⟨by omega,?_⟩,by omega⟩;rw[show out.getD (hd A).toNat 0=cl out (hd A)from rfl,<- this];omega;rintro⟨k,⟨r,s⟩,rfl⟩;have j:In (N:Int) (k:Int):=⟨d.1,d.2,by omega,by omega⟩
  obtain⟨A,e,o⟩:=h.fr.cov _ j;refine⟨A,e,?_⟩;rw[bY h f e j o];unfold cl;grind;exact(AXW.2 h.fr.up).imp (fun h=>by omega);refine List.Pairwise.map _ (S:=fun a b=>a≠b) (R:=fun a b=>a≠b) (fun a b h t=>h (by omega)) ?_;exact(AXg).filter _
 have:=m.length_eq;rw[AWQ,AWQ]at this;exact this
theorem PU(N:Nat)(g:N<=64)(p:List Tie)(q:List Edge)(out:List Int)(h:out.length=N):A8 Gv many ((N:Int),p,q,out,(0:Int),(0:Int),())=some (.inl ((N:Int),p,q,(cnt out N:Int),())):=by
 have e:=DS (step:=Gv) (fun i (a:Nat)=>((N:Int),p,q,out,(a:Int),(i:Int),())) (List.range N) (fun k a=>.inl (if out.getD k 0=(k:Int)then a+1 else a)) (fun a=>.inl ((N:Int),p,q,(a:Int),())) (fun i a=>a<=i) (by grind)
  (fun i x a hi d j=>by
   refine⟨fun l b => ?_,fun r b=>(by cases b)⟩
   cases b
   have:=Ed d
   subst this
   rw[AWJ]at hi
   constructor
   ·rw[Gv,A3,AV2 hi]
    simp only[C3 0 (show x<out.length by omega),IE,BB]
    rw[A5 (by omega),A5 (by omega)]
    grind
   grind)
  (fun a _=>by rw[Gv,AWJ,A3,AV1 (by omega)]) 0 (AV8 _)
 have f:A8 Gv many ((N:Int),p,q,out,(0:Int),(0:Int),())=_:=e;rw[f,B' (fun k a=>if out.getD k 0=(k:Int)then a+1 else a)];have c:∀ (xs:List Nat) (a:Nat),xs.foldl (fun a k=>if out.getD k 0=(k:Int)then a+1 else a) a=a+(xs.filter fun k=>decide (out.getD k 0=(k:Int))).length:=by
  intro xs;induction xs with
   |nil=>simp
   |cons x xs m=>grind
 rw[c,AWs];rfl
theorem RA(n:Int)(a:List Tie)(s:a.length<4611686018427387904):∃ b:Bool,HT ((n,(a,())),())=some (b,())/\Du ((n,(a,())),())=some (b,())/\(b=true->∃ N:Nat,n=(N:Int)/\1<=N/\N<=64/\a.length<=400/\oks N a):=by
 by_cases f:¬ (1<=n/\n<=64);refine⟨false,?_,?_,fun h=>by cases h⟩;rw[Gw,Gx,BD,BD];grind;rw[K_,LA];simp only[UJ,SF,BM];grind;have f:=AX6.1 f;obtain⟨N,rfl⟩:=AV7 (show 0<=n by omega);have d:aV ((N:Int),())=some (true,()):=by simp only[UJ,SF,BM,AV2 f.1,AV2 f.2]
 by_cases g:¬ a.length<=400;refine⟨false,?_,?_,fun h=>by cases h⟩;rw[Gw,Gx];simp only[BD,A6];grind;rw[K_,LA];simp only[d,AV6,BD,A6];grind;have g:=AX6.1 g;have R:=Rw N (by omega) a g;have L:=rV N (by omega) a g;by_cases e:¬ oks N a;rw[AV9 e]at R L;refine⟨false,?_,?_,fun h=>by cases h⟩;rw[Gw,Gx];grind;rw[K_,LA];simp only[d,AV6,BD,A6,aU N (by omega)];rw[AV1 (show ¬ 400<(a.length:Int) by omega)];rw[A6]at L;grind;have e:=AX6.1 e;rw[AWB e]at R L;have j:=Yu (show N<=64 by omega) e;have o:=RY a a.length;obtain⟨out,p,i⟩:=He (N:Int) (trs a a.length) f (by omega) j;rcases(mX (N:Int) (trs a a.length) f (by omega)).symm with⟨q,_⟩|⟨_,k,r,l⟩
 grind;have c:=p9 l i;have m:out.length=N:=by have:=i.len;omega
 refine⟨decide ((cnt out N:Int)=(N:Int)-(trs a a.length).length),?_,?_,fun _=>⟨N,rfl,by omega,by omega,g,e⟩⟩;rw[Gw,Gx];simp only[BD,A6];rw[AV1 (show ¬ (N:Int)<1 by omega),AV1 (show ¬ 64<(N:Int) by omega),AV1 (show ¬ 400<(a.length:Int) by omega)];simp only[R,p,PU N (by omega) _ _ out m,BB];rw[BE (by omega)];rw[K_,LA];simp only[d,AV6,BD,A6,aU N (by omega)];rw[AV1 (show ¬ 400<(a.length:Int) by omega)];rw[A6]at L;simp only[L,aS a g e,r,Dw,BB,c];rw[BE (by omega)]
end Go.Pev.Pl
end
section
namespace Go.Pev.Pl
theorem Vw.unique{N:Nat}{l:List Edge}{a b:List Int}(h:1<=N)(i:N<=64)(d:Vw (N:Int) l a)(e:Vw (N:Int) l b):a=b:=by
 have j:=d.len;have lb:=e.len;refine Me (0:Int) (by omega) fun k m => ?_;have c:In (N:Int) (k:Int):=⟨by omega,by omega,by omega,by omega⟩
 have f:=d.least _ _ c (e.isin _ c) (e.con _ c);have g:=e.least _ _ c (d.isin _ c) (d.con _ c);unfold cl at f g;grind
theorem AHW(xs:List Tie)(a:List Edge):xs.foldl (fun a x=>a++[ed x]) a=a++xs.map ed:=iM ed xs a
theorem Qc(n:Int)(b:List Tie)(g:b.length<=400)(h:Du ((n,(b,())),())=some (true,())):UN ((n,(b,())),())=some (b.map ed,()):=by
 rw[g9,ab];simp only[h,AV6]
 have e:=DS (step:=LC) (fun i (a:List Edge)=>(a,b,A2 b,(i:Int),())) b (fun x a=>.inl (a++[ed x])) (fun a=>.inl (a,())) (fun i a=>a.length<=i) (by omega)
  (fun i x a hi d j=>by
   refine⟨fun k c => ?_,fun r c=>(by cases c)⟩
   cases c
   constructor
   ·rw[LC]
    simp only[A6]
    rw[A3,AV2 hi]
    simp only[A' d]
    rw[Bo (by grind),A5 (by omega)]
    rfl
   grind)
  (fun a _=>by rw[LC,A6,A3,AV1 (by omega)]) [] (AV8 _)
 have f:A8 LC many ([],b,A2 b,(0:Int),())=_:=e;simp only[f];rw[B' (fun x a=>a++[ed x]),AHW];rfl
abbrev Ask:=Int×Int×Int×Unit
def InV(N:Nat)(x:Int):Prop:=0<=x/\x<(N:Int)
instance (N:Nat)(x:Int):Decidable (InV N x):=inferInstanceAs (Decidable (_/\_))
def AVQ(out:List Int)(N:Nat)(c:Int):Nat:=((List.range N).filter fun k=>decide (out.getD k 0=c)).length
def ans(N:Nat)(out:List Int)(a:Ask):Int×Int×Unit:=
 if a.1=1 then(if InV N a.2.1/\InV N a.2.2.1 then(if cl out a.2.1=cl out a.2.2.1 then 1 else 0,0,())else(0,10,()))
 else if a.1=2 then(if InV N a.2.1 then(cl out a.2.1,0,())else(0,10,()))
 else if a.1=3 then(if InV N a.2.1 then((AVQ out N (cl out a.2.1):Int),0,())else(0,10,()))
 else if a.1=4 then((cnt out N:Int),0,())else(0,1,())
theorem iL(P:Nat->Prop)[DecidablePred P]:∀ (xs:List Nat) (a:Nat),xs.foldl (fun a k=>if P k then a+1 else a) a=a+(xs.filter fun k=>decide (P k)).length:=by
 intro xs;induction xs with
  |nil=>simp
  |cons x xs b=>grind
theorem nZ{N:Nat}{out:List Int}(a:out.length=N){u:Int}(h:InV N u):idx out u=some (cl out u):=by obtain⟨U,rfl⟩:=AV7 h.1;have:=h.2;rw[C3 0 (by omega)];unfold cl;simp
end Go.Pev.Pl
end
section
namespace Go.Pev.Pl
end Go.Pev.Pl
end
section
namespace Go.Pev.Pl
def XV(l:List Edge)(u v:Int):Prop:=((u,(v,())):Edge)∈l\/((v,(u,())):Edge)∈l
instance (l:List Edge)(u v:Int):Decidable (XV l u v):=inferInstanceAs (Decidable (_\/_))
def pz(N:Nat)(l:List Edge)(u:Nat):List Edge:=((List.range (N-(u+1))).filter fun i=>decide (XV l (u:Int) ((u+1+i:Nat):Int))).map fun(i:Nat)=>((u:Int),((u+1+i:Nat):Int),())
def G0(N:Nat)(l:List Edge):List Edge:=(List.range N).flatMap fun u=>pz N l u
theorem AKd(N:Nat)(a:N<=64)(l:List Edge)(u:Nat):(pz N l u).length<=64:=by unfold pz;grind
end Go.Pev.Pl
end
section
namespace Go.Pev.Pl
theorem Z0(N:Nat)(b:N<=64)(l:List Edge):(G0 N l).length<=4096:=by
 have a:∀ M,((List.range M).flatMap fun u=>pz N l u).length<=64*M:=by
  intro M;induction M with
   |zero=>simp
   |succ M c=>rw[AWX,AW5,AWF];have:=AKd N b l M;grind
 have:=a N;unfold G0;omega
def DA(N:Nat)(a:List Tie)(l:List Edge):List Edge:=(G0 N l).filter fun x => !decide (x∈a.map ed)
def Zt(l:List Tie)(t:Tie):List Tie:=l.take (l.findIdx fun x => !decide (ahead x t))++t::l.drop (l.findIdx fun x => !decide (ahead x t))
end Go.Pev.Pl
end
section
namespace Go.Pev.Pl
def valid(N:Nat)(t:Tie):Prop:=0<=t.1/\t.1<t.2.1/\t.2.1<(N:Int)/\0<=t.2.2.1/\t.2.2.1<=Jz N
theorem ahead.trans{a b c:Tie}(h:ahead a b)(d:ahead b c):ahead a c:=by unfold ahead at *;omega
theorem R8(N:Nat)(a:List Tie):oks N a↔(∀ t∈a,valid N t)/\a.Pairwise ahead:=by
 constructor;intro h;have l:∀ i,i<a.length->PL N a i:=fun i hi=>h i (by grind);refine⟨fun t p => ?_,?_⟩;obtain⟨i,hi,rfl⟩:=AWw p;obtain⟨b,c,f,g,k,_⟩:=l i hi;simp only[AWd,AWC hi,AW6]at b c f g k;exact⟨b,c,f,g,k⟩;have m:∀ (d i:Nat),i+d+1<a.length->ahead (a.getD i zT) (a.getD (i+d+1) zT):=by
  intro d;induction d with
   |zero=>intro i hi;obtain⟨_,_,_,_,_,q⟩:=l (i+0+1) hi;grind
   |succ d r=>intro i hi;have n:=r i (by omega);obtain⟨_,_,_,_,_,q⟩:=l (i+(d+1)+1) hi;rcases q with q|q;omega;rw[show i+(d+1)+1-1=i+d+1 by omega]at q;exact n.trans q
 rw[AW0];intro i j hi o s;have:=m (j-i-1) i (by omega);grind;rintro⟨n,u⟩ i hi;have hi:i<a.length:=by grind
 have e:∀ j (o:j<a.length),a.getD j zT=a[j]:=fun j o=>by grind
 obtain⟨b,c,f,g,k⟩:=n a[i] (AWu hi);unfold PL;rw[e i hi];refine⟨b,c,f,g,k,?_⟩;by_cases v:i=0;omega;right;rw[e (i-1) (by omega)];exact(AW0.1 u) (i-1) i (by omega) hi (by omega)
theorem gV(l:List Tie)(t:Tie):(Zt l t).Perm (t::l):=by unfold Zt;refine List.perm_middle.trans ?_;simp
theorem AEv{l:List Tie}{t:Tie}(h:l.Pairwise ahead)(f:∀ x∈l,¬ (x.1=t.1/\x.2.1=t.2.1)):(Zt l t).Pairwise ahead:=by
 induction l with
  |nil=>simp[Zt]
  |cons a l g=>
   rw[AWr]at h;have i:=f a (by simp);have d:∀ x∈l,¬ (x.1=t.1/\x.2.1=t.2.1):=fun x b=>f x (by simp[b]);by_cases j:ahead a t
   ·have e:Zt (a::l) t=a::Zt l t:=by unfold Zt;grind
    rw[e,AWr];refine⟨fun x b => ?_,g h.2 d⟩;rcases AWO.1 ((gV l t).mem_iff.1 b)with rfl|b;all_goals grind
   have e:Zt (a::l) t=t::a::l:=by unfold Zt;grind
   have c:ahead t a:=by unfold ahead at *;omega
   rw[e,AWr,AWr];refine⟨fun x b => ?_,h.1,h.2⟩;rcases AWO.1 b with rfl|b;exact c;exact c.trans (h.1 x b)
end Go.Pev.Pl
end
section
namespace Go.Pev.Pl
theorem aQ(N:Nat)(l:List Edge)(x:Edge):x∈G0 N l↔0<=x.1/\x.1<x.2.1/\x.2.1<(N:Int)/\XV l x.1 x.2.1:=by unfold G0 pz;simp only[AYD,AWV,AWZ,AWS,AV4];constructor;grind;·obtain⟨a,b,⟨⟩⟩:=x;rintro⟨c,d,e,f⟩;simp only at c d e f;obtain⟨u,rfl⟩:=AV7 c;obtain⟨v,rfl⟩:=AV7 (show 0<=b by omega);refine⟨u,by omega,v-(u+1),⟨by omega,?_⟩,?_⟩;all_goals grind
def Gd(p x:Edge):Prop:=p.1<x.1\/(p.1=x.1/\p.2.1<x.2.1)
theorem WX(N:Nat)(l:List Edge):(G0 N l).Pairwise Gd:=by unfold G0;rw[List.pairwise_flatMap];refine⟨fun u _ => ?_,?_⟩;unfold pz;rw[AXW];refine AXv _ ?_;refine List.pairwise_lt_range.imp fun h => ?_;exact .inr ⟨rfl,by grind⟩;refine List.pairwise_lt_range.imp fun h x a y b => ?_;unfold pz at a b;simp only[AWV]at a b;obtain⟨i,_,rfl⟩:=a;obtain⟨j,_,rfl⟩:=b;exact .inl (by omega)
theorem O2(N:Nat)(a:List Tie)(l:List Edge)(x:Edge):x∈DA N a l↔(0<=x.1/\x.1<x.2.1/\x.2.1<(N:Int)/\XV l x.1 x.2.1)/\¬ x∈a.map ed:=by unfold DA;rw[AWZ,aQ];simp
theorem cj(N:Nat)(a:List Tie)(l:List Edge):(DA N a l).Pairwise Gd:=(WX N l).filter _
end Go.Pev.Pl
end
section
namespace Go.Pev.Pl
open Tok
instance (n v:Int):Decidable (In n v):=inferInstanceAs (Decidable (_/\_))
instance (n:Int):Decidable (Sz n):=inferInstanceAs (Decidable (_/\_))
end Go.Pev.Pl
end
section
namespace Go.Pev.Pl
instance (xs:List Int):Decidable (Rt xs):=inferInstanceAs (Decidable (_/\_/\_))
end Go.Pev.Pl
end
section
namespace Go.Pev.Pl
open Tok
noncomputable instance (n:Int) (xs:List Int):Decidable (TI n xs):=Classical.propDecidable _
end Go.Pev.Pl
end
section
namespace Go.Pev.Pl
open Tok
end Go.Pev.Pl
end
section
namespace Go.Pev.Pl
open Tok
end Go.Pev.Pl
end
section
namespace Go.Pev.Pl
open Tok
noncomputable instance (n:Int) (rings:List (List Int)):Decidable (RF n rings):=Classical.propDecidable _
noncomputable instance (n:Int) (xs:List Int):Decidable (RG n xs):=Classical.propDecidable _
end Go.Pev.Pl
end
end
section
section
namespace Go.Pev.Pl
open Tok
end Go.Pev.Pl
end
section
namespace Go.Pev.Pl
open Tok
end Go.Pev.Pl
end
section
namespace Go.Pev.Pl
open Tok
end Go.Pev.Pl
end
section
namespace Go.Pev.Pl
open Tok
theorem ABO(n:Int)(a:List (List Int))(v:Int)(b:Dom a):tof ((n,(a,())),v,())=some (if RF n a/\In n v then plc a v else -1,()):=by rw[AJY,AJZ];simp only[Xs,Lt n a b.1 b.2,Pz n a v b.1 (fun l c=>(b.2 l c).1)];grind
end Go.Pev.Pl
end
section
namespace Go.Pev.Pl
open Go.RowKit Tok
end Go.Pev.Pl
end
section
namespace Go.Pev.Pl
open Tok
end Go.Pev.Pl
end
section
namespace Go.Pev.Pl
open Tok
end Go.Pev.Pl
end
section
namespace Go.Pev.Pl
open Tok
end Go.Pev.Pl
end
section
namespace Go.Pev.Pl
open Tok
instance (n v:Int):Decidable (In n v):=inferInstanceAs (Decidable (_/\_))
instance (n:Int):Decidable (Sz n):=inferInstanceAs (Decidable (_/\_))
end Go.Pev.Pl
end
section
namespace Go.Pev.Pl
instance (xs:List Int):Decidable (Rt xs):=inferInstanceAs (Decidable (_/\_/\_))
end Go.Pev.Pl
end
section
namespace Go.Pev.Pl
open Tok
noncomputable instance (n:Int) (xs:List Int):Decidable (TI n xs):=Classical.propDecidable _
end Go.Pev.Pl
end
section
namespace Go.Pev.Pl
open Tok
noncomputable instance (n:Int) (rings:List (List Int)):Decidable (RF n rings):=Classical.propDecidable _
noncomputable instance (n:Int) (xs:List Int):Decidable (RG n xs):=Classical.propDecidable _
end Go.Pev.Pl
end
section
namespace Go.Pev.Pl
open Tok
end Go.Pev.Pl
end
section
namespace Go.Pev.Pl
open Tok
end Go.Pev.Pl
end
section
namespace Go.Pev.Pl
open Tok
end Go.Pev.Pl
end
section
namespace Go.Pev.Pl
open Tok
end Go.Pev.Pl
end
section
namespace Go.Pev.Pl
open Tok
theorem qA{N:Nat}(h:1<=N)(b:N<=64){a:List Tie}(i:a.length<=400)(e:oks N a){out:List Int}(f:Vw (N:Int) (trs a a.length) out):
  HT (((N:Int),(a,())),())=some (decide ((cnt out N:Int)=(N:Int)-(trs a a.length).length),()):=by
 have R:=Rw N b a i;rw[AWB e]at R;have c:=Yu b e;have g:=RY a a.length;obtain⟨k,j,c2⟩:=He (N:Int) (trs a a.length) ⟨by omega,by omega⟩ (by omega) c;have:=Vw.unique h b f c2;subst this;have d:out.length=N:=by have:=f.len;omega
 rw[Gw,Gx];simp only[BD,A6];rw[AV1 (show ¬ (N:Int)<1 by omega),AV1 (show ¬ 64<(N:Int) by omega),AV1 (show ¬ 400<(a.length:Int) by omega)];simp only[R,j,PU N b _ _ out d,BB];rw[BE (by omega)]
end Go.Pev.Pl
end
section
namespace Go.Pev.Pl
open Tok
end Go.Pev.Pl
end
section
namespace Go.Pev.Pl
open Tok
def Rg(x:Edge)(b:Bool):Tie:=(x.1,x.2.1,0,b,())
def oA(b:List Tie)(xs:List Edge)(c:List Bool)(k:Nat):List Tie:=(List.range k).foldl (fun a i=>Zt a (Rg (xs.getD i (0,0,())) (c.getD i false))) b
end Go.Pev.Pl
end
section
namespace Go.Pev.Pl
open Tok
def R_(xs:List Edge)(a:List Bool)(k:Nat):List Tie:=(List.range k).map fun i=>Rg (xs.getD i (0,0,())) (a.getD i false)
theorem jJ(b:List Tie)(xs:List Edge)(a:List Bool)(k:Nat):oA b xs a (k+1)=Zt (oA b xs a k) (Rg (xs.getD k (0,0,())) (a.getD k false)):=by unfold oA;rw[AWX,AXK];rfl
theorem jK(a:List Tie)(xs:List Edge)(b:List Bool):∀ k,(oA a xs b k).Perm (a++R_ xs b k):=by
 intro k;induction k with
  |zero=>simp[oA,R_]
  |succ k c=>rw[jJ];refine(gV _ _).trans ?_;unfold R_ at *;rw[AWX,AW3,<- AXX];grind
end Go.Pev.Pl
end
section
namespace Go.Pev.Pl
open Tok
theorem AOw{N:Nat}{c:List Tie}(h:oks N c)(g:0<=Jz N){xs:List Edge}(d:List Bool)(m:xs.Pairwise Gd)(n:∀ e∈xs,0<=e.1/\e.1<e.2.1/\e.2.1<(N:Int))(o:∀ e∈xs,¬ e∈c.map ed):oks N (oA c xs d xs.length):=by
 rw[R8]at h |-;obtain⟨x,p⟩:=h;have a:∀ i (hi:i<xs.length),xs.getD i (0,0,())=xs[i]:=fun i hi=>by grind
 have b:∀ k,k<=xs.length->∀ t∈oA c xs d k,t∈c\/∃ i,i<k/\t=Rg (xs.getD i (0,0,())) (d.getD i false):=by intro k q t f;rcases AWL.1 ((jK c xs d k).mem_iff.1 f)with h|h;grind;unfold R_ at h;grind
 refine⟨fun t f => ?_,?_⟩;rcases b _ (AV8 _) t f with h|⟨i,hi,rfl⟩
 grind;rw[a i hi];obtain⟨r,s,u⟩:=n xs[i] (AWu hi);exact⟨r,s,u,by show(0:Int)<=0;omega,g⟩;have v:∀ k,k<=xs.length->(oA c xs d k).Pairwise ahead:=by
  intro k;induction k with
   |zero=>intro _;exact p
   |succ k w=>
    intro q;rw[jJ];refine AEv (w (by omega)) fun t f => ?_;rw[a k (by omega)];rintro⟨j,l⟩;rcases b k (by omega) t f with h|⟨i,hi,rfl⟩
    refine o xs[k] (AWu (by omega)) (AWV.2 ⟨t,h,?_⟩);unfold ed;rw[j,l];rfl;rw[a i (by omega)]at j l;have:=(AW0.1 m) i k (by omega) (by omega) hi;unfold Gd at this;simp only[Rg]at j l;omega
 grind
end Go.Pev.Pl
end
section
namespace Go.Pev.Pl
open Tok
end Go.Pev.Pl
end
section
namespace Go.Pev.Pl
open Tok
end Go.Pev.Pl
end
end
section
section
namespace Go.Pev.Pl
open Tok
def AOs(N:Nat)(l:List Edge):Prop:=∀ e∈l,In (N:Int) e.1/\In (N:Int) e.2.1
theorem AIN(N:Nat)(a:N<=64)(b:List Tie)(l:List Edge):(DA N b l).length<=4096:=by unfold DA;exact AWx (AXD _ _) (Z0 N a l)
theorem AOB{N:Nat}(g:N<=64)(d:List Tie)(l:List Edge):∀ e∈DA N d l,In (N:Int) e.1/\In (N:Int) e.2.1:=by intro e f;obtain⟨⟨a,b,c,_⟩,_⟩:=(O2 N d l e).1 f;exact⟨⟨by omega,by omega,a,by omega⟩,⟨by omega,by omega,by omega,c⟩⟩
end Go.Pev.Pl
end
section
namespace Go.Pev.Pl
open Tok
theorem r6{N:Nat}(b:1<=N)(c:N<=64){a:Int}(h:0<=a/\a<(N:Int)):In (N:Int) a:=⟨by omega,by omega,h.1,h.2⟩
theorem lz{N:Nat}{e:Edge}(h:In (N:Int) e.1/\In (N:Int) e.2.1):InE N e:=⟨⟨h.1.2.2.1,h.1.2.2.2⟩,⟨h.2.2.2.1,h.2.2.2.2⟩⟩
theorem AUZ{N:Nat}(f:1<=N)(g:N<=64){l:List Edge}{out:List Int}(c:Vw (N:Int) l out):cnt out N=cc N l:=by
 unfold cnt cc;rw[List.countP_eq_length_filter];congr 1;refine AX5 fun k n => ?_;have n:k<N:=by grind
 have b:=r6 f g (a:=(k:Int)) ⟨by omega,by omega⟩;have o:out.getD k 0=cl out (k:Int):=by unfold cl;simp
 rw[o,AXa,AW2,AMR];constructor;intro h j s d;have:=c.least (k:Int) (j:Int) b (r6 f g ⟨by omega,by omega⟩) d.symm;omega;intro h;have p:=c.isin _ b;have i:=c.con _ b;have q:=c.least (k:Int) (k:Int) b b (.refl _);obtain⟨m,r⟩:=AV7 p.2.2.1;rw[r]at i q |-;by_cases e:m<k;exact absurd i.symm (h m e);omega
theorem Zn{N:Nat}(d:1<=N)(b:N<=64){a:List Tie}(g:a.length<=400)(e:oks N a):HT (((N:Int),(a,())),())=some (true,())↔Fo N (trs a a.length):=by have f:=RY a a.length;obtain⟨o,_,c⟩:=He (N:Int) (trs a a.length) ⟨by omega,by omega⟩ (by omega) (Yu b e);rw[qA d b g e c,AUZ d b c];unfold Fo;constructor;grind;intro h;rw[AV2 (by omega)]
theorem ARz(f:Edge->Edge):∀ (l b b':List Edge),(∀ p x s,l=p++x::s->VU (b++p) x.1 x.2.1=VU (b'++p.map f) (f x).1 (f x).2.1)->gfl b l=gfl b' (l.map f):=by
 intro l;induction l with
  |nil=>intro b b' _;rfl
  |cons x l c=>intro b b' h;rw[gfl,AWW,gfl];have a:=h [] x l rfl;simp only[AWk,AXS]at a;grind
theorem vi{N:Nat}(d:N<=64){c:Int->Int}{s:List Int}(f:UF N s c){u v:Nat}(h:u<N)(i:v<N):∃ a,pU (s,(u:Int),(v:Int),())=some (a,!decide (c (u:Int)=c (v:Int)),())/\UF N a (gQ c u v):=by obtain⟨a,b,e,g⟩:=fj d f h i;refine⟨a,?_,g⟩;rw[e];obtain⟨m,j,k,_⟩:=JD d f h;obtain⟨n,l,o,_⟩:=JD d k i;rw[ZK,Xw]at e;simp only[j,l,BB]at e;grind
theorem ml{N:Nat}(J:1<=N)(C:N<=64)(l:List Edge)(K:l.length<1073741824)(q:∀ e∈l,In (N:Int) e.1/\In (N:Int) e.2.1):
  ∃ s,OC (l,(List.range N).map (fun(k:Nat)=>(k:Int)),())=some (s,gfl [] l,()):=by
 rw[OB,Mh]
 have r:∀ (m i n:Nat) (s:List Int) (c:Int->Int),l.length-i=m->i<=l.length->m<n->UF N s c->dF N c (l.take i) ->
   ∃ t,BC Dh n (s,gfl [] (l.take i),l,A2 l,(i:Int),())=some (.inl (t,gfl [] l,())):=by
  intro m
  induction m with
  |zero=>
   intro i n s c D hi E z w
   obtain⟨n,rfl⟩:∃ k,n=k+1:=⟨n-1,by omega⟩
   have e:i=l.length:=by omega
   subst e
   rw[BC,Dh,A6,A3,AV1 (by omega),AWT]
   simp
  |succ m F=>
   intro i n s c D hi E z w
   obtain⟨n,rfl⟩:∃ k,n=k+1:=⟨n-1,by omega⟩
   have d:i<l.length:=by omega
   have G:l[i]? = some l[i]:=by simp
   obtain⟨A,B⟩:=q l[i] (AWu d)
   have f:=w l[i].1 l[i].2.1 A B
   obtain⟨_,_,H,L⟩:=A
   obtain⟨_,_,I,M⟩:=B
   obtain⟨u,j⟩:=AV7 H
   obtain⟨v,o⟩:=AV7 I
   obtain⟨t,e,g⟩:=vi C z (u:=u) (v:=v) (by omega) (by omega)
   have x:(l.take i).length=i:=by grind
   rw[BC,Dh,A6,A3,AV2 d]
   simp only[A' G,j,o,e,A6]
   rw[Bo (by rw[mQ,x];grind),A5 (by omega)]
   have p:l.take (i+1)=l.take i++[l[i]]:=AW1 d
   have y:BV (gfl [] (l.take i)) [!decide (c (u:Int)=c (v:Int))]=gfl [] (l.take (i+1)):=by
    rw[p,ANL,Dy,AWh]
    congr 2
    rw[j,o]at f |-
    congr 1
    rw[AXa,AW2,LZ]
    exact f
   rw[y]
   refine F (i+1) n t _ (by omega) (by omega) (by omega) g ?_
   rw[p]
   have:=w.snoc (e:=l[i]) (q l[i] (AWu d)).1 (q l[i] (AWu d)).2
   grind
 obtain⟨s,e⟩:=r l.length 0 many _ _ rfl (AXV _) (by simp only[many];omega) (uN N) (by intro a b _ _;rw[List.take_zero];exact⟨fun h=>by have h:a=b:=h;rw[h];exact .refl _,fun h=>h.nil⟩)
 have O:A8 Dh many ((List.range N).map (fun(k:Nat)=>(k:Int)),[],l,A2 l,(0:Int),())=_:=(BR _ _ _).trans e;grind
end Go.Pev.Pl
end
section
namespace Go.Pev.Pl
open Tok
theorem rZ{N:Nat}(j:1<=N)(d:N<=64)(a:List Tie)(f:a.length<=400)(h:oks N a)(g:Du (((N:Int),(a,())),())=some (true,())):
  ∃ b,MG (((N:Int),(a,())),(0:Int),())=some (((N:Int),(b,())),0,())/\FC (N:Int) b (trs a a.length):=by
 have k:=RY a a.length;rcases(mX (N:Int) (trs a a.length) ⟨by omega,by omega⟩ (by omega)).symm with⟨c,_⟩|⟨_,b,e,i⟩
 exact absurd (Yu d h) c;refine⟨b,?_,i⟩;rw[Qb,O3];simp only[g,AV6,aS a f h,e]
end Go.Pev.Pl
end
section
namespace Go.Pev.Pl.SE
open Go.Sort
def ok(_:Int×Int×Unit):Prop:=True
def okz:Int×Int×Unit:=(0,0,())
theorem QV:ok okz:=trivial
def lt(x y:Int×Int×Unit):Bool:=decide (x.1<y.1\/(x.1=y.1/\x.2.1<y.2.1))
theorem swo:SWO lt:=⟨fun x=>by simp[lt],fun x y z a b=>by simp only[lt,AV4]at *;omega,fun x y z a b=>by simp only[lt,AWY]at *;omega⟩
theorem OK(a b:Int):EJ (a,b,())=some (if a<b then -1 else if b<a then 1 else 0,()):=by rw[H3,HH,KG,L_,KG,L_];simp only[Cj,BD];grind
theorem or_val(a b:Int):orI ([a,b],())=some (if a=0 then b else a,()):=by
 obtain⟨m,k⟩:∃ m,many=m+3:=⟨many-3,by simp only[many]⟩
 rw[lD,rI,BR,k];have c:idx [a,b] (0:Int)=some a:=by rw[idx_eq];rfl
 have d:idx [a,b] (1:Int)=some b:=by rw[idx_eq];rfl
 have e:A2 [a,b]=(2:Int):=rfl;have f:w64 ((0:Int)+1)=1:=by rw[BE (by omega)];rfl
 have g:w64 ((1:Int)+1)=2:=by rw[BE (by omega)];rfl
 have h:ilt (0:Int) 2=true:=by rw[BD];rfl
 have i:ilt (1:Int) 2=true:=by rw[BD];rfl
 have c2:ilt (2:Int) 2=false:=by rw[BD];rfl
 by_cases j:a=0;subst j;by_cases l:b=0;subst l;have z:ieq (0:Int) 0=true:=by rw[Cj];rfl
 simp only[BC,Kb,e,c,d,f,g,h,i,c2,z,AV6,AWf];have:ieq b 0=false:=by rw[Cj];grind
 have z:ieq (0:Int) 0=true:=by rw[Cj];rfl
 simp only[BC,Kb,e,c,d,f,g,h,i,c2,z,this,AV6,AWR,AWf];have:ieq a 0=false:=by rw[Cj];grind
 simp only[BC,Kb,e,c,d,f,g,h,i,c2,this,j,AWR,AWN]
end Go.Pev.Pl.SE
end
section
namespace Go.Pev.Pl.ST
open Go.Sort
def ok(_:Int×Int×Int×Bool×Unit):Prop:=True
def okz:Int×Int×Int×Bool×Unit:=(0,0,0,false,())
theorem QV:ok okz:=trivial
def lt(x y:Int×Int×Int×Bool×Unit):Bool:=decide (x.1<y.1\/(x.1=y.1/\x.2.1<y.2.1))
theorem swo:SWO lt:=⟨fun x=>by simp[lt],fun x y z a b=>by simp only[lt,AV4]at *;omega,fun x y z a b=>by simp only[lt,AWY]at *;omega⟩
theorem OK(a b:Int):EJ (a,b,())=some (if a<b then -1 else if b<a then 1 else 0,()):=by rw[H3,HH,KG,L_,KG,L_];simp only[Cj,BD];grind
theorem or_val(a b:Int):orI ([a,b],())=some (if a=0 then b else a,()):=by
 obtain⟨m,k⟩:∃ m,many=m+3:=⟨many-3,by simp only[many]⟩
 rw[lD,rI,BR,k];have c:idx [a,b] (0:Int)=some a:=by rw[idx_eq];rfl
 have d:idx [a,b] (1:Int)=some b:=by rw[idx_eq];rfl
 have e:A2 [a,b]=(2:Int):=rfl;have f:w64 ((0:Int)+1)=1:=by rw[BE (by omega)];rfl
 have g:w64 ((1:Int)+1)=2:=by rw[BE (by omega)];rfl
 have h:ilt (0:Int) 2=true:=by rw[BD];rfl
 have i:ilt (1:Int) 2=true:=by rw[BD];rfl
 have c2:ilt (2:Int) 2=false:=by rw[BD];rfl
 by_cases j:a=0;subst j;by_cases l:b=0;subst l;have z:ieq (0:Int) 0=true:=by rw[Cj];rfl
 simp only[BC,Kb,e,c,d,f,g,h,i,c2,z,AV6,AWf];have:ieq b 0=false:=by rw[Cj];grind
 have z:ieq (0:Int) 0=true:=by rw[Cj];rfl
 simp only[BC,Kb,e,c,d,f,g,h,i,c2,z,this,AV6,AWR,AWf];have:ieq a 0=false:=by rw[Cj];grind
 simp only[BC,Kb,e,c,d,f,g,h,i,c2,this,j,AWR,AWN]
end Go.Pev.Pl.ST
end
section
namespace Go.Pev.Pl
open Tok
section
variable {α β:Type} [DecidableEq α]
theorem PZ(c:List (α×β))(k:α)(v:β)(j:α):A_ (BG c k v) j=if j=k then some v else A_ c j:=by
 induction c with
  |nil=>simp only[BG,A_];grind
  |cons e c d=>obtain⟨a,b⟩:=e;simp only[BG];by_cases h:a=k;subst h;simp only[AWf,A_];grind;simp only[h,AWN,A_,d];grind
end
def nrm(x:Edge):Edge:=(min x.1 x.2.1,max x.1 x.2.1,())
def XL(n:Int)(x:Edge)(a:List (Edge×Int)×List Edge):(List (Edge×Int)×List Edge)⊕((Int×Unit)⊕(List Edge×Unit)⊕Unit):=
 if(nrm x).1<0\/n<=(nrm x).2.1 then .inr (.inl (10,()))else
 if(nrm x).1<(nrm x).2.1/\(A_ a.1 (nrm x)).getD 0=0 then .inl (BG a.1 (nrm x) 1,a.2++[nrm x])else .inl a
theorem AFz(n:Int)(d:List Edge):∀ (l:List Edge) (m:List (Edge×Int)) (b:List Edge),(∀ x∈l,0<=(nrm x).1/\(nrm x).2.1<n)->b.Nodup->(∀ k,(A_ m k).getD 0=if k∈d\/k∈b then 1 else 0) ->
  ∃ ys,walk (XL n) (fun a=>(.inr (.inl (a.2,())):(Int×Unit)⊕(List Edge×Unit)⊕Unit)) l (m,b) = .inr (.inl (ys,()))/\ys.Nodup/\(∀ k,k∈ys↔k∈b\/(k∉d/\k.1<k.2.1/\∃ x∈l,nrm x=k))/\ys.length<=b.length+l.length:=by
 intro l;induction l with
  |nil=>intro m b _ g _;exact⟨b,rfl,g,fun k=>by simp,by simp⟩
  |cons x l p=>
   intro m b c g q;obtain⟨v,w⟩:=c x (by simp);rw[walk];have f:XL n x (m,b)=if(nrm x).1<(nrm x).2.1/\(A_ m (nrm x)).getD 0=0 then .inl (BG m (nrm x) 1,b++[nrm x])else .inl (m,b):=by unfold XL;grind
   by_cases i:(nrm x).1<(nrm x).2.1/\(A_ m (nrm x)).getD 0=0;rw[f,AWB i];have r:=q (nrm x);rw[i.2]at r;have s:¬ (nrm x∈d\/nrm x∈b):=fun h=>by grind
   obtain⟨ys,e,j,t,u⟩:=p (BG m (nrm x) 1) (b++[nrm x]) (fun y o=>c y (by simp[o]))
    (by
     grind)
    (fun k=>by
     rw[PZ]
     grind)
   refine⟨ys,e,j,fun k => ?_,by grind⟩;grind;rw[f,AV9 i];obtain⟨ys,e,j,t,u⟩:=p m b (fun y o=>c y (by simp[o])) g q;refine⟨ys,e,j,fun k => ?_,by grind⟩;grind
theorem lI(n:Int):∀ (l:List Edge) (a:List (Edge×Int)×List Edge),¬ (∀ x∈l,0<=(nrm x).1/\(nrm x).2.1<n) ->
  walk (XL n) (fun a=>(.inr (.inl (a.2,())):(Int×Unit)⊕(List Edge×Unit)⊕Unit)) l a = .inl (10,()):=by
 intro l;induction l with
  |nil=>simp
  |cons x l d=>
   intro a h;rw[walk];by_cases e:(nrm x).1<0\/n<=(nrm x).2.1;unfold XL;grind;have b:¬ (∀ x∈l,0<=(nrm x).1/\(nrm x).2.1<n):=fun b=>h fun y f=>by grind
   have c:XL n x a = .inl (if(nrm x).1<(nrm x).2.1/\(A_ a.1 (nrm x)).getD 0=0 then(BG a.1 (nrm x) 1,a.2++[nrm x])else a):=by unfold XL;grind
   grind
theorem vh{xs ys c:List Edge}(e:ys.Perm xs)(f:ys.Pairwise (fun x y=>SE.lt y x=false))(g:c.Pairwise Gd)(d:xs.Perm c):ys=c:=by refine AXh (le:=fun x y=>SE.lt y x=false) ?_ f ?_ (e.trans d);intro a b _ _ i j;simp only[SE.lt,AWY]at i j;grind;refine g.imp fun h => ?_;unfold Gd at h;simp only[SE.lt,AWY];omega
end Go.Pev.Pl
end
section
namespace Go.Pev.Pl
open Tok
theorem WG{N:Nat}(a:N<=64):0<=Jz N:=by
 have:((List.range 65).all fun k=>decide (0<=Jz k))=true:=by kernel_rfl
 grind
noncomputable def grown(N:Nat)(a:List Tie)(l:List Edge):List Tie:=oA a (DA N a l) (gfl (trs a a.length) (DA N a l)) (DA N a l).length
theorem bZ(N:Nat)(a:List Tie)(l:List Edge):(grown N a l).Perm (a++R_ (DA N a l) (gfl (trs a a.length) (DA N a l)) (DA N a l).length):=jK ..
theorem AHC{N:Nat}(g:N<=64){d:List Tie}(h:oks N d)(l:List Edge):oks N (grown N d l):=
 AOw h (WG g) _ (cj N d l) (fun e f=>by obtain⟨⟨a,b,c,_⟩,_⟩:=(O2 N d l e).1 f;omega) (fun e f=>((O2 N d l e).1 f).2)
structure RG2(N:Nat)(ts:List Tie):Prop where
 h1:1<=N
 hN:N<=64
 ht:ts.length<=400
 oks:oks N ts
 fo:Fo N (trs ts ts.length)
theorem RG2.r21{N:Nat}{a:List Tie}(h:RG2 N a):HT (((N:Int),(a,())),())=some (true,()):=(Zn h.h1 h.hN h.ht h.oks).2 h.fo
theorem RG2.lr{N:Nat}{a:List Tie}(h:RG2 N a):Du (((N:Int),(a,())),())=some (true,()):=by obtain⟨b,c,d,_⟩:=RA (N:Int) a (by have:=h.ht;omega);rw[h.r21]at c;grind
theorem Ox(n:Int)(a:List Tie)(g:a.length<4611686018427387904):(HT ((n,(a,())),())=some (false,())/\Du ((n,(a,())),())=some (false,()))\/∃ N:Nat,n=(N:Int)/\RG2 N a:=by obtain⟨b,h,j,i⟩:=RA n a g;cases b;grind;obtain⟨N,rfl,c,d,e,f⟩:=i rfl;exact .inr ⟨N,rfl,c,d,e,f,(Zn c d e f).1 h⟩
theorem RG2.inE{N:Nat}{a:List Tie}(h:RG2 N a):∀ e∈a.map ed,In (N:Int) e.1/\In (N:Int) e.2.1:=AUV h.hN h.oks
theorem RG2.inT{N:Nat}{a:List Tie}(h:RG2 N a):∀ e∈trs a a.length,In (N:Int) e.1/\In (N:Int) e.2.1:=Yu h.hN h.oks
theorem RG2.AVl{N:Nat}{a:List Tie}(h:RG2 N a):(trs a a.length).length<=400:=by have:=RY a a.length;have:=h.ht;omega
theorem vg{N:Nat}{xs ys c:List Tie}(l:ys.Perm xs)(m:ys.Pairwise (fun x y=>ST.lt y x=false))(d:c.Pairwise ahead)(e:xs.Perm c):ys=c:=by
 have f:∀ a∈c,∀ b∈c,a.1=b.1->a.2.1=b.2.1->a=b:=by intro a g b k q r;refine AX9 fun n => ?_;obtain⟨i,hi,rfl⟩:=AWw g;obtain⟨j,s,rfl⟩:=AWw k;rw[AW0]at d;unfold ahead at d;grind
 refine AXh (le:=fun x y=>ST.lt y x=false) ?_ m ?_ (l.trans e);intro a b g k o p;simp only[ST.lt,AWY]at o p;grind;refine d.imp fun h => ?_;unfold ahead at h;simp only[ST.lt,AWY];omega
theorem AFy(xs:List Edge)(a:List Bool)(k:Nat):R_ xs a (k+1)=R_ xs a k++[Rg (xs.getD k (0,0,())) (a.getD k false)]:=by unfold R_;rw[AWX,AW3];rfl
end Go.Pev.Pl
end
section
namespace Go.Pev.Pl
open Tok
def GK(u v:Int)(t:Tie):Bool:=decide (t.1=min u v/\t.2.1=max u v)
end Go.Pev.Pl
end
end
section
namespace Go.Pev.Pl
open Tok
theorem AJR(a:List Tie)(t:Tie)(k:Int):trk (a++[t]) k=trk a k++if t.2.2.2.1=true/\k<=t.2.2.1 then [ed t]else []:=by rw[u5];congr 1;unfold trk;rw[AYq];by_cases h:t.2.2.2.1=true/\k<=t.2.2.1;rw[AWB h,h.1,AV2 h.2];rfl;rw[AV9 h,AV9];rfl;rw[AV5,AV4];exact h
theorem AJS(k:Int):∀ (c a:List Tie) (b:List Edge),b=trk a k->c.foldl (fun b t=>if t.2.2.2.1=true/\k<=t.2.2.1 then b++[ed t]else b) b=trk (a++c) k:=by
 intro c;induction c with
  |nil=>intro a b h;simpa using h
  |cons t c d=>intro a b h;rw[AXA,d (a++[t])];simp;rw[AJR,<- h];split<;>simp
theorem APQ(a:List Tie)(k:Int):(trk a k).length<=a.length:=by unfold trk;rw[AWQ];exact AXD _ _
theorem APP(a:List Tie)(k:Int):∀ e∈trk a k,e∈a.map ed:=by intro e b;obtain⟨t,c,_,_,rfl⟩:=AQ0.1 b;exact AWV.2 ⟨t,c,rfl⟩
theorem AMK(n:Int)(b:List Tie)(h:b.length<=400)(k:Int):UI ((n,(b,())),k,())=some (trk b k,()):=by
 rw[UH,SD]
 have e:=DS (step:=Ez) (fun i (a:List Edge)=>(k,a,b,A2 b,(i:Int),())) b (fun t a=>.inl (if t.2.2.2.1=true/\k<=t.2.2.1 then a++[ed t]else a)) (fun a=>.inl (a,())) (fun i a=>a.length<=i) (by omega)
  (fun i x a hi f j=>by
   refine⟨fun l c => ?_,fun r c=>(by cases c)⟩
   cases c
   constructor
   ·rw[Ez,A6,A3,AV2 hi]
    simp only[A' f,A6]
    rw[A5 (by omega),BM,Bo (by simp only[AWD,AWK];omega)]
    cases m:x.2.2.2.1
    ·simp
    ·by_cases d:k<=x.2.2.1
     ·simp[d,ed,BV]
     ·simp[d]
   ·split
    ·rw[AWF];simp;omega
    ·omega)
  (fun a _=>by rw[Ez,A6,A3,AV1 (by omega)]) [] (AV8 _)
 have g:A8 Ez many (k,[],b,A2 b,(0:Int),())=_:=e;simp only[g];rw[B' (fun(t:Tie) (a:List Edge)=>if t.2.2.2.1=true/\k<=t.2.2.1 then a++[ed t]else a),AJS k b [] [] rfl];rfl
theorem RG2.inK{N:Nat}{a:List Tie}(h:RG2 N a)(k:Int):∀ e∈trk a k,In (N:Int) e.1/\In (N:Int) e.2.1:=fun e b=>h.inE e (APP a k e b)
theorem RG2.AVt{N:Nat}{a:List Tie}(h:RG2 N a)(k:Int):(trk a k).length<=400:=AWx (APQ a k) h.ht
theorem RG2.AUN{N:Nat}{a:List Tie}(h:RG2 N a)(k:Int):∃ b,MG (((N:Int),(a,())),k,())=some (((N:Int),(b,())),0,())/\FC (N:Int) b (trk a k):=by
 have f:=h.AVt k;have g:=h.h1;have i:=h.hN;rcases(mX (N:Int) (trk a k) ⟨by omega,by omega⟩ (by omega)).symm with⟨c,_⟩|⟨_,b,e,d⟩
 exact absurd (h.inK k) c;refine⟨b,?_,d⟩;rw[Qb,O3];simp only[h.lr,AV6,AMK (N:Int) a h.ht k,e]
noncomputable def AK0(p:Prop):Bool:=@decide p (Classical.propDecidable _)
theorem gW(p:Prop):AK0 p=true↔p:=by unfold AK0;exact @decide_eq_true_iff _ (Classical.propDecidable _)
theorem RG2.tie{N:Nat}{a:List Tie}(h:RG2 N a){t:Tie}(c:t∈a):In (N:Int) t.1/\In (N:Int) t.2.1/\t.1<t.2.1/\0<=t.2.2.1/\t.2.2.1<=Jz N:=by have b:=((R8 N a).1 h.oks).1 t c;have d:=h.inE (ed t) (AWV.2 ⟨t,c,rfl⟩);exact⟨d.1,d.2,b.2.1,b.2.2.2.1,b.2.2.2.2⟩
def jw(N:Nat):Nat:=(Jz N).toNat
theorem ABM{N:Nat}(a:N<=64):Jz N=(jw N:Int):=by have:=WG a;unfold jw;omega
theorem APR{N:Nat}(a:N<=64):jw N<64:=by
 have:((List.range 65).all fun k=>decide (Jz k<64))=true:=by kernel_rfl
 have b:=AYk (AWU.1 this N (by simp;omega));have:=ABM a;omega
theorem YV(N:Nat)(l:List Edge)(v:Int):csz N l v<=N:=by unfold csz;have:=List.countP_le_length (p:=fun(w:Nat)=>VU l v (w:Int)) (l:=List.range N);rw[AWJ]at this;exact this
theorem AJA(n:Nat)(h:n<18446744073709551616):IntKind.wrap .u64 (n:Int)=(n:Int):=IntWalk.u64_in _ (by omega)
noncomputable def JR(N:Nat)(l:List Edge)(v:Int):List Int:=((List.range N).filter fun(w:Nat)=>VU l v (w:Int)).map fun(w:Nat)=>(w:Int)
theorem SC(N:Nat)(l:List Edge)(v:Int):(JR N l v).length=csz N l v:=by unfold JR csz;grind
theorem rR{N:Nat}{l:List Edge}{v x:Int}:x∈JR N l v↔(0<=x/\x<(N:Int))/\Con l v x:=by unfold JR;simp only[AWV,AWZ,AWS,LZ];constructor;grind;rintro⟨⟨a,b⟩,c⟩;obtain⟨w,rfl⟩:=AV7 a;grind
noncomputable def CY(N:Nat)(a:List Tie)(u v k:Int):List Int:=
 if AK0 (RG2 N a)=true then
  if VU (trk a k) u v=true then []else
  if csz N (trk a k) u<csz N (trk a k) v\/(csz N (trk a k) u=csz N (trk a k) v/\(JR N (trk a k) u).headD 0<(JR N (trk a k) v).headD 0)then JR N (trk a k) u else JR N (trk a k) v
 else []
theorem AEK(N:Nat)(a:List Tie)(u v k:Int):(CY N a u v k).length<=N:=by unfold CY;have b:=YV N (trk a k) u;have c:=YV N (trk a k) v;split;split;simp;split;rw[SC];exact b;rw[SC];exact c;simp
theorem gl{N:Nat}{l:List Edge}{v:Nat}(c:v<N):idx (JR N l (v:Int)) (0:Int)=some ((JR N l (v:Int)).headD 0):=by
 have:(v:Int)∈JR N l (v:Int):=rR.2 ⟨⟨by omega,by omega⟩,.refl _⟩;cases d:JR N l (v:Int)with
  |nil=>grind
  |cons a b=>rw[Ht];rfl
theorem jf{α:Type}{A R:List α}{x:α}{i:Nat}(h:A.length=i):(A++x::R)[i]? = some x:=by grind
theorem je{α:Type}{A R:List α}{x y:α}{i:Nat}(h:A.length=i):Bc (A++x::R) (A4 (i:Int)) y=A++y::R:=by rw[DO,List.set_append_right _ _ (by omega),h,AXT];rfl
noncomputable def Bi(s:List Int)(w:Int):Bool:=decide (w∈s)
def OM(S:Int->Bool)(i:Int)(a:List Tie):Nat:=a.countP fun t=>t.2.2.2.1&&(decide (t.2.2.1=i)&&both S t)
noncomputable def ZH(N u v:Nat)(top:Int):Nat->List Tie->Nat->List Tie×Option Edge×Nat
 |0,O,r=>(O,none,r)
 |i+1,O,r=>match(CZ (Bi (CY N O u v i)) top i (O.map (rT (Bi (CY N O u v i)) top i))).2.2 with
  |some e=>((CZ (Bi (CY N O u v i)) top i (O.map (rT (Bi (CY N O u v i)) top i))).1,some e,r+OM (Bi (CY N O u v i)) i O+(CZ (Bi (CY N O u v i)) top i (O.map (rT (Bi (CY N O u v i)) top i))).2.1)
  |none=>ZH N u v top i (CZ (Bi (CY N O u v i)) top i (O.map (rT (Bi (CY N O u v i)) top i))).1 (r+OM (Bi (CY N O u v i)) i O+(CZ (Bi (CY N O u v i)) top i (O.map (rT (Bi (CY N O u v i)) top i))).2.1)
theorem gi(S:Int->Bool)(top i:Int):∀ a:List Tie,(CZ S top i a).1.length=a.length/\(CZ S top i a).2.1<=a.length:=by
 intro a;induction a with
  |nil=>exact⟨rfl,AV8 _⟩
  |cons t a b=>rw[CZ];grind
theorem ACx(S:Int->Bool)(i:Int)(a:List Tie):OM S i a<=a.length:=List.countP_le_length
def AUy(a:Bool)(f:Option Edge)(r:Nat):Bool×Bool×Edge×Int×Unit:=(a,f.isSome,((f.getD (0,0,())).1,((f.getD (0,0,())).2.1,())),(r:Int),())
def AJD:Bool×Bool×Edge×Int×Unit:=(false,(false,(((0:Int),((0:Int),())),((0:Int),()))))
noncomputable def iG(N:Nat)(a:List Tie)(p:Nat)(t:Tie):List Tie×Option Edge×Nat:=
 if t.2.2.2.1=true then ZH N t.1.toNat t.2.1.toNat (jw N:Int) (t.2.2.1.toNat+1) (a.take p++a.drop (p+1)) 0 else(a.take p++a.drop (p+1),none,0)
theorem RG2.edP{N:Nat}{a:List Tie}(h:RG2 N a):(a.map ed).Pairwise Gd:=by rw[AXW];exact((R8 N a).1 h.oks).2
theorem RG2.AVv{N:Nat}{a:List Tie}(h:RG2 N a):∀ e∈a.map ed,e.1<e.2.1:=by intro e b;obtain⟨t,c,rfl⟩:=AWV.1 b;exact(h.tie c).2.2.1
noncomputable def Pk(N:Nat)(a:List Tie)(l:List Edge):List Edge:=(G0 N l).filter fun x=>decide (x∈a.map ed)
theorem zM(N:Nat)(a:List Tie)(l:List Edge):(Pk N a l).Pairwise Gd:=(WX N l).filter _
theorem iH(N:Nat)(a:N<=64)(b:List Tie)(l:List Edge):(Pk N b l).length<=4096:=AWx (AXD _ _) (Z0 N a l)
section
variable {N top:Nat} {ts w:List Tie} (hp:w.Perm ts) (hi:∀ x∈ts,InE N (ed x)) (hl:∀ t∈ts,0<=t.2.2.1/\t.2.2.1<=(top:Int)) (hfo:Fo N (trk ts 0)) (hlie:∀ x∈ts,x.2.2.2.1=false->Con (trk ts x.2.2.1) x.1 x.2.1)
include hp hi
include hl hfo hlie
end
def lvl(a:List Tie)(k:Int):List Tie:=a.filter fun t=>decide (t.2.2.1=k)
section
variable (n:Int) (ts:List Tie)
end
def mid(f:Int->Int)(xs:List Int)(i:Nat):List Int:=(xs.take i).map f++xs.drop i
def lb(a:List Int)(v:Int):Int:=a.getD v.toNat 0
section
variable {α β:Type} [DecidableEq α]
theorem aY(b:List (α×β))(k:α)(v:β)(j:α):A_ (BG b k v) j=if j=k then some v else A_ b j:=by
 induction b with
  |nil=>simp only[BG,A_];by_cases h:j=k;rw[AWB h,AWB h.symm];rw[AV9 h,AV9 (AXx h)]
  |cons e b d=>obtain⟨a,x⟩:=e;by_cases c:a=k;subst c;simp only[BG,A_,AWf];by_cases h:j=a;rw[AWB h,AWB h.symm];rw[AV9 h,AV9 (AXx h),AV9 (AXx h)];simp only[BG,A_,c,AWN,d];by_cases h:a=j;subst h;rw[AWB rfl,AV9 c,AWB rfl];rw[AV9 h,AV9 h]
theorem gY:∀ (c:List (α×β)) (k:α),E_ c k=none->∀ v,BG c k v=c++[(k,v)]:=by
 intro c;induction c with
  |nil=>intro k _ v;rfl
  |cons e c f=>intro k h v;obtain⟨a,b⟩:=e;by_cases d:a=k;simp[E_,d]at h;simp only[E_,d,AWN,AYl]at h;simp only[BG,d,AWN,f k h v,AWa]
theorem gX:∀ (c:List (α×β)) (k:α) (n:Nat),E_ c k=some n->∀ v,n<c.length/\BG c k v=c.modify n fun e=>(e.1,v):=by
 intro c;induction c with
  |nil=>intro k n h;simp[E_]at h
  |cons e c f=>intro k n h v;obtain⟨a,b⟩:=e;by_cases d:a=k;simp only[E_,d,AWf,AV3]at h;subst h;simp[BG,d];simp only[E_,d,AWN,AWE]at h;obtain⟨m,g,rfl⟩:=h;obtain⟨j,i⟩:=f k m g v;simp only[BG,d,AWN,AWD];exact⟨by omega,by rw[i];rfl⟩
theorem yO(a:List (α×β))(k:α)(z v:β):(ile (0:Int) (R1 a k)&&ilt (R1 a k) (A2 (BG a k z)))=true/\rN (BG a k z) (R1 a k) v=BG a k v:=by
 rw[BM,BD];unfold R1 rN;cases h:E_ a k with
  |none=>
   rw[gY a k h,gY a k h,Option.getD_none,AW8];constructor;rw[AV2 (by omega),AV2 (by rw[A6,AWF];simp;omega)];rfl;have:∀ (xs:List (α×β)),(xs++[(k,z)]).modify xs.length (fun e=>(e.1,v))=xs++[(k,v)]:=by
    intro xs;induction xs with
     |nil=>rfl
     |cons x xs b=>rw[AWa,AWD,List.modify_succ_cons,b];rfl
   exact this a
  |some n=>
   obtain⟨f,c⟩:=gX a k n h z;obtain⟨_,d⟩:=gX a k n h v;rw[c,d,AW6,AW8];constructor;rw[AV2 (by omega),AV2 (by rw[A6,List.length_modify];omega)];rfl;apply AWp;intro i;simp only[List.getElem?_modify];cases a[i]? with
    |none=>split<;>rfl
    |some e=>split<;>rfl
end
theorem SM(p x:Tie):GJ (p,x,())=some (if ahead p x then -1 else if p.1=x.1/\p.2.1=x.2.1 then 0 else 1,()):=by rw[Nr,MH];simp only[Mn,lC];congr 2;unfold Q7 ahead;omega
theorem AOg{a:List Tie}(I:a.length<=400)(B:a.Pairwise ahead)(g:Tie):∃ k:Nat,k<=a.length/\(∀ j t,a[j]? = some t->(j<k↔ahead t g)) /\
  AOh (a,g,())=some ((k:Int),match a[k]? with|some t=>decide (t.1=g.1/\t.2.1=g.2.1)|none=>false,()):=by
 have p:∀ (i j:Nat) (t t':Tie),i<=j->a[i]? = some t->a[j]? = some t'->ahead t' g->ahead t g:=by intro i j t t' o z A C;by_cases e:i=j;grind;have r:=(AWH.1 A).1;have hi:=(AWH.1 z).1;have:=AW0.1 B i j hi r (by omega);rw[(AWH.1 z).2,(AWH.1 A).2]at this;exact this.trans C
 obtain⟨b,c,d,f,⟨⟩⟩:=g
 obtain⟨k,_,D,J,K,E⟩:=AVw (step:=TJ) (fun i j=>(a,b,c,d,f,(a.length:Int),(i:Int),(j:Int),())) (fun i=>match a[i]? with|some t=>decide (ahead t (b,c,d,f,()))|none=>false)
  (fun i=>.inl (a,b,c,d,f,(a.length:Int),(i:Int),())) 0 a.length (AXV _) (by omega)
  (fun i j _ o r=>by
   have F:(i+j)/2<a.length:=by omega
   have m:a[(i+j)/2]? = some a[(i+j)/2]:=by simp[F]
   have G:shr? .u64 (((i+j:Nat)):Int) (1:Int)=some (((i+j)/2:Nat):Int):=Xx (i+j) 1 (by omega)
   rw[TJ,A3,AV2 o]
   simp only[]
   rw[show((i:Int)+(j:Int))=((i+j:Nat):Int) by omega,BE (n:=((i+j:Nat):Int)) (by omega),AJA (i+j) (by omega)]
   simp only[G,BE (n:=(((i+j)/2:Nat):Int)) (by omega),A' m]
   have s:=SM a[(i+j)/2] (b,c,d,f,())
   have l:GJ (((a[(i+j)/2]).1,((a[(i+j)/2]).2.1,((a[(i+j)/2]).2.2.1,((a[(i+j)/2]).2.2.2.1,())))),(b,(c,(d,(f,())))),())=_:=s
   simp only[l,m]
   by_cases q:ahead a[(i+j)/2] (b,c,d,f,())
   ·simp only[AWB q,AV2 q,AWf]
    rw[BD,AV2 (by omega),A5 (by omega)]
   ·simp only[AV9 q,AV1 q]
    rw[BD,AV1 (by omega)]
    rfl)
  (fun i _ _=>by rw[TJ,A3,AV1 (by omega)])
  (fun x y _ H L h=>by
   grind)
 refine⟨k,D,fun j t r => ?_,?_⟩;grind;rw[AC0,AA2];have u:A8 TJ many (a,b,c,d,f,A2 a,(0:Int),A2 a,())=_:=E;simp only[u];by_cases v:k<a.length;have m:a[k]? = some a[k]:=by simp[v]
 have w:¬ ahead a[k] (b,c,d,f,()):=by grind
 have s:=SM a[k] (b,c,d,f,());have l:GJ (((a[k]).1,((a[k]).2.1,((a[k]).2.2.1,((a[k]).2.2.2.1,())))),(b,(c,(d,(f,())))),())=_:=s;rw[A3,AV2 v];simp only[A' m,l,m,AV9 w,BB];simp;have m:a[k]? = none:=AXM (by omega);rw[A3,AV1 v];grind
theorem AGk{N:Nat}{a:List Tie}(h:RG2 N a)(u v:Int):ACT (((N:Int),(a,())),u,v,())=some (if a.any (GK u v)then((a.findIdx (GK u v):Nat):Int)else -1,()):=by
 have r:=((R8 N a).1 h.oks).2;obtain⟨k,A,m,w⟩:=AOg h.ht r (min u v,max u v,0,false,());rw[re,lQ];simp only[h.lr,AV6,gu,aW,KL,O7];have n:AOh (a,(min u v,(max u v,((0:Int),(false,())))),())=_:=w;simp only[n];cases o:a[k]? with
  |none=>
   have l:a.any (GK u v)=false:=by
    rw[List.any_eq_false];intro t x b;obtain⟨j,i,rfl⟩:=AWw x;have d:a[j]? = some a[j]:=by simp[i]
    have c:j<k:=by grind
    have e:=(m j _ d).1 c;unfold GK at b;rw[AW2]at b;unfold ahead at e;grind
   grind
  |some t=>
   by_cases B:t.1=min u v/\t.2.1=max u v;have y:=(AWH.1 o)
   obtain⟨f,g⟩:=y;have b:GK u v t=true:=by unfold GK;grind
   have s:a.any (GK u v)=true:=AYT.2 ⟨t,AWA o,b⟩;have z:a.findIdx (GK u v)=k:=by
    rw[List.findIdx_eq f,g];refine⟨b,fun j i => ?_⟩;have d:a[j]? = some a[j]:=by simp
    have e:=(m j _ d).1 i;unfold GK;rw[AWY];unfold ahead at e;grind
   grind;have l:a.any (GK u v)=false:=by
    rw[List.any_eq_false];intro t' p b;obtain⟨j,i,rfl⟩:=AWw p;have d:a[j]? = some a[j]:=by simp[i]
    unfold GK at b;rw[AW2]at b;obtain⟨f,g⟩:=AWH.1 o;rcases Nat.lt_trichotomy j k with c|c|c;have e:=(m j _ d).1 c;unfold ahead at e;grind;grind;have e:=AW0.1 r k j f i c;rw[g]at e;have q:¬ ahead t (min u v,max u v,0,false,()):=fun C=>by grind
    unfold ahead at e q;grind
   grind
end Go.Pev.Pl
end
section
namespace Go.Pev.Pl.SI
open Go.Sort
def ok(_:Int):Prop:=True
def lt(x y:Int):Bool:=decide (x<y)
theorem swo:SWO lt:=⟨fun x=>by simp[lt],fun x y z a b=>by simp only[lt,AV4]at *;omega,fun x y z a b=>by simp only[lt,AWY]at *;omega⟩
theorem AQ5{x y:Int}(_:ok x)(_:ok y):∃ r,C2 (x,y,())=some (r,())/\tId r=lt x y:=by refine⟨decide (x<y),?_,rfl⟩;rw[rh,lR];simp only[KG,L_,BD,Cj];by_cases h:x<y<;>simp[h]
noncomputable def S:SG.SP Int Bool:=⟨(0:Int),C2,tId,ok,0,trivial,lt,swo,fun a b=>AQ5 a b⟩
def sorted(xs:List Int):List Int:=xs.mergeSort (fun x y=>decide (x<=y))
theorem AEG(xs:List Int)(h:xs.length<4294967296):pS (xs,())=some (sorted xs,()):=by
 obtain⟨ys,e,d,f⟩:=SG.FF S xs h (fun _ _=>trivial);have g:pS (xs,())=some (ys,()):=e;rw[g];have i:(sorted xs).Perm xs:=List.mergeSort_perm _ _;have j:(sorted xs).Pairwise (·<=·):=by have:=List.pairwise_mergeSort (le:=fun x y:Int=>decide (x<=y)) (fun a b c d f=>by simp at *;omega) (fun a b=>by simp;omega) xs;exact this.imp fun h=>by simpa using h
 have k:ys.Pairwise (·<=·):=f.imp fun {a b} q=>by have:lt b a=false:=q;unfold lt at this;rw[AWY]at this;omega
 rw[AXh (le:=fun a b:Int=>a<=b) (fun a b _ _ d f=>by omega) k j (d.trans i.symm)]
end Go.Pev.Pl.SI
end
section
namespace Go.Pev.Pl
open Tok
theorem mS{a o:List Int}{m k:Nat}(h:a.drop m=o.drop m)(b:m<=k):a.getD k 0=o.getD k 0:=by have:=AWy (fun l=>l.getD (k-m) 0) h;grind
theorem NM{xs:List Int}{i:Nat}(h:i<xs.length):xs.take (i+1)=xs.take i++[xs.getD i 0]:=by simp_all
theorem ANx(o:List Int)(n:Int)(b:List (List Int))(t:o.length<4294967296):∀ (k j w:Nat) (a:List Int) (cnt:Nat),j+k=o.length->a.length=o.length->w=(E0 n (o.take j)).length->a.take w=E0 n (o.take j)->w<j->a.drop j=o.drop j->k<cnt ->
  ∃ f:List Int,BC FT cnt (a,n,b,(w:Int),(j:Int),())=some (.inl (f,n,b,(((E0 n o).length:Nat):Int),()))/\f.length=o.length/\f.take (E0 n o).length=E0 n o:=by
 intro k;induction k with
  |zero=>
   intro j w a cnt q g m i l hd r;obtain⟨cnt,rfl⟩:∃ k,cnt=k+1:=⟨cnt-1,by omega⟩
   have e:j=o.length:=by omega
   subst e;rw[AWT]at m i;rw[BC,FT,A6,A3,AV1 (by omega)];grind
  |succ k p=>
   intro j w a cnt q g m i l hd r;obtain⟨cnt,rfl⟩:∃ k,cnt=k+1:=⟨cnt-1,by omega⟩
   have s:a.getD j 0=o.getD j 0:=mS hd (AV8 _);have d:a.drop (j+1)=o.drop (j+1):=by have:=AWy (List.drop 1) hd;simpa only[AXU]using this
   have c:E0 n (o.take (j+1))=E0 n (o.take j)++if n<=o.getD j 0 then []else [o.getD j 0]:=by rw[NM (by omega),E0,AXQ];generalize o.getD j 0=v;by_cases h:n<=v<;>simp[E0,h]
   rw[BC,FT,A6,A3,AV2 (by omega)];simp (disch:=omega) only[C3 (0:Int),IE,DO,s,BM,A5];by_cases h:n<=o.getD j 0;rw[AV2 h];rw[AWB h,AWk]at c;exact p (j+1) w a cnt (by omega) g (by grind) (by grind) (by omega) d (by omega);rw[AV1 h];rw[AV9 h]at c;refine p (j+1) (w+1) (a.set w (o.getD j 0)) cnt (by omega) (by simp[g]) (by grind) ?_ (by omega) ?_ (by omega);rw[c,<- i,AW1 (by grind)];simp[List.take_set_of_le];rw[List.drop_set_of_lt (by omega)];exact d
theorem gw{n:Int}{o:List Int}(h:∀ j,j<o.length->decide (n<=o.getD j 0)=false):E0 n o=o:=by rw[E0,AXY];intro x a;obtain⟨j,b,e⟩:=AWw a;grind
theorem ASE(o:List Int)(n:Int)(b:List (List Int))(g:o.length<4294967296):
  ∃ a:List Int,Ih (o,n,b,())=some (a,n,b,(((E0 n o).length:Nat):Int),())/\a.take (E0 n o).length=E0 n o:=by
 have u:4294967296<many:=by simp only[many];omega
 rw[M3,Jm,M0,Je];simp only[A6]
 rcases pe (step:=DX) (fun i=>(o,n,b,(o.length:Int),(i:Int),())) o.length (fun i=>decide (n<=o.getD i 0)) (fun i=>.inl (o,n,b,(i:Int),())) (.inr (.inl (o,n,b,()))) (by omega)
   (fun i hi=>by
    rw[DX]
    simp (disch:=omega) only[A3,hi,AWG,C3 (0:Int),IE,BM,A5]
    grind) (by rw[DX];simp only[A3,Nat.lt_irrefl,AWg])with⟨k,hk,hP,hF,e⟩|⟨hP,e⟩
 have d:A8 DX many (o,n,b,(o.length:Int),(0:Int),())=_:=e;have f:E0 n (o.take k)=o.take k:=gw fun j v=>by grind
 have h:E0 n (o.take (k+1))=o.take k:=by
  rw[NM hk,E0,AXQ];have:(List.filter (fun t => !decide (n<=t)) [o.getD k 0])=[]:=by grind
  rw[this,AWk];exact f
 obtain⟨c,m,w,p⟩:=ANx o n b g (o.length-(k+1)) (k+1) k o many (by omega) rfl (by grind) (by rw[h]) (by omega) rfl (by omega);have q:(E0 n o).length<=o.length:=AXD _ _;have r:(Cd (E0 n o).length (c.length-(E0 n o).length) 0 c).length=c.length:=by simp[Cd];omega
 have s:Ci (Cd (E0 n o).length (c.length-(E0 n o).length) 0 c) (0:Int) (((E0 n o).length:Nat):Int)=some _:=Tl (l:=0) (by omega) (by omega);simp only[d,Cj];rw[show((k:Int) == -1)=false from beq_false_of_ne (by omega),A5 (by omega)];simp only[BR,m];rw[Tl (by omega) (by omega)];simp only[AWT,AXf,OD,s];refine⟨Cd (E0 n o).length (c.length-(E0 n o).length) 0 c,?_,?_⟩;grind;rw[Cd,List.take_append_of_le_length (by grind),AYB,Nat.min_self];exact p;have d:A8 DX many (o,n,b,(o.length:Int),(0:Int),())=_:=e;have f:=gw hP;simp only[d,Cj];simp_all
theorem pR{n:Int}{A:List Int}(h:RG n A):SI.sorted (E0 n A)=PR n A:=by
 have e:(SI.sorted (E0 n A)).Perm (E0 n A):=List.mergeSort_perm _ _;have d:=AGb h;have f:(SI.sorted (E0 n A)).Pairwise (·<=·):=by have:=List.pairwise_mergeSort (le:=fun x y:Int=>decide (x<=y)) (fun a b c g i=>by grind) (fun a b=>by grind) (E0 n A);exact this.imp fun h=>by grind
 exact AXh (le:=fun a b:Int=>a<=b) (fun a b _ _ g i=>by omega) f ((od n A).imp fun h=>by omega) (e.trans d)
theorem mY{n:Int}{b:List (List Int)}{i:Nat}{A:List Int}{v:Int}(h:FR n b)(d:In n v)(hi:b[i]? = some A)(g:v∈A):LM ((n,(b,())),v,())=some (PR n A,0,()):=by
 have e:=h.dom;have c:=RH.2 h;have f:=h.rg A (AWA hi);have o:=f.1.1;rw[Ws,Qy];have j:MY ((n,(b,())),[v],())=some (0,()):=by rw[Qu n b _ e (by simp),AOn];grind
 obtain⟨a,k,l⟩:=ASE A n b (by omega);simp only[j,bJ,AV6,ABO n b v e,c,d,and_self,AWf,h.kj hi d.2.2.2 g,A' hi,HK (show A.length<=4294967296 by omega),k,C5,OD,l];have m:(E0 n A).length<=A.length:=AXD _ _;rw[SI.AEG _ (by omega),pR f]
theorem uj{N:Nat}{a:List (List Int)}{l:List Edge}(h:FC (N:Int) a l){i:Nat}{A:List Int}{v:Int}(b:In (N:Int) v)(hi:a[i]? = some A)(c:v∈A):PR (N:Int) A=JR N l v:=by
 have d:=AWA hi;obtain⟨e,f⟩:=h.fr.sz;unfold PR JR;rw[AW8,List.filter_map];congr 1;refine AX5 fun w g => ?_;rw[AWS]at g;have j:In (N:Int) (w:Int):=⟨e,f,by omega,by omega⟩
 show decide ((w:Int)∈A)=VU l v (w:Int);rw[AXa,AW2,LZ,<- h.sam v (w:Int) b j];constructor;intro k;exact⟨A,d,c,k⟩;rintro⟨B,m,n,o⟩;rw[h.fr.one d m b.2.2.2 c n];exact o
theorem FC.members{N:Nat}{a:List (List Int)}{l:List Edge}(h:FC (N:Int) a l){v:Int}(b:In (N:Int) v):LM (((N:Int),(a,())),v,())=some (JR N l v,0,()):=by obtain⟨i,A,_,hi,c,_⟩:=QL (h.fr.cov v b);rw[mY h.fr b hi c,uj h b hi c]
theorem Z4{n:Int}{a:List Tie}(u v:Int)(b:Du ((n,(a,())),())=some (false,())):T8 ((n,(a,())),u,v,())=some (0,1,()):=by rw[T7,R3];grind
theorem Z3{N:Nat}{a:List Tie}(h:RG2 N a)(u v:Int):T8 (((N:Int),(a,())),u,v,())=some (if InV N u/\InV N v then(if a.any (GK u v)=true then((a.findIdx (GK u v):Nat):Int)else 0)else 0,if InV N u/\InV N v then(if a.any (GK u v)=true then 0 else 6)else 10,()):=by
 rw[T7,R3];simp only[h.lr,AV6,KL,O7,BD,BM];by_cases c:min u v<0;have b:¬ (InV N u/\InV N v):=fun q=>by unfold InV at q;omega
 grind;simp only[AV1 c];by_cases d:(N:Int)<=max u v;have b:¬ (InV N u/\InV N v):=fun q=>by unfold InV at q;omega
 grind;have b:InV N u/\InV N v:=⟨⟨by omega,by omega⟩,by omega,by omega⟩
 simp only[AV1 d,AWB b,AGk h];grind
theorem qH{N:Nat}(D:N<=64)(a:List Tie)(E:a.length<=400)(u v:Nat)(n:u<N)(o:v<N)(k:Int):∃ e,ABk (((N:Int),(a,())),(u:Int),(v:Int),k,())=some (CY N a u v k,e,()):=by
 by_cases b:RG2 N a;have F:=b.h1;have p:In (N:Int) (u:Int):=⟨by omega,by omega,by omega,by omega⟩
 have s:In (N:Int) (v:Int):=⟨by omega,by omega,by omega,by omega⟩
 have t:InV N (u:Int)/\InV N (v:Int):=⟨⟨by omega,by omega⟩,by omega,by omega⟩
 obtain⟨G,w,j⟩:=b.AUN k;have x:=SC N (trk a k) (u:Int);have y:=SC N (trk a k) (v:Int);have H:=YV N (trk a k) (u:Int);have I:=YV N (trk a k) (v:Int);have z:∀ l:List Int,A9 l 0 0=l.headD 0:=fun l=>by cases l<;>rfl
 have d:=Hb (JR N (trk a k) (u:Int)) (v:Int) (by omega);have A:ieq (if(a.any (GK (u:Int) (v:Int)))=true then(0:Int)else 6) 1=false:=by split<;>(rw[BB];rfl)
 have B:ieq (if(a.any (GK (u:Int) (v:Int)))=true then(0:Int)else 6) 10=false:=by split<;>(rw[BB];rfl)
 rw[Zv,X4];simp only[Z3 b,AWB t,w,j.members p,j.members s,d,gl n,gl o,z,Mn,lC,A,B];rw[CY,AWB ((gW _).2 b)];have C:decide ((v:Int)∈JR N (trk a k) (u:Int))=VU (trk a k) (u:Int) (v:Int):=by rw[AXa,AW2,rR,LZ];grind
 rw[C];cases VU (trk a k) (u:Int) (v:Int);simp only[A6,x,y,AWM,AWN];by_cases f:csz N (trk a k) (u:Int)<csz N (trk a k) (v:Int);have c:Q7 (csz N (trk a k) (u:Int):Int) (csz N (trk a k) (v:Int):Int) = -1:=by unfold Q7;omega
 simp only[c,AV9 (show ¬ ((-1:Int)=0) by omega),BD,AV2 (show(-1:Int)<0 by omega),AWB (show csz N (trk a k) (u:Int)<csz N (trk a k) (v:Int)\/_ from .inl f)];simp;by_cases c:csz N (trk a k) (u:Int)=csz N (trk a k) (v:Int);have g:Q7 (csz N (trk a k) (u:Int):Int) (csz N (trk a k) (v:Int):Int)=0:=by unfold Q7;omega
 simp only[g,AWf];by_cases m:(JR N (trk a k) (u:Int)).headD 0<(JR N (trk a k) (v:Int)).headD 0;have i:Q7 ((JR N (trk a k) (u:Int)).headD 0) ((JR N (trk a k) (v:Int)).headD 0) = -1:=by unfold Q7;omega
 simp only[i,BD,AV2 (show(-1:Int)<0 by omega),AWB (show _\/_/\_ from .inr ⟨c,m⟩)];simp;have i:¬ Q7 ((JR N (trk a k) (u:Int)).headD 0) ((JR N (trk a k) (v:Int)).headD 0)<0:=by unfold Q7;omega
 simp only[BD,AV1 i,AV9 (show ¬ (_\/_/\_)from fun q=>q.elim f fun q=>m q.2)];simp;have g:Q7 (csz N (trk a k) (u:Int):Int) (csz N (trk a k) (v:Int):Int)=1:=by unfold Q7;omega
 simp only[g,AV9 (show ¬ ((1:Int)=0) by omega),BD,AV1 (show ¬ (1:Int)<0 by omega),AV9 (show ¬ (_\/_/\_)from fun q=>q.elim f fun q=>c q.1)];simp;simp;rcases Ox (N:Int) a (by omega)with⟨J,r⟩|⟨K,e,h⟩
 rw[Zv,X4,CY,AV9 (fun q=>b ((gW _).1 q))];simp only[Z4 _ _ r,Dw];simp;grind
def ofM(s:List Int):List (Int×Int):=s.foldl (fun m w=>BG m w 1) []
theorem AMC(w:Int):∀ (s:List Int) (m:List (Int×Int)),(A_ (s.foldl (fun m w=>BG m w 1) m) w).getD 0=if w∈s then 1 else(A_ m w).getD 0:=by
 intro s;induction s with
  |nil=>simp
  |cons x s a=>intro m;rw[AXA,a,aY];grind
theorem ACE(s:List Int)(w:Int):(A_ (ofM s) w).getD 0=if Bi s w=true then 1 else 0:=by unfold ofM Bi;rw[AMC];simp[A_]
def Wx(S:Int->Bool)(x:Tie):Int:=(if S x.1=true then 1 else 0)+(if S x.2.1=true then 1 else 0)
theorem iS(s:List Int)(x:Tie):w64 ((A_ (ofM s) x.1).getD 0+(A_ (ofM s) x.2.1).getD 0)=Wx (Bi s) x:=by rw[ACE,ACE];unfold Wx;rw[BE (by omega)]
theorem sg(S:Int->Bool)(x:Tie):ieq (Wx S x) 2=both S x:=by rw[BB];unfold Wx both;grind
theorem AHh(S:Int->Bool)(x:Tie):ieq (Wx S x) 0=(!S x.1 && !S x.2.1):=by rw[BB];unfold Wx;grind
theorem ANk(S:Int->Bool)(x:Tie):ieq (Wx S x) 1=decide (bt S x):=by rw[BB];refine AXy.2 ?_;unfold Wx bt;grind
def otp(i:Int):Nat->List Tie->List Int
 |_,[]=>[]
 |j,x::R=>if x.2.2.2.1=false/\x.2.2.1=i then(j:Int)::otp i (j+1) R else otp i (j+1) R
theorem ATt(S:Int->Bool)(top i:Int):∀ (R:List Tie) (j:Nat),otp i j (R.map (rT S top i))=otp i j R:=by
 intro R;induction R with
  |nil=>simp
  |cons x R a=>intro j;rw[AWW,otp,otp,a,AQE];by_cases h:x.2.2.2.1=false;rw[WW h];grind
section
variable (n:Int) (a2 a3:Bool) (a4 a5 top:Int)
theorem AFP(O:List Tie)(r i:Int)(s:List Int)(f:s.length<=400):
  A8 UC many (n,O,a2,a3,a4,a5,r,top,i,([]:List (Int×Int)),s,(s.length:Int),(0:Int),())=some (.inl (n,O,a2,a3,a4,a5,r,top,i,ofM s,())):=by
 have e:=DS (step:=UC) (fun j (m:List (Int×Int))=>(n,O,a2,a3,a4,a5,r,top,i,m,s,(s.length:Int),(j:Int),())) s (fun w m=>.inl (BG m w 1)) (fun m=>.inl (n,O,a2,a3,a4,a5,r,top,i,m,())) (fun _ _=>True) (by omega)
  (fun j x m c b _=>by
   refine⟨fun g a => ?_,fun r a=>(by cases a)⟩
   cases a
   refine⟨?_,trivial⟩
   unfold UC
   dsimp only
   rw[A3,AV2 c]
   simp only[A' b,Bu b]
   rw[A5 (by omega)])
  (fun m _=>by unfold UC;dsimp only;rw[A3,AV1 (by omega)]) [] trivial
 have d:A8 UC many (n,O,a2,a3,a4,a5,r,top,i,([]:List (Int×Int)),s,(s.length:Int),(0:Int),())=_:=e;rw[d,B' (fun w (m:List (Int×Int))=>BG m w 1)];rfl
theorem AFO(O:List Tie)(E:O.length<=400)(r:Nat)(F:r<1073741824)(i:Nat)(hi:i<64)(s:List Int):
  A8 UB many (n,O,a2,a3,a4,a5,(r:Int),top,(i:Int),ofM s,([]:List Int),(O.length:Int),(0:Int),()) =
  some (.inl (n,O.map (rT (Bi s) top i),a2,a3,a4,a5,((r+OM (Bi s) i O:Nat):Int),top,ofM s,otp i 0 O,())):=by
 have g:∀ (R A:List Tie) (j cnt q:Nat) (b:List Int),A.length=j->A.length+R.length=O.length->R.length<cnt->q+R.length<2147483648->b.length<=j ->
   BC UB cnt (n,A++R,a2,a3,a4,a5,(q:Int),top,(i:Int),ofM s,b,(O.length:Int),(j:Int),()) =
   some (.inl (n,A++R.map (rT (Bi s) top i),a2,a3,a4,a5,((q+OM (Bi s) i R:Nat):Int),top,ofM s,b++otp i j R,())):=by
  intro R
  induction R with
  |nil=>
   intro A j cnt q b e l m o v
   obtain⟨cnt,rfl⟩:∃ c,cnt=c+1:=⟨cnt-1,by omega⟩
   unfold UB
   rw[BC]
   dsimp only
   rw[A3,AV1 (by grind)]
   simp[OM,otp]
  |cons x R w=>
   intro A j cnt q b e l m o v
   obtain⟨cnt,rfl⟩:∃ c,cnt=c+1:=⟨cnt-1,by omega⟩
   rw[AWD]at l m o
   have p:=jf (R:=R) (x:=x) e
   have next:∀ (y:Tie) (d:Nat) (a:List Int),d+R.length<2147483648->a.length<=j+1->rT (Bi s) top i x=y->d+OM (Bi s) i R=q+OM (Bi s) i (x::R)->a++otp i (j+1) R=b++otp i j (x::R) ->
     BC UB cnt (n,A++y::R,a2,a3,a4,a5,(d:Int),top,(i:Int),ofM s,a,(O.length:Int),((j+1:Nat):Int),()) =
     some (.inl (n,A++(x::R).map (rT (Bi s) top i),a2,a3,a4,a5,((q+OM (Bi s) i (x::R):Nat):Int),top,ofM s,b++otp i j (x::R),())):=by
    intro y d a h k G t z
    have:=w (A++[y]) (j+1) cnt d a (by simp[e]) (by simp;omega) (by omega) h k
    simp_all
   have B:OM (Bi s) i (x::R)=OM (Bi s) i R+if(x.2.2.2.1&&(decide (x.2.2.1=(i:Int))&&both (Bi s) x))=true then 1 else 0:=by
    unfold OM
    grind
   have C:otp (i:Int) j (x::R)=if x.2.2.2.1=false/\x.2.2.1=(i:Int)then(j:Int)::otp i (j+1) R else otp i (j+1) R:=rfl
   unfold UB at next |-
   rw[BC]
   dsimp only
   rw[A3,AV2 (by omega)]
   simp only[A' p,Bu p]
   rw[A5 (show j+1<9223372036854775808 by omega),A5 (show q+1<9223372036854775808 by omega),BB]
   by_cases f:x.2.2.1=(i:Int)
   ·rw[AV2 f]
    simp only[AV6]
    cases u:x.2.2.2.1
    ·simp only[AWR]
     rw[Bo (by simp only[A6,AWD,AWK];omega),OD,Dy]
     refine next x q _ (by omega) (by simp;omega) (WW u) ?_ ?_
     ·grind
     grind
    ·simp only[AV6]
     rw[iS,sg]
     cases D:both (Bi s) x
     ·simp only[]
      refine next x q b (by omega) (by omega) ?_ ?_ ?_
      ·unfold rT
       grind
      all_goals grind
     ·simp only[]
      rw[je e,KL,f,A5 (show i+1<9223372036854775808 by omega)]
      refine next _ (q+1) b (by omega) (by omega) ?_ ?_ ?_
      ·unfold rT
       rw[AWB ⟨u,f,D⟩]
       unfold QJ
       grind
      all_goals grind
   ·rw[AV1 f]
    simp only[AWR]
    refine next x q b (by omega) (by omega) ?_ ?_ ?_
    ·unfold rT
     grind
    all_goals grind
 have:=g O [] 0 many r [] rfl (by simp) (by simp only[many];omega) (by omega) (by simp);rw[BR];grind
theorem AFN(O:List Tie)(h:O.length<=400)(r:Nat)(C:r<1073741824)(i:Nat)(hi:i<64)(s:List Int):
  A8 UA many (n,O,a2,a3,a4,a5,(r:Int),top,ofM s,otp i 0 O,((otp i 0 O).length:Int),(0:Int),()) =
  some (match(CZ (Bi s) top i O).2.2 with
   |some e=>.inr (.inl (n,(CZ (Bi s) top i O).1,a2,true,e.1,e.2.1,((r+(CZ (Bi s) top i O).2.1:Nat):Int),top,true,()))
   |none=>.inl (n,(CZ (Bi s) top i O).1,a2,a3,a4,a5,((r+(CZ (Bi s) top i O).2.1:Nat):Int),top,())):=by
 have k:∀ (R A:List Tie) (j cnt q:Nat) (pre:List Int),A.length=j->R.length<cnt->q+R.length<2147483648->pre.length<=j->j+R.length<=400 ->
   BC UA cnt (n,A++R,a2,a3,a4,a5,(q:Int),top,ofM s,pre++otp i j R,((pre++otp i j R).length:Int),(pre.length:Int),()) =
   some (match(CZ (Bi s) top i R).2.2 with
    |some e=>.inr (.inl (n,A++(CZ (Bi s) top i R).1,a2,true,e.1,e.2.1,((q+(CZ (Bi s) top i R).2.1:Nat):Int),top,true,()))
    |none=>.inl (n,A++(CZ (Bi s) top i R).1,a2,a3,a4,a5,((q+(CZ (Bi s) top i R).2.1:Nat):Int),top,())):=by
  intro R
  induction R with
  |nil=>
   intro A j cnt q pre b t u D v
   obtain⟨cnt,rfl⟩:∃ c,cnt=c+1:=⟨cnt-1,by omega⟩
   unfold UA
   rw[BC]
   dsimp only
   rw[A3,AV1 (by simp[otp])]
   rfl
  |cons x R w=>
   intro A j cnt q pre b t u D v
   rw[AWD]at t u v
   have E:=jf (R:=R) (x:=x) b
   rw[CZ,otp]
   by_cases h:x.2.2.2.1=false/\x.2.2.1=(i:Int)
   ·obtain⟨F,z⟩:=h
    rw[AWB ⟨F,z⟩,AV9 (fun G=>by grind)]
    obtain⟨cnt,rfl⟩:∃ c,cnt=c+1:=⟨cnt-1,by omega⟩
    have l:pre.length<(pre++(j:Int)::otp i (j+1) R).length:=by simp
    have f:(pre++(j:Int)::otp i (j+1) R)[pre.length]? = some (j:Int):=by simp
    have step:∀ (y:Tie) (d:Nat),d+R.length<2147483648 ->
      BC UA cnt (n,A++y::R,a2,a3,a4,a5,(d:Int),top,ofM s,pre++(j:Int)::otp i (j+1) R,((pre++(j:Int)::otp i (j+1) R).length:Int),((pre.length+1:Nat):Int),()) =
      some (match(CZ (Bi s) top i R).2.2 with
       |some e=>.inr (.inl (n,A++y::(CZ (Bi s) top i R).1,a2,true,e.1,e.2.1,((d+(CZ (Bi s) top i R).2.1:Nat):Int),top,true,()))
       |none=>.inl (n,A++y::(CZ (Bi s) top i R).1,a2,a3,a4,a5,((d+(CZ (Bi s) top i R).2.1:Nat):Int),top,())):=by
     intro y d m
     have:=w (A++[y]) (j+1) cnt d (pre++[(j:Int)]) (by simp[b]) (by omega) m (by grind) (by omega)
     simp_all
    unfold UA at step |-
    rw[BC]
    dsimp only
    rw[A3,AV2 l]
    simp only[A' f,Bu f,Bu E]
    rw[A5 (show pre.length+1<9223372036854775808 by omega),A5 (show q+1<9223372036854775808 by omega),iS,AHh,sg,ANk]
    cases B:both (Bi s) x
    ·simp only[AWM,AWN]
     by_cases g:bt (Bi s) x
     ·have a:(!Bi s x.1 && !Bi s x.2.1)=false:=by
       unfold bt at g
       grind
      have o:(A++nz x::R)[j]? = some (nz x):=jf b
      simp only[a,AV2 g,AWB g]
      rw[je b]
      rw[show((x.1,(x.2.1,(x.2.2.1,(true,())))):Tie)=nz x from rfl]
      simp only[Bu o,AXc]
      rfl
     ·have a:(!Bi s x.1 && !Bi s x.2.1)=true:=by
       unfold bt at g
       unfold both at B
       grind
      simp only[a,AV9 g]
      grind
    ·have a:(!Bi s x.1 && !Bi s x.2.1)=false:=by
      unfold both at B
      grind
     simp only[a,AWf]
     rw[je b,KL,z,A5 (show i+1<9223372036854775808 by omega)]
     have:=step (QJ top x) (q+1) (by omega)
     have C:((x.1,(x.2.1,(min top ((i+1:Nat):Int),(x.2.2.2.1,())))):Tie)=QJ top x:=by
      unfold QJ
      grind
     grind
   ·have p:x.2.2.2.1=true\/x.2.2.1≠(i:Int):=by
     grind
    rw[AV9 h,AWB p]
    have:=w (A++[x]) (j+1) cnt q pre (by simp[b]) (by omega) (by omega) (by omega) (by omega)
    simp_all
 have:=k O [] 0 many r [] rfl (by simp only[many];omega) (by omega) (by simp) (by omega);rw[BR];grind
end
theorem AQh{N:Nat}(h:N<=64)(u v:Nat)(j:u<N)(k:v<N)(top:Int)(O:List Tie)(f:O.length<=400)(a b:Bool)(c d:Int)(r:Nat)(p:r<536870912)(i:Nat)(hi:i<64)(S:Int->Bool)(l:S=Bi (CY N O u v i)):
  pat ((N:Int),O,a,b,c,d,(r:Int),top,(u:Int),(v:Int),(i:Int),()) =
  some (match(CZ S top i (O.map (rT S top i))).2.2 with
   |some e=>((N:Int),(CZ S top i (O.map (rT S top i))).1,a,true,e.1,e.2.1,((r+OM S i O+(CZ S top i (O.map (rT S top i))).2.1:Nat):Int),top,true,())
   |none=>((N:Int),(CZ S top i (O.map (rT S top i))).1,a,b,c,d,((r+OM S i O+(CZ S top i (O.map (rT S top i))).2.1:Nat):Int),top,false,())):=by subst l;obtain⟨e,m⟩:=qH h O f u v j k (i:Int);have q:=AEK N O u v (i:Int);have s:=ACx (Bi (CY N O u v i)) i O;have n:=AFP (N:Int) a b c d top O (r:Int) (i:Int) (CY N O u v i) (by omega);have o:=AFO (N:Int) a b c d top O f r (by omega) i hi (CY N O u v i);have g:=AFN (N:Int) a b c d top (O.map (rT (Bi (CY N O u v i)) top i)) (by grind) (r+OM (Bi (CY N O u v i)) i O) (by omega) i hi (CY N O u v i);rw[ATt]at g;rw[ALe,ALf];simp only[m,A6,n,o,g];grind
section
variable {α:Type} (z:α)
theorem bf{a o:List α}{m k:Nat}(h:a.drop m=o.drop m)(b:m<=k):a.getD k z=o.getD k z:=by have:=AWy (fun l=>l.getD (k-m) z) h;simp only[AWd,AYd]at this;rw[Nat.add_sub_cancel' b]at this;simpa [AWd]using this
theorem My{xs:List α}{i:Nat}(h:i<xs.length):xs.take (i+1)=xs.take i++[xs.getD i z]:=by rw[AW1 h];simp[h]
theorem ANw{σ ρ:Type}{step:σ->Option (σ⊕ρ)}(st:List α->Nat->Nat->σ)(fin:List α->Nat->ρ)(keep:α->Bool)(o:List α)
  (h:∀ a w j,a.length=o.length->j<o.length->w<j->a.getD j z=o.getD j z->step (st a w j)=some (.inl (if keep (o.getD j z)=true then st (a.set w (o.getD j z)) (w+1) (j+1)else st a w (j+1))))
  (p:∀ a w,a.length=o.length->step (st a w o.length)=some (.inr (fin a w))) :
  ∀ (k j w:Nat) (a:List α) (cnt:Nat),j+k=o.length->a.length=o.length->w=((o.take j).filter keep).length->a.take w=(o.take j).filter keep->w<j->a.drop j=o.drop j->k<cnt ->
  ∃ l:List α,BC step cnt (st a w j)=some (fin l (o.filter keep).length)/\l.length=o.length/\l.take (o.filter keep).length=o.filter keep:=by
 intro k;induction k with
  |zero=>
   intro j w a cnt q c d f g hd r;obtain⟨cnt,rfl⟩:∃ k,cnt=k+1:=⟨cnt-1,by omega⟩
   have e:j=o.length:=by omega
   subst e;rw[AWT]at d f;rw[BC,p a w c];exact⟨a,by rw[d],c,by rw[<- d];exact f⟩
  |succ k m=>
   intro j w a cnt q c d f g hd r;obtain⟨cnt,rfl⟩:∃ k,cnt=k+1:=⟨cnt-1,by omega⟩
   have s:=bf z hd (AV8 j);have i:a.drop (j+1)=o.drop (j+1):=by have:=AWy (List.drop 1) hd;simpa only[AXU]using this
   have b:(o.take (j+1)).filter keep=(o.take j).filter keep++if keep (o.getD j z)=true then [o.getD j z]else []:=by rw[My z (by omega),AXQ];generalize o.getD j z=v;by_cases h:keep v=true<;>simp[h]
   rw[BC,h a w j c (by omega) g s];by_cases n:keep (o.getD j z)=true;rw[AWB n]at b |-;refine m (j+1) (w+1) (a.set w (o.getD j z)) cnt (by omega) (by simp[c]) (by rw[b];simp[d]) ?_ (by omega) ?_ (by omega);rw[b,<- f,AW1 (by simp;omega)];simp[List.take_set_of_le];rw[List.drop_set_of_lt (by omega)];exact i;rw[AV9 n]at b |-;rw[AWk]at b;exact m (j+1) w a cnt (by omega) c (by rw[b];exact d) (by rw[b];exact f) (by omega) i (by omega)
theorem AHz{σ ρ σ' ρ':Type}{find:σ'->Option (σ'⊕ρ')}{step:σ->Option (σ⊕ρ)}(st:List α->Nat->Nat->σ)(fin:List α->Nat->ρ)(c:Nat->σ')(p:Nat->ρ')(fn:ρ')(keep:α->Bool)(o:List α)(B:o.length<4294967296)
  (h:∀ a w j,a.length=o.length->j<o.length->w<j->a.getD j z=o.getD j z->step (st a w j)=some (.inl (if keep (o.getD j z)=true then st (a.set w (o.getD j z)) (w+1) (j+1)else st a w (j+1))))
  (r:∀ a w,a.length=o.length->step (st a w o.length)=some (.inr (fin a w)))
  (f:∀ i,i<o.length->find (c i)=if keep (o.getD i z)=true then some (.inl (c (i+1)))else some (.inr (p i))) (s:find (c o.length)=some (.inr fn)) :
  (o.filter keep=o/\A8 find many (c 0)=some fn) \/
  (∃ k d,k<o.length/\A8 find many (c 0)=some (p k)/\A8 step many (st o k (k+1))=some (fin d (o.filter keep).length)/\d.length=o.length/\(o.filter keep).length<=o.length/\d.take (o.filter keep).length=o.filter keep):=by
 have C:4294967296<many:=by simp only[many];omega
 have b:∀ n,(∀ j,j<n->j<o.length->keep (o.getD j z)=true)->(o.take n).filter keep=o.take n:=by intro n t;rw[AXY];intro x u;obtain⟨j,l,rfl⟩:=AYa.1 u;have:=t j (by omega) (by omega);simpa [show j<o.length by omega]using this
 rcases pe (step:=find) c o.length (fun i => !keep (o.getD i z)) p fn (by omega) (fun i hi=>by rw[f i hi];cases keep (o.getD i z)<;>rfl) s with⟨k,hk,hP,hF,e⟩|⟨hP,e⟩
 right;have q:keep (o.getD k z)=false:=by cases g:keep (o.getD k z);rfl;rw[g]at hP;cases hP
 have l:(o.take k).filter keep=o.take k:=b k fun j l _=>by have:=hF j l;cases g:keep (o.getD j z);rw[g]at this;cases this;rfl
 have m:(o.take (k+1)).filter keep=o.take k:=by rw[My z hk,AXQ,l,AYq,q];simp
 obtain⟨d,v,y,A⟩:=ANw z st fin keep o h r (o.length-(k+1)) (k+1) k o many (by omega) rfl (by rw[m,AWt];omega) (by rw[m]) (by omega) rfl (by omega);exact⟨k,d,hk,e,by rw[BR];exact v,y,AXD _ _,A⟩;left;refine⟨?_,e⟩;have:=b o.length fun j _ m=>by have:=hP j m;cases g:keep (o.getD j z);rw[g]at this;cases this;rfl
 rwa [AWT]at this
theorem AAa{a:List α}{w:Nat}(h:w<=a.length):(Cd w (a.length-w) z a).take w=a.take w/\(Cd w (a.length-w) z a).length=a.length:=by constructor;rw[Cd,List.take_append_of_le_length (by simp;omega),AYB,Nat.min_self];simp[Cd];omega
end
theorem AHD(n:Nat)(e:n<4294967296):ACZ ((n:Int),())=some ([],()):=by
 have a:w64 ((n:Int)-w64 ((0:Int)-0))=(n:Int):=by rw[BE (n:=(0:Int)-0) (by omega),BE (by omega)];omega
 rw[sG,mM];simp only[a,BD];rw[AV1 (by omega)];simp only[];by_cases h:0<n;rw[AV2 (by omega)];have b:Ci ([]:List Unit) (0:Int) (0:Int)=some []:=by rw[On];rfl
 have c:Ci (Dm (A4 (n:Int)) ((0:Int),((0:Int),((0:Int),(false,()))))) (0:Int) (0:Int)=some []:=by rw[On,fY,AWB (by omega)];simp
 have d:Ca (n:Int)=true:=(I4 _).2 (by omega);simp only[b,c,d];rfl;grind
theorem tS(b:List (List Tie))(t:b.length<4294967296)(h:b.flatten.length<4294967296):TD (b,())=some (b.flatten,()):=by
 rw[cf,VS]
 have e:=DS (step:=Jp) (fun i (a:Nat)=>(b,(a:Int),b,A2 b,(i:Int),())) b (fun x a=>.inl (a+x.length)) (fun a=>.inl (b,(a:Int),())) (fun i a=>a=(b.take i).flatten.length) (by omega)
  (fun i x a hi d n=>by
   refine⟨fun o c => ?_,fun r c=>by cases c⟩
   cases c
   have j:=EX d
   have k:=FP b (i+1)
   rw[j,AWF]at k
   rw[Jp]
   simp only[A6]
   rw[A3,AV2 hi]
   simp only[A' d]
   rw[wrap_add (by omega),A5 (by omega),BD,AV1 (by omega)]
   grind)
  (fun a _=>by rw[Jp,A6,A3,AV1 (by omega)]) 0 rfl
 have p:A8 Jp many (b,(0:Int),b,A2 b,(0:Int),())=_:=e;rw[p,B'];have f:∀ (l:List (List Tie)) (a:Nat),l.foldl (fun a x=>a+x.length) a=a+l.flatten.length:=by
  intro l;induction l with
   |nil=>simp
   |cons x l q=>grind
 rw[f,AWs];simp only[AHD _ h]
 have g:=DS (step:=Jo) (fun i (a:List Tie)=>(a,b,A2 b,(i:Int),())) b (fun x a=>.inl (a++x)) (fun a=>.inl (a,())) (fun i a=>a=(b.take i).flatten) (by omega)
  (fun i x a hi d n=>by
   refine⟨fun o c => ?_,fun r c=>by cases c⟩
   cases c
   have j:=EX d
   have k:=FP b (i+1)
   rw[j,AWF]at k
   rw[Jo]
   simp only[A6]
   rw[A3,AV2 hi]
   simp only[A' d]
   rw[A5 (by omega),Bo (by grind)]
   exact⟨rfl,by grind⟩)
  (fun a _=>by rw[Jo,A6,A3,AV1 (by omega)]) [] rfl
 have s:A8 Jo many ([],b,A2 b,(0:Int),())=_:=g;rw[s,B'];have m:∀ (l:List (List Tie)) (a:List Tie),l.foldl (fun a x=>a++x) a=a++l.flatten:=by
  intro l;induction l with
   |nil=>simp
   |cons x l q=>grind
 grind
def Gj(x:Edge):Edge:=(min x.1 x.2.1,max x.1 x.2.1,())
abbrev WM:=List (Edge×Int)
def Gi(m:WM)(x:Edge):Int:=(A_ m x).getD 0
theorem ANy(o:List Edge)(m:WM)(f:o.length<4294967296):
  ∃ a:List Edge,Mj (o,m,())=some (a,m,(((o.filter fun x => !ieq (Gi m x) 0).length:Nat):Int),())/\a.take (o.filter fun x => !ieq (Gi m x) 0).length=o.filter fun x => !ieq (Gi m x) 0:=by
 have g:=AHz (find:=EO) (step:=Ha) ((0:Int),(0:Int),()) (fun a (w j:Nat)=>(a,m,(w:Int),(j:Int),())) (fun a (w:Nat)=>.inl (a,m,(w:Int),())) (fun i=>(o,m,(o.length:Int),(i:Int),())) (fun i=>.inl (o,m,(i:Int),())) (.inr (.inl (o,m,()))) (fun x => !ieq (Gi m x) 0) o f
  (fun a w j d h t l=>by
   unfold Ha
   dsimp only
   simp (disch:=omega) only[A6,A3,d,h,AWG,C3 ((0:Int),(0:Int),()),IE,DO,l,A5]
   unfold Gi
   grind)
  (fun a w d=>by unfold Ha;dsimp only;rw[A6,A3,AV1 (by omega)])
  (fun i hi=>by
   unfold EO
   dsimp only
   simp (disch:=omega) only[A3,hi,AWG,C3 ((0:Int),(0:Int),()),IE,A5]
   unfold Gi
   grind)
  (by unfold EO;dsimp only;rw[A3,AV1 (by omega)])
 rw[Pn,Mi,Pg,MT];generalize (fun x => !ieq (Gi m x) 0)=keep at *;rcases g with⟨n,e⟩|⟨k,b,u,e,p,v,q,y⟩
 have c:A8 EO many (o,m,A2 o,(0:Int),())=_:=e;simp only[c,BB];exact⟨o,by rw[n];rfl,by grind⟩;have c:A8 EO many (o,m,A2 o,(0:Int),())=_:=e;obtain⟨z,c2⟩:=AAa ((0:Int),(0:Int),()) (a:=b) (w:=(o.filter keep).length) (by omega);have r:Ci (Cd (o.filter keep).length (b.length-(o.filter keep).length) ((0:Int),(0:Int),()) b) (0:Int) (((o.filter keep).length:Nat):Int)=some _:=Tn (by omega);have s:Ci b (((o.filter keep).length:Nat):Int) (b.length:Int)=some _:=I' (by omega);simp only[c,BB];rw[AV1 (by omega),A5 (by omega)];simp only[p,s,A6,AXf,OD,r];grind
theorem xK{N:Nat}(j:1<=N)(k:N<=64)(a:List Tie)(l:List Edge)(n:l.length<1073741824)(m:WM)(i:Nat)(x:Edge)(hi:i<l.length)(f:l[i]? = some x)(o:0<=Gi m (Gj x)/\Gi m (Gj x)<=(i:Int)):
  Ho ((N:Int),a,m,l,(l.length:Int),(i:Int),())=if In (N:Int) x.1/\In (N:Int) x.2.1 then some (.inl ((N:Int),a,BG m (Gj x) (Gi m (Gj x)+1),l,(l.length:Int),((i+1:Nat):Int),()))else some (.inr (.inl (10,()))):=by unfold Ho;dsimp only;rw[A3,AV2 hi];simp only[A' f,KL,O7];have b:w64 (Gi m (Gj x)+1)=Gi m (Gj x)+1:=BE (by omega);obtain⟨c,d⟩:=yO m (Gj x) (Gi m (Gj x)) (Gi m (Gj x)+1);unfold Gi Gj at c d b;by_cases e:min x.1 x.2.1<0;rw[BD,AV2 e,AV9 (fun q=>by have g:=q.1.2.2.1;have h:=q.2.2.2.1;omega)];rw[BD,AV1 e];by_cases c2:(N:Int)<=max x.1 x.2.1;rw[BM,AV2 c2,AV9 (fun q=>by have g:=q.1.2.2.2;have h:=q.2.2.2.2;omega)];rw[BM,AV1 c2,AWB ⟨⟨by omega,by omega,by omega,by omega⟩,⟨by omega,by omega,by omega,by omega⟩⟩];simp only[c,b,d,A5 (show i+1<9223372036854775808 by omega)];rfl
theorem xL{N:Nat}(s:1<=N)(t:N<=64)(b:List Tie)(l:List Edge)(u:l.length<1073741824):
  (¬ AOs N l/\A8 Ho many ((N:Int),b,([]:WM),l,(l.length:Int),(0:Int),())=some (.inl (10,()))) \/
  (AOs N l/\∃ m:WM,(∀ x,Gi m x=0↔x∉l.map Gj)/\A8 Ho many ((N:Int),b,([]:WM),l,(l.length:Int),(0:Int),())=some (.inr (.inl ((N:Int),b,m,())))):=by
 have f:∀ (k i:Nat) (m:WM) (cnt:Nat),i+k=l.length->k<cnt->(∀ x,0<=Gi m x/\Gi m x<=(i:Int)/\(Gi m x=0↔x∉(l.take i).map Gj)) ->
   ((∃ x∈l.drop i,¬ (In (N:Int) x.1/\In (N:Int) x.2.1))/\BC Ho cnt ((N:Int),b,m,l,(l.length:Int),(i:Int),())=some (.inl (10,()))) \/
   ((∀ x∈l.drop i,In (N:Int) x.1/\In (N:Int) x.2.1)/\∃ r:WM,(∀ x,Gi r x=0↔x∉l.map Gj)/\BC Ho cnt ((N:Int),b,m,l,(l.length:Int),(i:Int),())=some (.inr (.inl ((N:Int),b,r,())))):=by
  intro k
  induction k with
  |zero=>
   intro i m cnt hi v g
   obtain⟨cnt,rfl⟩:∃ c,cnt=c+1:=⟨cnt-1,by omega⟩
   right
   have:i=l.length:=by omega
   subst this
   refine⟨fun x d=>(by grind),m,fun x => ?_,?_⟩
   ·grind
   ·unfold Ho
    rw[BC]
    dsimp only
    rw[A3,AV1 (by omega)]
  |succ k w=>
   intro i m cnt hi v g
   obtain⟨cnt,rfl⟩:∃ c,cnt=c+1:=⟨cnt-1,by omega⟩
   have a:i<l.length:=by omega
   have d:l[i]? = some l[i]:=AWC a
   have j:l.drop i=l[i]::l.drop (i+1):=AWv a
   have n:l.take (i+1)=l.take i++[l[i]]:=AW1 a
   rw[j]
   generalize z:l[i]=x at *
   have A:=g (Gj x)
   obtain⟨B,C,_⟩:=A
   rw[BC,xK s t b l u m i x a d ⟨B,C⟩]
   by_cases o:In (N:Int) x.1/\In (N:Int) x.2.1
   ·rw[AWB o]
    have p:∀ y,Gi (BG m (Gj x) (Gi m (Gj x)+1)) y=if y=Gj x then Gi m (Gj x)+1 else Gi m y:=by
     intro y
     unfold Gi
     rw[aY]
     grind
    have:=w (i+1) (BG m (Gj x) (Gi m (Gj x)+1)) cnt (by omega) (by omega) (fun y=>by
     rw[p]
     obtain⟨E,F,G⟩:=g y
     rw[n,AW3,AWL]
     by_cases e:y=Gj x
     all_goals grind)
    grind
   grind
 have H:∀ x:Edge,Gi ([]:WM) x=0:=fun _=>rfl;have:=f l.length 0 [] many (by omega) (by simp only[many];omega) (fun x=>by simp_all);rw[List.drop_zero]at this;rw[BR];rcases this with⟨⟨x,d,D⟩,e⟩|⟨h,e⟩
 exact .inl ⟨fun q=>D (q x d),e⟩;exact .inr ⟨h,e⟩
theorem gg{N:Nat}{c:List Tie}(h:RG2 N c)(l:List Edge)(t:l.length<1073741824):
  gh (((N:Int),(c,())),l,())=some (if ∀ e∈l,In (N:Int) e.1/\In (N:Int) e.2.1 then(Pk N c l,0,())else([],10,())):=by
 have G:=h.ht;rw[Z2,X9];simp only[h.lr,AV6,A6];rcases xL h.h1 h.hN c l t with⟨u,e⟩|⟨i,m,v,e⟩
 rw[AV9 (show ¬ ∀ e∈l,In (N:Int) e.1/\In (N:Int) e.2.1 from u)];grind
 ·rw[AWB (show ∀ e∈l,In (N:Int) e.1/\In (N:Int) e.2.1 from i)];obtain⟨a,w,z⟩:=ANy (c.map ed) m (by grind);simp only[e,Qc (N:Int) c h.ht h.lr,w,C5,OD,z];congr 2;have A:((c.map ed).filter fun x => !ieq (Gi m x) 0)=(c.map ed).filter fun x=>decide (x∈l.map Gj):=by refine AX5 fun x _ => ?_;rw[BB,AXa,AXF,AWY,AW2,v x];simp
  rw[A];have q:((c.map ed).filter fun x=>decide (x∈l.map Gj)).Pairwise Gd:=h.edP.filter _;have r:=zM N c l;have j:∀ x:Edge,x∈((c.map ed).filter fun x=>decide (x∈l.map Gj))↔x∈Pk N c l:=by
   intro x;unfold Pk;rw[AWZ,AWZ,aQ,AW2,AW2];have s:∀ y:Edge,x=Gj y->x.1<x.2.1->x=y\/x=(y.2.1,y.1,()):=by rintro⟨a,b,⟨⟩⟩ rfl d;unfold Gj at d |-;grind
   constructor;rintro⟨f,g⟩;have d:=h.AVv x f;obtain⟨B,C⟩:=h.inE x f;refine⟨⟨B.2.2.1,d,C.2.2.2,?_⟩,f⟩;obtain⟨y,H,D⟩:=AWV.1 g;unfold XV;grind;·rintro⟨⟨f,g,I,n⟩,E⟩;refine⟨E,AWV.2 ?_⟩;obtain⟨a,b,⟨⟩⟩:=x;unfold Gj;simp only at g;rcases n with n|n;all_goals grind
  have k:∀ a b:Edge,Gd a b->Gd b a->False:=fun a b f g=>by unfold Gd at *;omega
  have o:((c.map ed).filter fun x=>decide (x∈l.map Gj)).Nodup:=q.imp fun {a b} F=>by grind
  have p:(Pk N c l).Nodup:=r.imp fun {a b} F=>by grind
  exact AXh (le:=Gd) (fun a b _ _ f g=>(k a b f g).elim) q r ((AX4 o p).2 j)
theorem qK{N:Nat}(h:N<=64)(u v:Nat)(i:u<N)(j:v<N)(top b:Int):
  ∀ (m:Nat) (O:List Tie) (r cnt:Nat),m<=64->O.length<=400->r+1000*m<536870912->m<cnt ->
  BC HV cnt ((0:Int),false,false,(0:Int),(0:Int),(0:Int),(u:Int),(v:Int),b,true,(N:Int),O,true,false,(0:Int),(0:Int),(r:Int),top,(m:Int)-1,()) =
  some (.inl ((0:Int),false,false,(0:Int),(0:Int),(0:Int),(N:Int),(ZH N u v top m O r).1,true,
   (match(ZH N u v top m O r).2.1 with|some _=>true|none=>false),(match(ZH N u v top m O r).2.1 with|some e=>e.1|none=>0),(match(ZH N u v top m O r).2.1 with|some e=>e.2.1|none=>0),((ZH N u v top m O r).2.2:Int),top,())):=by
 intro m;induction m with
  |zero=>
   intro O r cnt k f l n;obtain⟨cnt,rfl⟩:∃ c,cnt=c+1:=⟨cnt-1,by omega⟩
   unfold HV;rw[BC];dsimp only;rw[BM,AV1 (by omega)];rfl
  |succ m o=>
   intro O r cnt k f l n;obtain⟨cnt,rfl⟩:∃ c,cnt=c+1:=⟨cnt-1,by omega⟩
   have p:((m+1:Nat):Int)-1=(m:Int):=by omega
   have d:=AQh h u v i j top O f true false 0 0 r (by omega) m (by omega) _ rfl;have q:=gi (Bi (CY N O u v m)) top m (O.map (rT (Bi (CY N O u v m)) top m));have s:=ACx (Bi (CY N O u v m)) m O;rw[AWQ]at q;rw[p,ZH];cases g:(CZ (Bi (CY N O u v m)) top m (O.map (rT (Bi (CY N O u v m)) top m))).2.2 with
    |some e=>
     rw[g]at d;have a:HV ((0:Int),false,false,(0:Int),(0:Int),(0:Int),(u:Int),(v:Int),b,true,(N:Int),O,true,false,(0:Int),(0:Int),(r:Int),top,(m:Int),())=some (.inr (.inl ((0:Int),false,false,(0:Int),(0:Int),(0:Int),(N:Int),(CZ (Bi (CY N O u v m)) top m (O.map (rT (Bi (CY N O u v m)) top m))).1,true,true,e.1,e.2.1,((r+OM (Bi (CY N O u v m)) m O+(CZ (Bi (CY N O u v m)) top m (O.map (rT (Bi (CY N O u v m)) top m))).2.1:Nat):Int),top,()))):=by unfold HV;dsimp only;rw[BM,AV2 (show(0:Int)<=(m:Int) by omega)];grind
     rw[BC,a]
    |none=>
     rw[g]at d;have a:HV ((0:Int),false,false,(0:Int),(0:Int),(0:Int),(u:Int),(v:Int),b,true,(N:Int),O,true,false,(0:Int),(0:Int),(r:Int),top,(m:Int),())=some (.inl ((0:Int),false,false,(0:Int),(0:Int),(0:Int),(u:Int),(v:Int),b,true,(N:Int),(CZ (Bi (CY N O u v m)) top m (O.map (rT (Bi (CY N O u v m)) top m))).1,true,false,(0:Int),(0:Int),((r+OM (Bi (CY N O u v m)) m O+(CZ (Bi (CY N O u v m)) top m (O.map (rT (Bi (CY N O u v m)) top m))).2.1:Nat):Int),top,(m:Int)-1,())):=by unfold HV;dsimp only;rw[BM,AV2 (show(0:Int)<=(m:Int) by omega)];simp only[d,AWR];rw[BE (by omega)]
     rw[BC,a];exact o _ _ cnt (by omega) (by omega) (by omega) (by omega)
theorem AK7{N:Nat}{c:List Tie}(h:RG2 N c)(u v:Int):
  (¬ ((0<=u/\u<(N:Int))/\(0<=v/\v<(N:Int)))/\wx (((N:Int),(c,())),u,v,())=some ((N:Int),c,AJD,10,())) \/
  (((0<=u/\u<(N:Int))/\(0<=v/\v<(N:Int)))/\c.any (GK u v)=false/\wx (((N:Int),(c,())),u,v,())=some ((N:Int),c,AJD,6,())) \/
  (((0<=u/\u<(N:Int))/\(0<=v/\v<(N:Int)))/\c.any (GK u v)=true/\∃ t,c[c.findIdx (GK u v)]? = some t /\
   wx (((N:Int),(c,())),u,v,())=some ((N:Int),(iG N c (c.findIdx (GK u v)) t).1,AUy t.2.2.2.1 (iG N c (c.findIdx (GK u v)) t).2.1 (iG N c (c.findIdx (GK u v)) t).2.2,0,())):=by
 have M:=h.ht;have j:=h.hN;rw[kf,kg];simp only[Z3 h];by_cases d:InV N u/\InV N v;right;rw[AWB d,AWB d];cases B:c.any (GK u v);left;refine⟨d,rfl,?_⟩;simp only[AWM,AWN,BB];rfl;right;have w:c.findIdx (GK u v)<c.length:=AXz.2 (AYT.1 B);have x:c[c.findIdx (GK u v)]? = some c[c.findIdx (GK u v)]:=AWC w;refine⟨d,rfl,_,x,?_⟩;have C:c[c.findIdx (GK u v)]∈c:=AWu w;generalize c[c.findIdx (GK u v)]=t at *;generalize c.findIdx (GK u v)=p at *;obtain⟨y,z,D,E,O⟩:=h.tie C;obtain⟨a,l⟩:=AV7 y.2.2.1;obtain⟨b,n⟩:=AV7 z.2.2.1;obtain⟨k,F⟩:=AV7 E;have o:a<N:=by have:=y.2.2.2;omega
 have q:b<N:=by have:=z.2.2.2;omega
 have G:=ABM j;have A:=APR j;have H:Ci c (0:Int) (p:Int)=some (c.take p):=Tn (by omega);have I:Ci c ((p+1:Nat):Int) (c.length:Int)=some (c.drop (p+1)):=I' (by omega);have g:TD ([c.take p,c.drop (p+1)],())=some (c.take p++c.drop (p+1),()):=by rw[tS _ (by simp) (by grind)];simp
 simp only[AWf,Dw,AV6];simp only[A' x,H];rw[A5 (by omega)];simp only[A6,I,g,aU N j,G];unfold iG;cases P:t.2.2.2.1;obtain⟨m,f⟩:∃ m,many=m+1:=⟨many-1,by simp only[many]⟩
 have:A8 HV many ((0:Int),false,false,(0:Int),(0:Int),(0:Int),t.1,t.2.1,t.2.2.1,false,(N:Int),c.take p++c.drop (p+1),false,false,(0:Int),(0:Int),(0:Int),(jw N:Int),t.2.2.1,()) =
   some (.inl ((0:Int),false,false,(0:Int),(0:Int),(0:Int),(N:Int),c.take p++c.drop (p+1),false,false,(0:Int),(0:Int),(0:Int),(jw N:Int),())):=by
  rw[BR,f,BC,HV]
 simp only[this];rfl;simp only[AWf];have i:(c.take p++c.drop (p+1)).length<=400:=by grind
 have r:=qK j a b o q (jw N:Int) t.2.2.1 (k+1) (c.take p++c.drop (p+1)) 0 many (by omega) i (by omega) (by simp only[many];omega);rw[<- l,<- n,show((k+1:Nat):Int)-1=t.2.2.1 by omega]at r;have J:t.1.toNat=a:=by omega
 have K:t.2.1.toNat=b:=by omega
 have L:t.2.2.1.toNat+1=k+1:=by omega
 rw[J,K,L];rw[<- BR]at r;have s:A8 HV many ((0:Int),false,false,(0:Int),(0:Int),(0:Int),t.1,t.2.1,t.2.2.1,true,(N:Int),c.take p++c.drop (p+1),true,false,(0:Int),(0:Int),(0:Int),(jw N:Int),t.2.2.1,())=_:=r;simp only[s];cases (ZH N a b (jw N:Int) (k+1) (c.take p++c.drop (p+1)) 0).2.1 with
  |some e=>rfl
  |none=>rfl
 left;rw[AV9 d,AV9 d];refine⟨d,?_⟩;simp only[BB];rfl
theorem AJt(N u v:Nat)(top:Int):∀ (m:Nat) (O:List Tie) (r:Nat),(ZH N u v top m O r).1.length=O.length:=by
 intro m;induction m with
  |zero=>intro O r;rfl
  |succ m b=>intro O r;have a:=gi (Bi (CY N O u v m)) top m (O.map (rT (Bi (CY N O u v m)) top m));rw[AWQ]at a;rw[ZH];grind
theorem AHH(N:Nat)(a:List Tie)(p:Nat)(t:Tie):(iG N a p t).1.length<=a.length:=by unfold iG;split;rw[AJt,AWF,AWt,AXf];omega;grind
theorem AK8(n:Int)(a:List Tie)(b:a.length<=400)(u v:Int):∃ O w e,wx ((n,(a,())),u,v,())=some (n,O,w,e,())/\O.length<=a.length:=by
 rcases Ox n a (by omega)with⟨_,r⟩|⟨N,rfl,h⟩
 refine⟨a,AJD,1,?_,AV8 _⟩;rw[kf,kg];simp only[Z4 u v r,BB];rfl;rcases AK7 h u v with⟨_,e⟩|⟨_,_,e⟩|⟨_,_,t,_,e⟩
 grind;grind;exact⟨_,_,_,e,AHH _ _ _ _⟩
theorem AFG(n:Int)(a:List Tie)(B:a.length<=400)(l:List Edge)(u:l.length<1073741824):
  ∃ O w e,qS ((n,(a,())),l,())=some ((n,(O,())),w,e,())/\O.length<=a.length/\w.length<=4096:=by
 obtain⟨xs,e,v,C⟩:∃ xs e,gh ((n,(a,())),l,())=some (xs,e,())/\xs.length<=4096:=by
  rcases Ox n a (by omega)with⟨_,r⟩|⟨N,rfl,h⟩
  refine⟨[],1,?_,by simp⟩;rw[Z2,X9];grind;have q:=gg h l u;split at q;exact⟨_,_,q,iH N h.hN a l⟩;grind
 rw[qR,kr];simp only[v];cases D:(!(ieq e 0))
 have o:∀ (m i cnt:Nat) (O:List Tie) (outs:List (Bool×Bool×Edge×Int×Unit)),i+m=xs.length->m<cnt->O.length<=a.length->outs.length=i ->
   (∃ c,BC Hp cnt (n,a,(0:Int),outs,n,O,xs,(xs.length:Int),(i:Int),())=some (.inl (n,a,c,()))) \/
   (∃ b f,BC Hp cnt (n,a,(0:Int),outs,n,O,xs,(xs.length:Int),(i:Int),())=some (.inr (.inl ((0:Int),b,n,f,())))/\f.length<=a.length/\b.length<=xs.length):=by
  intro m
  induction m with
  |zero=>
   intro i cnt O outs hi x s t
   obtain⟨cnt,rfl⟩:∃ c,cnt=c+1:=⟨cnt-1,by omega⟩
   refine .inr ⟨outs,O,?_,s,by omega⟩
   rw[BC,Hp,A3,AV1 (by omega)]
  |succ m y=>
   intro i cnt O outs hi x s t
   obtain⟨cnt,rfl⟩:∃ c,cnt=c+1:=⟨cnt-1,by omega⟩
   have g:i<xs.length:=by omega
   have j:xs[i]? = some xs[i]:=AWC g
   obtain⟨f,w,c,z,E⟩:=AK8 n O (by omega) xs[i].1 xs[i].2.1
   have A:Hp (n,a,(0:Int),outs,n,O,xs,(xs.length:Int),(i:Int),())=if c=0 then some (.inl (n,a,(0:Int),outs++[w],n,f,xs,(xs.length:Int),((i+1:Nat):Int),()))else some (.inr (.inl (n,a,c,()))):=by
    rw[Hp,A3,AV2 g]
    simp only[A' j,Bu j,z,BB]
    rw[Bo (by simp only[A6,AWD,AWK];omega),A5 (by omega)]
    by_cases d:c=0
    ·rw[AWB d,AV2 d];rfl
    grind
   rw[BC,A]
   by_cases d:c=0
   ·rw[AWB d]
    exact y (i+1) cnt f (outs++[w]) (by omega) (by omega) (by omega) (by simp[t])
   grind
 have F:4294967296<many:=by simp only[many];omega
 rcases o xs.length 0 many a [] (by omega) (by omega) (AV8 _) rfl with⟨c,p⟩|⟨outs,O,p,G,H⟩
 have k:A8 Hp many (n,a,(0:Int),[],n,a,xs,A2 xs,(0:Int),())=_:=(BR _ _ _).trans p;simp only[k];grind;have k:A8 Hp many (n,a,(0:Int),[],n,a,xs,A2 xs,(0:Int),())=_:=(BR _ _ _).trans p;grind;grind
structure Tsk where
 lo:Nat
 hi:Nat
 up:Option Nat
 wait:Nat
theorem W6{l:List Nat}(b:l.Nodup){a:Nat}(c:a∈l){Q Q':Nat->Bool}(h:∀ j∈l,j≠a->Q' j=Q j):
  l.countP Q'+(Q a).toNat=l.countP Q+(Q' a).toNat:=by
 induction l with
  |nil=>cases c
  |cons x l f=>
   rw[AWz]at b;rw[List.countP_cons,List.countP_cons];by_cases d:x=a;subst d;have:l.countP Q'=l.countP Q:=by refine List.countP_congr fun j e => ?_;grind
   grind;grind
def L5(a:List Tsk)(A:List Nat)(j:Nat):Bool:=A.contains j||match a[j]? with
 |some t=>decide (0<t.wait)
 |none=>false
def J3(a:List Tsk)(A:List Nat)(i j:Nat):Bool:=match a[j]? with
 |some t=>decide (t.up=some i)&&L5 a A j
 |none=>false
def kids(a:List Tsk)(A:List Nat)(i:Nat):Nat:=(List.range a.length).countP (J3 a A i)
structure Tr(n:Nat)(ts:List Tsk)(A:List Nat)(u:Option Nat):Prop where
 tree:∀ (i:Nat) (t:Tsk),ts[i]? = some t->t.lo<t.hi/\t.hi<=n/\t.wait<=2/\(t.up=none->i=0)/\∀ x,t.up=some x->x<i
 nod:A.Nodup
 act:∀ a∈A,∃ t:Tsk,ts[a]? = some t/\t.wait=0
 leaf:∀ a∈A,∀ (j:Nat) (t:Tsk),ts[j]? = some t->t.up≠some a
 cnt:∀ (i:Nat) (t:Tsk),ts[i]? = some t->t.wait=kids ts A i+(if u=some i then 1 else 0)
theorem K5{a:List Tsk}{A:List Nat}{j:Nat}{t:Tsk}(h:a[j]? = some t):L5 a A j=true↔j∈A\/0<t.wait:=by unfold L5;grind
theorem Ns{a:List Tsk}{A:List Nat}{i:Nat}:0<kids a A i↔∃ (j:Nat) (t:Tsk),a[j]? = some t/\t.up=some i/\L5 a A j=true:=by unfold kids;rw[List.countP_pos_iff];constructor;rintro⟨j,_,h⟩;unfold J3 at h;grind;rintro⟨j,t,b,c,d⟩;refine⟨j,AWS.2 (AWH.1 b).1,?_⟩;unfold J3;grind
theorem Tr.descend{n:Nat}{a:List Tsk}{A:List Nat}(h:Tr n a A none):∀ (k i:Nat),a.length-i<=k->∀ t:Tsk,a[i]? = some t->L5 a A i=true->A≠[]:=by
 intro k;induction k with
  |zero=>grind
  |succ k l=>intro i m t c d;rcases(K5 c).1 d with b|b;grind;rw[h.cnt i t c]at b;simp at b;obtain⟨j,t',e,f,o⟩:=Ns.1 b;have g:=(h.tree j t' e).2.2.2.2 i f;grind
theorem Tr.AUf{n:Nat}{b:List Tsk}{A:List Nat}(h:Tr n b A none):∀ (i:Nat) (t:Tsk),b[i]? = some t->L5 b A i=true->L5 b A 0=true:=by
 intro i;induction i using Nat.strongRecOn with
  |ind i e=>
   intro t c f;cases d:t.up with
    |none=>have:=(h.tree i t c).2.2.2.1 d;grind
    |some x=>have g:=(h.tree i t c).2.2.2.2 x d;have j:=(AWH.1 c).1;have a:b[x]? = some (b[x]'(by omega)):=AWC (by omega);refine e x g _ a ((K5 a).2 (.inr ?_));rw[h.cnt x _ a];have:=Ns.2 ⟨i,t,c,d,f⟩;omega
def fin:Nat->List Tsk->Option Nat->List Tsk×Bool
 |_,ts,none=>(ts,true)
 |0,ts,some _=>(ts,false)
 |k+1,ts,some x=>match ts[x]? with
  |none=>(ts,false)
  |some t=>if t.wait=0 then(ts,false)else if 0<t.wait-1 then(ts.set x { t with wait:=t.wait-1 },false)else fin k (ts.set x { t with wait:=t.wait-1 }) t.up
def Alike(b a:List Tsk):Prop:=a.length=b.length/\∀ (i:Nat) (t:Tsk),b[i]? = some t->∃ t':Tsk,a[i]? = some t'/\t'.lo=t.lo/\t'.hi=t.hi/\t'.up=t.up
theorem Alike.refl(a:List Tsk):Alike a a:=⟨rfl,fun _ t h=>⟨t,h,rfl,rfl,rfl⟩⟩
theorem Alike.trans{a b c:List Tsk}(h:Alike a b)(k:Alike b c):Alike a c:=
 ⟨k.1.trans h.1,fun i t d=>by obtain⟨t',e,g,j,l⟩:=h.2 i t d;obtain⟨f,m,n,o,p⟩:=k.2 i t' e;grind⟩
theorem Sp{α:Type}{l:List α}{x i:Nat}{a t:α}(h:(l.set x a)[i]? = some t):(i=x/\t=a/\x<l.length)\/(i≠x/\l[i]? = some t):=by grind
theorem ZO{α:Type}{l:List α}{x:Nat}{a b:α}(h:l[x]? = some b):(l.set x a)[x]? = some a:=by grind
theorem APv{α:Type}{l:List α}{x i:Nat}{a:α}(h:i≠x):(l.set x a)[i]? = l[i]? := by grind
theorem Vt{a:List Tsk}{x:Nat}{t:Tsk}(h:a[x]? = some t)(w:Nat):Alike a (a.set x { t with wait:=w }):=by refine⟨by simp,fun i s b => ?_⟩;grind
theorem AMY{a:List Tsk}{A:List Nat}{x:Nat}{t:Tsk}(h:a[x]? = some t)(w:Nat)(i j:Nat)(b:j≠x):J3 (a.set x { t with wait:=w }) A i j=J3 a A i j:=by unfold J3 L5;grind
theorem YH{a:List Tsk}{A:List Nat}{x:Nat}{t:Tsk}(h:a[x]? = some t)(i:Nat):J3 a A i x=(decide (t.up=some i)&&(A.contains x||decide (0<t.wait))):=by unfold J3 L5;rw[h]
theorem AMX{a:List Tsk}{A:List Nat}{x:Nat}{t:Tsk}(h:a[x]? = some t)(w i:Nat):
  kids (a.set x { t with wait:=w }) A i+(decide (t.up=some i)&&(A.contains x||decide (0<t.wait))).toNat=kids a A i+(decide (t.up=some i)&&(A.contains x||decide (0<w))).toNat:=by unfold kids;rw[AYI];have:=W6 (l:=List.range a.length) AXg (AWS.2 (AWH.1 h).1) (Q:=J3 a A i) (Q':=J3 (a.set x { t with wait:=w }) A i) (fun j _ b=>AMY h w i j b);rw[YH h,YH (ZO h)]at this;omega
theorem AUO{n:Nat}:∀ (k:Nat) (b:List Tsk) (A:List Nat) (u:Option Nat),Tr n b A u->(∀ x,u=some x->x<k/\x<b.length/\x∉A)->(u=none->L5 b A 0=false) ->
  ∃ e,fin k b u=(e,A.isEmpty)/\Tr n e A none/\Alike b e:=by
 have E:∀ {b:List Tsk} {A:List Nat},Tr n b A none->L5 b A 0=false->A.isEmpty=true:=by
  intro b A h N;cases A with
   |nil=>rfl
   |cons a A=>obtain⟨t,p,_⟩:=h.act a (by simp);have:=h.AUf a t p ((K5 p).2 (.inl (by simp)));grind
 intro k;induction k with
  |zero=>
   intro b A u h D p;cases u with
    |some x=>grind
    |none=>exact⟨b,by unfold fin;grind,h,Alike.refl b⟩
  |succ k F=>
   intro b A u h D p;cases u with
    |none=>exact⟨b,by unfold fin;grind,h,Alike.refl b⟩
    |some x=>
     obtain⟨O,G,P⟩:=D x rfl;have d:b[x]? = some (b[x]):=AWC G;generalize b[x]=t at d;have H:=h.cnt x t d;rw[AWB rfl]at H;have o:A.contains x=false:=by grind
     have w:=fun i=>AMX (A:=A) d (t.wait-1) i;have z:=h.tree x t d;have f:∀ (i:Nat) (s:Tsk),(b.set x { t with wait:=t.wait-1 })[i]? = some s->s.lo<s.hi/\s.hi<=n/\s.wait<=2/\(s.up=none->i=0)/\∀ x,s.up=some x->x<i:=by
      intro i s c;rcases Sp c with⟨rfl,rfl,_⟩|⟨_,c⟩
      grind;exact h.tree i s c
     have l:∀ a∈A,∃ s:Tsk,(b.set x { t with wait:=t.wait-1 })[a]? = some s/\s.wait=0:=fun a q=>by rw[APv (by grind)];exact h.act a q
     have g:∀ a∈A,∀ (j:Nat) (s:Tsk),(b.set x { t with wait:=t.wait-1 })[j]? = some s->s.up≠some a:=by
      intro a q j s c;rcases Sp c with⟨rfl,rfl,_⟩|⟨_,c⟩
      exact h.leaf a q j t d;exact h.leaf a q j s c
     by_cases r:0<t.wait-1;have m:∀ i,kids (b.set x { t with wait:=t.wait-1 }) A i=kids b A i:=fun i=>by have:=w i;rw[o,AV2 r,AV2 (show 0<t.wait by omega)]at this;omega
     have v:Tr n (b.set x { t with wait:=t.wait-1 }) A none:=⟨f,h.nod,l,g,fun i s c=>by
      rw[m];rcases Sp c with⟨rfl,rfl,_⟩|⟨B,c⟩
      grind;rw[h.cnt i s c,AV9 (by grind)];simp⟩
     refine⟨_,?_,v,Vt d _⟩;unfold fin;rw[d];simp only;rw[AV9 (by omega),AWB r];have:A≠[]:=v.descend _ x (AV8 _) _ (ZO d) ((K5 (ZO d)).2 (.inr r));grind
     ·have I:t.wait=1:=by omega
      have C:∀ i,kids (b.set x { t with wait:=t.wait-1 }) A i+(decide (t.up=some i)).toNat=kids b A i:=fun i=>by grind
      have v:Tr n (b.set x { t with wait:=t.wait-1 }) A t.up:=⟨f,h.nod,l,g,fun i s c=>by
       have Q:=C i;rcases Sp c with⟨rfl,rfl,_⟩|⟨B,c⟩
       grind;·rw[h.cnt i s c,AV9 (by grind)];by_cases R:t.up=some i;all_goals grind⟩
      obtain⟨e,J,K,L⟩:=F _ A t.up v (fun y S=>by
       grind) (fun M=>by
       have:=z.2.2.2.1 M;subst this;have:¬ L5 (b.set 0 { t with wait:=t.wait-1 }) A 0=true:=by rw[K5 (ZO d)];grind
       grind)
      refine⟨e,?_,K,(Vt d _).trans L⟩;unfold fin;rw[d];simp only;rw[AV9 (by omega),AV9 r,J]
theorem Tr.part{n:Nat}{b:List Tsk}{a:Nat}{A:List Nat}(h:Tr n b (a::A) none){t:Tsk}(o:b[a]? = some t){B5:Nat}(I:t.lo<B5)(J:B5<t.hi):
  Tr n (b.set a { t with wait:=2 }++[⟨t.lo,B5,some a,0⟩,⟨B5,t.hi,some a,0⟩]) (b.length::(b.length+1)::A) none:=by
 have B:=(AWH.1 o).1;have g:=h.nod;rw[AWz]at g;have C:∀ x∈A,x<b.length:=fun x d=>by obtain⟨s,f,_⟩:=h.act x (by simp[d]);grind
 have c:∀ {i:Nat} {s:Tsk},(b.set a { t with wait:=2 }++[⟨t.lo,B5,some a,0⟩,⟨B5,t.hi,some a,0⟩])[i]? = some s ->
   (i=a/\s = { t with wait:=2 })\/(i≠a/\i<b.length/\b[i]? = some s)\/(i=b.length/\s=⟨t.lo,B5,some a,0⟩)\/(i=b.length+1/\s=⟨B5,t.hi,some a,0⟩):=by
  grind
 have u:=h.tree a t o;have k:∀ {i:Nat} {s:Tsk},i≠a->b[i]? = some s->(b.set a { t with wait:=2 }++[⟨t.lo,B5,some a,0⟩,⟨B5,t.hi,some a,0⟩])[i]? = some s:=by grind
 have y:(b.set a { t with wait:=2 }++[⟨t.lo,B5,some a,0⟩,⟨B5,t.hi,some a,0⟩])[a]? = some { t with wait:=2 }:=by grind
 have D:(b.set a { t with wait:=2 }++[⟨t.lo,B5,some a,0⟩,⟨B5,t.hi,some a,0⟩])[b.length]? = some ⟨t.lo,B5,some a,0⟩:=by simp
 have E:(b.set a { t with wait:=2 }++[⟨t.lo,B5,some a,0⟩,⟨B5,t.hi,some a,0⟩])[b.length+1]? = some ⟨B5,t.hi,some a,0⟩:=by simp
 refine⟨?_,?_,?_,?_,?_⟩
 ·intro i s f;rcases c f with⟨rfl,rfl⟩|⟨_,_,f⟩|⟨rfl,rfl⟩|⟨rfl,rfl⟩
  grind;exact h.tree i s f;all_goals grind
 grind;intro x d;simp only[AWO]at d;rcases d with rfl|rfl|d;simp;simp;obtain⟨s,f,K⟩:=h.act x (by simp[d]);grind
 ·intro x d j s f;simp only[AWO]at d;have F:x≠a:=by grind
  rcases c f with⟨rfl,rfl⟩|⟨_,p,f⟩|⟨rfl,rfl⟩|⟨rfl,rfl⟩
  show t.up≠some x;intro e;have:=u.2.2.2.2 x e;rcases d with rfl|rfl|d;omega;omega;exact h.leaf x (by simp[d]) j t o e;intro e;have:=(h.tree j s f).2.2.2.2 x e;rcases d with rfl|rfl|d;omega;omega;exact h.leaf x (by simp[d]) j s f e;all_goals grind
 intro i s f;have G:kids (b.set a { t with wait:=2 }++[⟨t.lo,B5,some a,0⟩,⟨B5,t.hi,some a,0⟩]) (b.length::(b.length+1)::A) i=kids b (a::A) i+if i=a then 2 else 0:=by
  unfold kids;rw[AWF,AYI];show(List.range (b.length+2)).countP _=_;rw[AWX,AWX,List.countP_append,List.countP_append];have z:(List.range b.length).countP (J3 (b.set a { t with wait:=2 }++[⟨t.lo,B5,some a,0⟩,⟨B5,t.hi,some a,0⟩]) (b.length::(b.length+1)::A) i)=(List.range b.length).countP (J3 b (a::A) i):=by
   refine List.countP_congr fun j p => ?_;rw[AWS]at p;by_cases l:j=a;subst l;unfold J3 L5;grind;have m:b[j]? = some b[j]:=AWC p;unfold J3 L5;rw[k l m,m];have q:¬ j=b.length:=by omega
   have r:¬ j=b.length+1:=by omega
   grind
  rw[z];have H:J3 (b.set a { t with wait:=2 }++[⟨t.lo,B5,some a,0⟩,⟨B5,t.hi,some a,0⟩]) (b.length::(b.length+1)::A) i b.length=decide (i=a):=by unfold J3 L5;grind
  have L:J3 (b.set a { t with wait:=2 }++[⟨t.lo,B5,some a,0⟩,⟨B5,t.hi,some a,0⟩]) (b.length::(b.length+1)::A) i (b.length+1)=decide (i=a):=by unfold J3 L5;grind
  grind
 rw[G];rcases c f with⟨rfl,rfl⟩|⟨v,p,f⟩|⟨rfl,rfl⟩|⟨rfl,rfl⟩
 have:=h.cnt i t o;obtain⟨t',z,H⟩:=h.act i (by simp);grind;rw[AV9 v];exact h.cnt i s f;rw[AV9 (by omega)];have:kids b (a::A) b.length=0:=by refine Nat.eq_zero_of_not_pos fun w => ?_;obtain⟨j,s,q,r,_⟩:=Ns.1 w;have:=(h.tree j s q).2.2.2.2 _ r;grind
 grind;rw[AV9 (by omega)];have:kids b (a::A) (b.length+1)=0:=by refine Nat.eq_zero_of_not_pos fun w => ?_;obtain⟨j,s,q,r,_⟩:=Ns.1 w;have:=(h.tree j s q).2.2.2.2 _ r;grind
 grind
theorem AGr{a:List Tsk}{A B:List Nat}(h:A.Perm B)(i:Nat):kids a A i=kids a B i:=by unfold kids;refine List.countP_congr fun j _ => ?_;unfold J3 L5;grind
theorem Tr.perm{n:Nat}{d:List Tsk}{A B:List Nat}(h:Tr n d A none)(b:A.Perm B):Tr n d B none:=
 ⟨h.tree,b.nodup_iff.1 h.nod,fun a c=>h.act a (b.mem_iff.2 c),fun a c=>h.leaf a (b.mem_iff.2 c),fun i t e=>by rw[<- AGr b];exact h.cnt i t e⟩
theorem Tr.did{n:Nat}{b:List Tsk}{a:Nat}{A:List Nat}(h:Tr n b (a::A) none){t:Tsk}(d:b[a]? = some t):
  ∃ e,fin b.length b t.up=(e,A.isEmpty)/\Tr n e A none/\Alike b e:=by
 have c:=h.nod;rw[AWz]at c;have k:=(AWH.1 d).1;obtain⟨t',m,o⟩:=h.act a (by simp);rw[d]at m;cases m;have g:=h.tree a t d;have p:∀ i,kids b A i+(decide (t.up=some i)).toNat=kids b (a::A) i:=by
  intro i;unfold kids;have:=W6 (l:=List.range b.length) AXg (AWS.2 k) (Q:=J3 b (a::A) i) (Q':=J3 b A i) (fun j _ v=>by unfold J3 L5;grind)
  rw[YH d,YH d,o]at this;grind
 refine AUO b.length b A t.up ⟨h.tree,c.2,fun x f=>h.act x (by simp[f]),fun x f=>h.leaf x (by simp[f]),fun i s q => ?_⟩ (fun x f => ?_) (fun r => ?_);have w:=p i;have y:=h.cnt i s q;grind;have:=g.2.2.2.2 x f;exact⟨by omega,by omega,fun u=>h.leaf x (by grind) a t d f⟩;have:=g.2.2.2.1 r;subst this;have:¬ L5 b A 0=true:=by rw[K5 d];grind
 grind
def rng(b:List Tsk)(a:Nat):List Nat:=match b[a]? with
 |some t=>List.range' t.lo (t.hi-t.lo)
 |none=>[]
def M8(b:List Tsk)(a:Nat):Nat:=match b[a]? with
 |some t=>2*(t.hi-t.lo)-1
 |none=>0
def pot(a:List Tsk)(A:List Nat):Nat:=(A.map (M8 a)).sum
def PY(a:List Bool)(b:Nat):Nat->List Bool
 |0=>a
 |k+1=>(PY a b k).set (b+k) true
theorem AGR(a:List Bool)(b k:Nat):(PY a b k).length=a.length:=by
 induction k with
  |zero=>rfl
  |succ k c=>unfold PY;grind
theorem AGS(b:List Bool)(a k u:Nat)(c:u<b.length):(PY b a k)[u]? = some (decide (a<=u/\u<a+k)||b[u]):=by
 induction k with
  |zero=>
   have:¬ (a<=u/\u<a+0):=by omega
   rw[AV1 this];exact AWC c
  |succ k d=>unfold PY;rw[AX7];by_cases h:a+k=u;rw[AWB h,AWB (by grind),AV2 (by omega)];rfl;rw[AV9 h,d];congr 2;grind
structure Iv(n:Nat)(ts:List Tsk)(dn:List Bool)(A U:List Nat)(D:Nat):Prop where
 len:dn.length=n
 tr:Tr n ts A none
 units:(A.flatMap (rng ts)++U).Perm (List.range n)
 dn:∀ u,u<n->dn[u]? = some (decide (u∈U))
 size:ts.length+1=2*(A.length+D)
 dle:D<=U.length
theorem ma{α β:Type}{l a:List α}(h:l.Perm a)(f:α->List β):(l.flatMap f).Perm (a.flatMap f):=by
 induction h with
  |nil=>simp
  |cons x _ b=>rw[AW7,AW7];exact b.append_left _
  |swap x y l=>simp only[AW7,<- AXX];exact List.perm_append_comm.append_right _
  |trans _ _ c d=>exact c.trans d
theorem Iv.perm{n:Nat}{b:List Tsk}{c:List Bool}{A B U:List Nat}{D:Nat}(h:Iv n b c A U D)(a:A.Perm B):Iv n b c B U D:=
 ⟨h.len,h.tr.perm a,((ma a.symm _).append_right _).trans h.units,h.dn,by rw[<- a.length_eq];exact h.size,h.dle⟩
theorem Zx{a:List Tsk}{A B:List Nat}(b:A.Perm B):pot a A=pot a B:=(b.map _).sum_nat
theorem K0{c b:List Tsk}(h:Alike c b){a:Nat}(d:a<c.length):rng b a=rng c a/\M8 b a=M8 c a:=by have e:c[a]? = some c[a]:=AWC d;obtain⟨t',f,g,i,_⟩:=h.2 a _ e;unfold rng M8;grind
theorem Iv.lt{n:Nat}{b:List Tsk}{c:List Bool}{A U:List Nat}{D:Nat}(h:Iv n b c A U D){a:Nat}(d:a∈A):a<b.length:=by obtain⟨t,e,_⟩:=h.tr.act a d;grind
theorem Jg{α β:Type}{l:List α}{f g:α->List β}(h:∀ x∈l,f x=g x):l.flatMap f=l.flatMap g:=by
 induction l with
  |nil=>rfl
  |cons x l a=>grind
theorem kX{a B5 hi:Nat}(b:a<=B5)(c:B5<=hi):List.range' a (B5-a)++List.range' B5 (hi-B5)=List.range' a (hi-a):=by have:=List.range'_append_1 (s:=a) (m:=B5-a) (n:=hi-B5);grind
theorem Iv.part{n:Nat}{b:List Tsk}{i:List Bool}{a:Nat}{A U:List Nat}{D:Nat}(h:Iv n b i (a::A) U D){t:Tsk}(g:b[a]? = some t){B5:Nat}(o:t.lo<B5)(p:B5<t.hi):
  Iv n (b.set a { t with wait:=2 }++[⟨t.lo,B5,some a,0⟩,⟨B5,t.hi,some a,0⟩]) i (b.length::(b.length+1)::A) U D /\
  pot (b.set a { t with wait:=2 }++[⟨t.lo,B5,some a,0⟩,⟨B5,t.hi,some a,0⟩]) (b.length::(b.length+1)::A)<pot b (a::A) /\
  ∀ x,x<b.length->rng (b.set a { t with wait:=2 }++[⟨t.lo,B5,some a,0⟩,⟨B5,t.hi,some a,0⟩]) x=rng b x:=by
 have c:∀ x,x<b.length->rng (b.set a { t with wait:=2 }++[⟨t.lo,B5,some a,0⟩,⟨B5,t.hi,some a,0⟩]) x=rng b x/\M8 (b.set a { t with wait:=2 }++[⟨t.lo,B5,some a,0⟩,⟨B5,t.hi,some a,0⟩]) x=M8 b x:=by intro x d;have j:=K0 (Vt g 2) d;rw[<- j.1,<- j.2];unfold rng M8;grind
 have e:(b.set a { t with wait:=2 }++[⟨t.lo,B5,some a,0⟩,⟨B5,t.hi,some a,0⟩])[b.length]? = some ⟨t.lo,B5,some a,0⟩:=by simp
 have f:(b.set a { t with wait:=2 }++[⟨t.lo,B5,some a,0⟩,⟨B5,t.hi,some a,0⟩])[b.length+1]? = some ⟨B5,t.hi,some a,0⟩:=by simp
 have k:∀ x∈A,x<b.length:=fun x d=>h.lt (by simp[d]);refine⟨⟨h.len,h.tr.part g o p,?_,h.dn,?_,h.dle⟩,?_,fun x d=>(c x d).1⟩;rw[AW7,AW7,Jg fun x d=>(c x (k x d)).1];have l:rng (b.set a { t with wait:=2 }++[⟨t.lo,B5,some a,0⟩,⟨B5,t.hi,some a,0⟩]) b.length=List.range' t.lo (B5-t.lo):=by unfold rng;rw[e]
 have m:rng (b.set a { t with wait:=2 }++[⟨t.lo,B5,some a,0⟩,⟨B5,t.hi,some a,0⟩]) (b.length+1)=List.range' B5 (t.hi-B5):=by unfold rng;rw[f]
 rw[l,m,<- AXX,kX (by omega) (by omega)];have:=h.units;rw[AW7]at this;have q:rng b a=List.range' t.lo (t.hi-t.lo):=by unfold rng;rw[g]
 grind;have:=h.size;grind;unfold pot;rw[AWW,AWW,AWW,List.sum_cons,List.sum_cons,List.sum_cons,AXo fun x d=>(c x (k x d)).2];have l:M8 (b.set a { t with wait:=2 }++[⟨t.lo,B5,some a,0⟩,⟨B5,t.hi,some a,0⟩]) b.length=2*(B5-t.lo)-1:=by unfold M8;rw[e]
 have m:M8 (b.set a { t with wait:=2 }++[⟨t.lo,B5,some a,0⟩,⟨B5,t.hi,some a,0⟩]) (b.length+1)=2*(t.hi-B5)-1:=by unfold M8;rw[f]
 have q:M8 b a=2*(t.hi-t.lo)-1:=by unfold M8;rw[g]
 omega
theorem Iv.did{n:Nat}{c:List Tsk}{g:List Bool}{a:Nat}{A U:List Nat}{D:Nat}(h:Iv n c g (a::A) U D){t:Tsk}(e:c[a]? = some t):
  ∃ b,fin c.length c t.up=(b,A.isEmpty)/\Iv n b (PY g t.lo (t.hi-t.lo)) A (U++rng c a) (D+1)/\pot b A<pot c (a::A)/\Alike c b:=by
 obtain⟨b,k,l,f⟩:=h.tr.did e;have i:∀ x∈A,x<c.length:=fun x d=>h.lt (by simp[d]);have m:=h.tr.tree a t e;have o:rng c a=List.range' t.lo (t.hi-t.lo):=by unfold rng;rw[e]
 refine⟨b,k,⟨by rw[AGR];exact h.len,l,?_,?_,?_,?_⟩,?_,f⟩;rw[Jg fun x d=>(K0 f (i x d)).1];refine List.Perm.trans ?_ h.units;grind;intro u j;rw[AGS _ _ _ _ (by rw[h.len];exact j)];have p:=h.dn u j;grind;rw[f.1];have:=h.size;grind;rw[AWF,o,List.length_range'];have:=h.dle;omega;unfold pot;rw[AWW,List.sum_cons,AXo fun x d=>(K0 f (i x d)).2];have:M8 c a=2*(t.hi-t.lo)-1:=by unfold M8;rw[e]
 omega
theorem Iv.bound{n:Nat}{b:List Tsk}{d:List Bool}{A U:List Nat}{D:Nat}(h:Iv n b d A U D):A.length+D<=n:=by
 have c:=h.units.length_eq;rw[AWF,AWJ]at c;have g:A.length<=(A.flatMap (rng b)).length:=by
  have i:∀ x∈A,0<(rng b x).length:=fun x e=>by obtain⟨t,f,_⟩:=h.tr.act x e;have:=(h.tr.tree x t f).1;unfold rng;grind
  clear c h;induction A with
   |nil=>simp
   |cons a A j=>grind
 have:=h.dle;omega
theorem Iv.AUa{n:Nat}{b:List Tsk}{d:List Bool}{a:Nat}{A U:List Nat}{D:Nat}(h:Iv n b d (a::A) U D){t:Tsk}(e:b[a]? = some t){B5:Nat}(f:t.lo<B5)(g:B5<t.hi):b.length+2+1<=2*n:=by have c:=(h.part e f g).1;have:=c.bound;have i:=c.size;grind
theorem Iv.ATC{n:Nat}{c:List Tsk}{d:List Bool}{A U:List Nat}{D:Nat}(h:Iv n c d A U D){a:Nat}(e:a∈A){t:Tsk}(f:c[a]? = some t):d[t.lo]? = some false:=by have g:=h.tr.tree a t f;rw[h.dn t.lo (by omega)];congr 1;rw[AWY];intro i;have b:=(h.units.nodup_iff).2 AXg;rw[List.nodup_append]at b;refine b.2.2 t.lo (AYD.2 ⟨a,e,?_⟩) t.lo i rfl;unfold rng;grind
structure Crw where
 ts:List Tsk
 dn:List Bool
 ds:List (List Nat)
 ov:Bool
 st:Nat
 idl:Nat
structure Evt where
 w:Nat
 ft:Option (Nat×Nat)
 pt:Bool
def found(ds:List (List Nat))(p v:Nat):Option (Nat×Nat×List (List Nat)):=
 match(ds.getD p []).getLast? with
 |some t=>some (t,p,ds.set p (ds.getD p []).dropLast)
 |none=>match ds.getD v []with
  |t::r=>some (t,v,ds.set v r)
  |[]=>none
def B5(k:Tsk):Nat:=k.lo+(k.hi-k.lo)/2
def stp(g:Nat)(c:Crw)(p v:Nat):Crw×Evt:=
 match found c.ds p v with
 |none=>({ c with st:=c.st+1,idl:=c.idl+1 },⟨p,none,false⟩)
 |some (t,f,ds)=>match c.ts[t]? with
  |none=>(c,⟨p,none,false⟩)
  |some k=>if g<k.hi-k.lo then
    ({ c with ts:=c.ts.set t { k with wait:=2 }++[⟨k.lo,B5 k,some t,0⟩,⟨B5 k,k.hi,some t,0⟩],ds:=ds.set p (ds.getD p []++[c.ts.length+1,c.ts.length]),st:=c.st+1 },⟨p,some (f,t),true⟩)
   else({ ts:=(fin c.ts.length c.ts k.up).1,dn:=PY c.dn k.lo (k.hi-k.lo),ds:=ds,ov:=c.ov||(fin c.ts.length c.ts k.up).2,st:=c.st+1,idl:=c.idl },⟨p,some (f,t),false⟩)
theorem ANM{α:Type}{l:List α}{i:Nat}{a d:α}(h:l[i]? = some a):l.getD i d=a:=by grind
theorem mZ{l:List (List Nat)}{p:Nat}{x:List Nat}(h:l[p]? = some x)(y:List Nat):∃ R,l.flatten.Perm (x++R)/\(l.set p y).flatten.Perm (y++R):=by
 induction l generalizing p with
  |nil=>simp at h
  |cons a l b=>
   cases p with
    |zero=>grind
    |succ p=>obtain⟨R,c,d⟩:=b (by simpa using h);refine⟨a++R,?_,?_⟩;all_goals grind
theorem bk{ds:List (List Nat)}{p v t f:Nat}{ds':List (List Nat)}(i:p<ds.length)(j:v<ds.length)(h:found ds p v=some (t,f,ds')):ds.flatten.Perm (t::ds'.flatten)/\ds'.length=ds.length/\f<ds.length:=by
 have b:ds[p]? = some (ds.getD p []):=by grind
 have c:ds[v]? = some (ds.getD v []):=by grind
 unfold found at h;split at h;rename_i x a;simp only[AV3,AWI]at h;obtain⟨rfl,rfl,rfl⟩:=h;obtain⟨ys,d⟩:=AYZ.1 a;rw[d,List.dropLast_concat];rw[d]at b;obtain⟨R,e,g⟩:=mZ b ys;grind;split at h;rename_i x r a;simp only[AV3,AWI]at h;obtain⟨rfl,rfl,rfl⟩:=h;rw[a]at c;obtain⟨R,e,g⟩:=mZ c r;grind;grind
theorem zU{ds:List (List Nat)}{p v:Nat}(h:found ds p v=none):ds.getD p []=[]/\ds.getD v []=[]:=by unfold found at h;split at h;cases h;·rename_i a;split at h;all_goals simp_all
def evU(a:List Tsk)(E:List Evt):List Nat:=E.flatMap fun e=>match e.ft with
 |some (_,t)=>if e.pt then []else rng a t
 |none=>[]
structure StI(n W:Nat)(c:Crw)(E:List Evt):Prop where
 iv:∃ D,Iv n c.ts c.dn c.ds.flatten (evU c.ts E) D
 ov:c.ov=c.ds.flatten.isEmpty
 w:c.ds.length=W
 ev:∀ e∈E,∀ f t,e.ft=some (f,t)->t<c.ts.length
 st:c.st=E.length
 idl:c.idl<=E.length
theorem YO(a:List Tsk)(E b:List Evt):evU a (E++b)=evU a E++evU a b:=by unfold evU;simp
theorem iR{b a:List Tsk}{E:List Evt}(c:∀ e∈E,∀ f t,e.ft=some (f,t)->t<b.length)(h:∀ x,x<b.length->rng a x=rng b x):evU a E=evU b E:=by unfold evU;refine Jg fun e d => ?_;grind
theorem j8{g n W:Nat}{c:Crw}{E:List Evt}{p v:Nat}(S:1<=g)(h:StI n W c E)(B:p<W)(F:v<W):
  StI n W (stp g c p v).1 (E++[(stp g c p v).2]) /\
  (((stp g c p v).1.ds=c.ds/\(stp g c p v).1.ts=c.ts/\c.ds.getD p []=[])\/pot (stp g c p v).1.ts (stp g c p v).1.ds.flatten<pot c.ts c.ds.flatten):=by
 obtain⟨D,l⟩:=h.iv;unfold stp;cases C:found c.ds p v with
  |none=>refine⟨⟨⟨D,?_⟩,h.ov,h.w,?_,by simp[h.st],by have:=h.idl;grind⟩,.inl ⟨rfl,rfl,(zU C).1⟩⟩;rw[YO];simpa [evU]using l;intro e b f t i;rcases AWL.1 b with b|b;exact h.ev e b f t i;grind
  |some q=>
   obtain⟨t,f,ds'⟩:=q;obtain⟨s,u,T⟩:=bk (by rw[h.w];exact B) (by rw[h.w];exact F) C;have d:=l.perm s;obtain⟨k,m,G⟩:=d.tr.act t (by simp);have H:=d.tr.tree t k m;have y:=(AWH.1 m).1;simp only[m];by_cases o:g<k.hi-k.lo;rw[AWB o];have I:k.lo<B5 k:=by unfold B5;omega
   have J:B5 k<k.hi:=by unfold B5;omega
   obtain⟨K,L,M⟩:=d.part m I J;have r:p<ds'.length:=by rw[u,h.w];exact B
   obtain⟨R,U,V⟩:=mZ (p:=p) (x:=ds'.getD p []) (by rw[AWC r,ANM (AWC r)]) (ds'.getD p []++[c.ts.length+1,c.ts.length]);have a:(c.ts.length::(c.ts.length+1)::ds'.flatten).Perm (ds'.set p (ds'.getD p []++[c.ts.length+1,c.ts.length])).flatten:=by grind
   refine⟨⟨⟨D,?_⟩,?_,by simp[u,h.w],?_,by simp[h.st],by have:=h.idl;grind⟩,.inr ?_⟩;rw[YO,iR h.ev M];have:=K.perm a;simpa [evU]using this;show c.ov=_;rw[h.ov];have N:c.ds.flatten≠[]:=by intro e;simp_all
   have X:(ds'.set p (ds'.getD p []++[c.ts.length+1,c.ts.length])).flatten≠[]:=by intro e;rw[e]at a;simp_all
   grind;intro e b z t' i;rcases AWL.1 b with b|b;have:=h.ev e b z t' i;grind;grind;show pot _ _<_;rw[<- Zx a,Zx s];exact L;rw[AV9 o];obtain⟨j,O,Y,P,A⟩:=d.did m;rw[O];refine⟨⟨⟨D+1,?_⟩,?_,by rw[<- h.w];exact u,?_,by simp[h.st],by have:=h.idl;grind⟩,.inr ?_⟩;show Iv n j _ ds'.flatten (evU j _) _;rw[YO,iR h.ev fun x Q=>(K0 A Q).1];have:evU j [⟨p,some (f,t),false⟩]=rng c.ts t:=by unfold evU;simp[(K0 A y).1]
   grind;show(c.ov||_)=_;rw[h.ov];have N:c.ds.flatten≠[]:=by intro e;simp_all
   grind;intro e b z t' i;show t'<j.length;rw[A.1];rcases AWL.1 b with b|b;exact h.ev e b z t' i;grind;show pot j _<_;rw[Zx s];exact P
def BL(g W:Nat)(c:Crw×List Evt):Nat->Crw×List Evt
 |0=>c
 |t+1=>let s:=BL g W c t
  if s.1.ov then s else
   let x:=stp g s.1 (t % W) ((t % W+1+t/W) % W)
   (x.1,s.2++[x.2])
theorem Xz{g n W:Nat}(b:1<=g)(a:0<W){c:Crw×List Evt}(h:StI n W c.1 c.2):∀ t,StI n W (BL g W c t).1 (BL g W c t).2/\(BL g W c t).2.length<=c.2.length+t:=by
 intro t;induction t with
  |zero=>exact⟨h,AV8 _⟩
  |succ t d=>unfold BL;simp only;split;grind;refine⟨(j8 b d.1 (AYM _ a) (AYM _ a)).1,?_⟩;grind
theorem P8{g W:Nat}{c:Crw×List Evt}{t:Nat}(h:(BL g W c t).1.ov=true):∀ d,BL g W c (t+d)=BL g W c t:=by
 intro d;induction d with
  |zero=>rfl
  |succ d a=>rw[<- AYG];show(let s:=BL g W c (t+d);if s.1.ov then s else _)=_;grind
theorem vn{g n W:Nat}(d:1<=g)(a:0<W){c:Crw×List Evt}(h:StI n W c.1 c.2)(r:Nat):∀ j,j<=W ->
  (∃ i,i<=j/\(BL g W c (r*W+i)).1.ov=true)\/pot (BL g W c (r*W+j)).1.ts (BL g W c (r*W+j)).1.ds.flatten<pot (BL g W c (r*W)).1.ts (BL g W c (r*W)).1.ds.flatten \/
  ((BL g W c (r*W+j)).1.ds=(BL g W c (r*W)).1.ds/\(BL g W c (r*W+j)).1.ts=(BL g W c (r*W)).1.ts/\∀ i,i<j->(BL g W c (r*W)).1.ds.getD i []=[]):=by
 intro j;induction j with
  |zero=>simp
  |succ j k=>
   intro l;by_cases e:(BL g W c (r*W+j)).1.ov=true;grind;have b:BL g W c (r*W+(j+1))=((stp g (BL g W c (r*W+j)).1 j ((j+1+r) % W)).1,(BL g W c (r*W+j)).2++[(stp g (BL g W c (r*W+j)).1 j ((j+1+r) % W)).2]):=by
    rw[<- AYG];show(let s:=BL g W c (r*W+j);if s.1.ov then s else _)=_;simp only;rw[AV9 e];have m:(r*W+j) % W=j:=by rw[Nat.add_comm,Nat.add_mul_mod_self_right];exact AXI (by omega)
    have o:(r*W+j)/W=r:=by rw[Nat.add_comm,Nat.add_mul_div_right _ _ a,Nat.div_eq_of_lt (by omega),AWs]
    grind
   have f:=j8 (p:=j) (v:=(j+1+r) % W) d (Xz d a h (r*W+j)).1 (by omega) (AYM _ a);grind
theorem flatten_nil{l:List (List Nat)}(h:∀ i,i<l.length->l.getD i []=[]):l.flatten=[]:=by
 induction l with
  |nil=>rfl
  |cons a l c=>have b:=h 0 (by simp);simp at b;rw[AYi,b,AWh];refine c fun i hi => ?_;have:=h (i+1) (by grind);grind
theorem AEO{g n W:Nat}(d:1<=g)(e:0<W){c:Crw×List Evt}(h:StI n W c.1 c.2):(BL g W c ((pot c.1.ts c.1.ds.flatten+1)*W)).1.ov=true:=by
 have f:∀ r,(BL g W c (r*W)).1.ov=true\/pot (BL g W c (r*W)).1.ts (BL g W c (r*W)).1.ds.flatten+r<=pot c.1.ts c.1.ds.flatten:=by
  intro r;induction r with
   |zero=>rw[AXt];exact .inr (AV8 _)
   |succ r o=>
    rw[AXO,AYA];rcases o with a|a;exact .inl (by rw[P8 a];exact a);rcases vn d e h r W (AV8 _)with⟨i,j,k⟩|j|⟨j,k,p⟩
    refine .inl ?_;have:=P8 k (W-i);grind;omega;have m:=(Xz d e h (r*W)).1;have:=flatten_nil (l:=(BL g W c (r*W)).1.ds) (fun i hi=>p i (by rw[m.w]at hi;exact hi));have b:=m.ov;rw[this]at b;exact .inl (by rw[P8 b];exact b)
 grind
theorem StI.done{n W:Nat}{c:Crw}{E:List Evt}(h:StI n W c E)(d:c.ov=true):(evU c.ts E).Perm (List.range n):=by obtain⟨D,a⟩:=h.iv;have b:=h.ov;rw[d]at b;have:=List.isEmpty_iff.1 b.symm;have e:=a.units;grind
abbrev TkI:=Int×Int×Int×Int×Unit
def Lr:Option Nat->Int
 |none=>-1
 |some u=>(u:Int)
def BJ(t:Tsk):TkI:=((t.lo:Int),(t.hi:Int),Lr t.up,(t.wait:Int),())
abbrev PM(g:Nat)(ts:List Tsk)(dn:List Bool):List TkI×Int×List Bool×Unit:=(ts.map BJ,(g:Int),dn,())
structure Wok(g:Nat)(ts:List Tsk)(dn:List Bool):Prop where
 g1:1<=g
 g2:g<=100
 n1:1<=dn.length
 n2:dn.length<=1000
 t1:1<=ts.length
 t2:ts.length<=2000
 ok:∀ (i:Nat) (t:Tsk),ts[i]? = some t->t.lo<t.hi/\t.hi<=dn.length/\t.wait<=2/\∀ x,t.up=some x->x<i
theorem PS(a b:Int):Kt (a,b,())=some (decide (1<=a/\a<=1000/\1<=b/\b<=100),()):=by rw[Rf,NL,BM,BM,BM,BM];grind
theorem APF{u:Option Nat}{i:Nat}(h:∀ x,u=some x->x<i):-1<=Lr u/\Lr u<(i:Int):=by
 cases u with
  |none=>simp only[Lr];omega
  |some x=>have:=h x rfl;simp only[Lr];omega
theorem HY{a:List Tsk}{i:Nat}{t:Tsk}(h:a[i]? = some t):(a.map BJ)[i]? = some (BJ t):=by grind
theorem WH{g:Nat}{a:List Tsk}{b:List Bool}(h:Wok g a b):Rb (PM g a b,())=some (true,()):=by
 have:=h.g1;have:=h.g2;have:=h.n1;have:=h.n2;have:=h.t1;have:=h.t2;rw[Y5,Ti];simp only[A6,AWQ,PS];rw[AV2 (show 1<=(b.length:Int)/\(b.length:Int)<=1000/\1<=(g:Int)/\(g:Int)<=100 by omega)];simp only[AV6];rw[BB,AV1 (show ¬ (a.length:Int)=0 by omega),BD,AV1 (show ¬ (2000:Int)<(a.length:Int) by omega)]
 have e:=KR (step:=Lw) (fun i=>(a.map BJ,(g:Int),b,a.map BJ,(a.length:Int),(i:Int),())) (a.map BJ) (fun _=>false) (fun _=>.inl (false,())) (.inr (.inl ())) (by grind)
  (fun i x hi d=>by
   rw[AWQ]at hi
   have c:a[i]? = some a[i]:=AWC hi
   generalize a[i]=t at c
   rw[HY c]at d
   cases d
   obtain⟨j,k,l,f⟩:=h.ok i t c
   have m:=APF f
   rw[Lw,A3,AV2 hi]
   simp only[A' (HY c),BJ,A6,BD,BM]
   rw[AV1 (show ¬ (t.lo:Int)<0 by omega),AV1 (show ¬ (t.hi:Int)<=(t.lo:Int) by omega),AV1 (show ¬ (b.length:Int)<(t.hi:Int) by omega),AV1 (show ¬ Lr t.up < -1 by omega),
    AV1 (show ¬ (i:Int)<=Lr t.up by omega),AV1 (show ¬ (t.wait:Int)<0 by omega),AV1 (show ¬ (2:Int)<(t.wait:Int) by omega),A5 (by omega)]
   simp)
  (by rw[Lw,AWQ,A3,AV1 (by omega)])
 grind
theorem NK{g:Nat}{a:List Tsk}{b:List Bool}(h:Wok g a b){i:Nat}(hi:i<a.length):Om (PM g a b,(i:Int),())=some (0,()):=by rw[Y4,Th];simp only[WH h,A6,AWQ,AV6];rw[BD,AV1 (by omega),D_,AV1 (by omega)]
theorem NJ{t:Tsk}(h:t.lo<=t.hi)(a:t.hi<=1000):Lv (BJ t,())=some (((t.hi-t.lo:Nat):Int),()):=by rw[Y3,Tg];simp only[BJ];rw[EY (by omega)]
theorem WI{g:Nat}{a:List Tsk}{c:List Bool}(h:Wok g a c){i:Nat}{t:Tsk}(b:a[i]? = some t):Rc (PM g a c,(i:Int),())=some (decide (g<t.hi-t.lo),()):=by
 have e:=h.ok i t b;have:=h.n2;rw[Y7,Tj];have d:ieq (0:Int) 0=true:=by rw[BB];rfl
 simp only[NK h (AWH.1 b).1,d,A' (HY b)];have:=NJ (t:=t) (by omega) (by omega);rw[show((BJ t).1,(BJ t).2.1,(BJ t).2.2.1,(BJ t).2.2.2.1,())=BJ t from rfl,this];simp only[A3]
theorem ACo{a:List Tsk}{i:Nat}{t:Tsk}:(a.map BJ).set i (BJ t)=(a.set i t).map BJ:=by simp
theorem vG{g:Nat}{a:List Tsk}{c:List Bool}(h:Wok g a c){i:Nat}{t:Tsk}(d:a[i]? = some t)(m:g<t.hi-t.lo)(e:t.wait=0)(n:a.length+2<=2000):
  j4 (PM g a c,(i:Int),())=some ((a.set i { t with wait:=2 }++([⟨t.lo,B5 t,some i,0⟩,⟨B5 t,t.hi,some i,0⟩]:List Tsk)).map BJ,(g:Int),c,(a.length:Int),((a.length+1:Nat):Int),0,()):=by
 have o:=h.ok i t d;have:=h.n2;have hi:=(AWH.1 d).1;rw[fU,Y6];have f:ieq (0:Int) 0=true:=by rw[BB];rfl
 have j:=NJ (t:=t) (by omega) (by omega);simp only[NK h hi,f,A' (HY d),AV6];rw[show((BJ t).1,(BJ t).2.1,(BJ t).2.2.1,(BJ t).2.2.2.1,())=BJ t from rfl,j];simp only[D_,AV1 (show ¬ t.hi-t.lo<=g by omega)];have k:(BJ t).2.2.2.1=0:=by simp[BJ,e]
 rw[k,BD,AV1 (show ¬ (0:Int)<0 by omega)];simp only[A6,AWQ];rw[show(a.length:Int)+2=((a.length+2:Nat):Int) by omega,BE (by omega),BD,AV1 (by omega)];simp only[ASq (show t.hi-t.lo<9223372036854775808 by omega),HK (show(a.map BJ).length<=4294967296 by grind),AWQ,AWD,AWK];rw[Bo (by omega)];have l:w64 ((BJ t).1+((t.hi-t.lo)/2:Nat))=(B5 t:Int):=by show w64 ((t.lo:Int)+_)=_;rw[wrap_add (by omega)];rfl
 simp only[l,Dy];have b:(a.map BJ++[((BJ t).1,((B5 t:Nat):Int),(i:Int),(0:Int),()),(((B5 t:Nat):Int),(BJ t).2.1,(i:Int),(0:Int),())])[i]? = some (BJ t):=by grind
 simp only[A' b,Bu b];rw[DO,List.set_append_left _ _ (by grind)];rw[A5 (by omega),AW3,<- ACo];rfl
theorem ANf:∀ (k:Nat) (a:List Tsk) (u:Option Nat) (n:Nat),(∀ (i:Nat) (t:Tsk),a[i]? = some t->t.wait<=2/\∀ x,t.up=some x->x<i)->(∀ x,u=some x->x<k/\x<a.length)->a.length<1000000->k<n ->
  BC Hj n (a.map BJ,Lr u,())=some (if(fin k a u).2=true then Sum.inr (Sum.inl ((fin k a u).1.map BJ,()))else Sum.inl ((fin k a u).1.map BJ,false,())):=by
 have b:∀ (a:List Tsk) (n:Nat),0<n->BC Hj n (a.map BJ,Lr none,())=some (Sum.inr (Sum.inl (a.map BJ,()))):=by
  intro a n f;obtain⟨n,rfl⟩:∃ m,n=m+1:=⟨n-1,by omega⟩
  rw[BC,Hj];unfold Lr;rw[BB,AV2 rfl];rfl
 intro k;induction k with
  |zero=>
   intro a u n h j p f;cases u with
    |none=>rw[b a n f];rfl
    |some x=>grind
  |succ k q=>
   intro a u n h j p f;cases u with
    |none=>rw[b a n (by omega)];rfl
    |some x=>
     obtain⟨C,r⟩:=j x rfl;obtain⟨n,rfl⟩:∃ m,n=m+1:=⟨n-1,by omega⟩
     have c:a[x]? = some (a[x]):=AWC r;generalize a[x]=t at c;have v:=h x t c;rw[BC,Hj];have w:ieq (Lr (some x)) (-1:Int)=false:=by rw[BB];exact AV1 (by simp only[Lr];omega)
     have z:Lr (some x)=(x:Int):=rfl;simp only[w];simp only[AWR,z,A' (HY c),Bu (HY c)];have e:Bc (a.map BJ) (A4 (x:Int)) ((BJ t).1,(BJ t).2.1,(BJ t).2.2.1,w64 ((BJ t).2.2.2.1-1),())=if t.wait=0 then Bc (a.map BJ) (A4 (x:Int)) ((BJ t).1,(BJ t).2.1,(BJ t).2.2.1,w64 ((BJ t).2.2.2.1-1),())else(a.set x { t with wait:=t.wait-1 }).map BJ:=by by_cases d:t.wait=0;grind;rw[AV9 d,DO,<- ACo];congr 1;show((BJ t).1,(BJ t).2.1,(BJ t).2.2.1,w64 ((t.wait:Int)-1),())=_;rw[Bz (by omega)];rfl
     unfold fin;rw[c];by_cases d:t.wait=0;have l:ieq (BJ t).2.2.2.1 (0:Int)=true:=by rw[BB];exact AV2 (by simp[BJ,d])
     grind
     ·have l:ieq (BJ t).2.2.2.1 (0:Int)=false:=by rw[BB];exact AV1 (by simp[BJ,d])
      rw[AV9 d]at e;simp only[l,e];have A:((a.set x { t with wait:=t.wait-1 }).map BJ)[x]? = some (BJ { t with wait:=t.wait-1 }):=HY (ZO c);simp only[Bu A];by_cases g:0<t.wait-1;have o:ilt (0:Int) (BJ { t with wait:=t.wait-1 }).2.2.2.1=true:=by rw[BD];exact AV2 (by simp only[BJ];omega)
      grind
      ·have o:ilt (0:Int) (BJ { t with wait:=t.wait-1 }).2.2.2.1=false:=by rw[BD];exact AV1 (by simp only[BJ];omega)
       simp only[o,d,g,AWN];have B:(BJ { t with wait:=t.wait-1 }).2.2.1=Lr t.up:=rfl;rw[B];exact q (a.set x { t with wait:=t.wait-1 }) t.up n (fun i s e=>by
        rcases Sp e with⟨rfl,rfl,_⟩|⟨_,e⟩
        all_goals grind) (fun y D=>by
        grind) (by grind) (by omega)
theorem j5{a:List Tsk}{u:Option Nat}(d:∀ (i:Nat) (t:Tsk),a[i]? = some t->t.wait<=2/\∀ x,t.up=some x->x<i)(b:∀ x,u=some x->x<a.length)(f:a.length<1000000):
  Rd (a.map BJ,Lr u,())=some ((fin a.length a u).1.map BJ,(fin a.length a u).2,()):=by
 rw[WJ,P1];have g:a.length<many:=by simp only[many];omega
 have e:=ANf a.length a u many d (fun x c=>⟨b x c,b x c⟩) f g;rw[BR,e];grind
theorem zX(c:Nat):∀ (k:Nat) (b:List Bool),(List.range k).foldl (fun a j=>a.set (c+j) true) b=PY b c k:=by
 intro k;induction k with
  |zero=>intro b;rfl
  |succ k d=>intro b;rw[AWX,AXK,d];rfl
theorem AJf{g:Nat}{b:List Tsk}{c:List Bool}(h:Wok g b c){i:Nat}{t:Tsk}(f:b[i]? = some t)(o:¬ g<t.hi-t.lo)(p:t.wait=0)(hd:c[t.lo]? = some false):
  APX (PM g b c,(i:Int),())=some ((fin b.length b t.up).1.map BJ,(g:Int),PY c t.lo (t.hi-t.lo),(fin b.length b t.up).2,0,()):=by
 have B:=h.ok i t f;have:=h.n2;have:=h.t2;have hi:=(AWH.1 f).1;rw[ABR,vL];have q:ieq (0:Int) 0=true:=by rw[BB];rfl
 have u:=NJ (t:=t) (by omega) (by omega);simp only[NK h hi,q,A' (HY f),AV6];rw[show((BJ t).1,(BJ t).2.1,(BJ t).2.2.1,(BJ t).2.2.2.1,())=BJ t from rfl,u];simp only[A3,AV1 o];have v:(BJ t).2.2.2.1=0:=by simp[BJ,p]
 have w:(BJ t).1=(t.lo:Int):=rfl;have y:(BJ t).2.1=(t.hi:Int):=rfl;have z:(BJ t).2.2.1=Lr t.up:=rfl;rw[v,BD,AV1 (show ¬ (0:Int)<0 by omega)];simp only[w,y,z,A' hd,HK (show(b.map BJ).length<=4294967296 by grind),HK (show c.length<=4294967296 by omega)]
 have e:=DS (step:=Re) (fun j (a:List Bool)=>(b.map BJ,(g:Int),a,(0:Int),(t.lo:Int),(t.hi:Int),Lr t.up,(0:Int),((t.lo+j:Nat):Int),())) (List.range (t.hi-t.lo)) (fun(j:Nat) a=>.inl (a.set (t.lo+j) true))
  (fun a=>.inl (b.map BJ,(g:Int),a,(0:Int),(t.lo:Int),(t.hi:Int),Lr t.up,(0:Int),())) (fun _ a=>a.length=c.length) (by grind)
  (fun j x a l d C=>by
   rw[AWJ]at l
   rw[List.getElem?_range l]at d
   cases d
   refine⟨fun D k => ?_,fun r k=>by cases k⟩
   cases k
   refine⟨?_,by grind⟩
   rw[Re,A3,AV2 (show t.lo+j<t.hi by omega)]
   obtain⟨x,d⟩:=AUH (xs:=a) (n:=t.lo+j) (by omega)
   simp only[d,DO]
   rw[A5 (by omega)]
   rfl)
  (fun a _=>by
   rw[AWJ,Re,A3,AV1 (by omega)]) c rfl
 have A:A8 Re many (b.map BJ,(g:Int),c,(0:Int),(t.lo:Int),(t.hi:Int),Lr t.up,(0:Int),(t.lo:Int),())=_:=e;rw[A,B',zX];simp only;rw[j5 (fun i s m=>⟨(h.ok i s m).2.2.1,(h.ok i s m).2.2.2⟩) (fun x d=>by grind) (by omega)]
abbrev CrI:=(List TkI×Int×List Bool×Unit)×List (List Int)×Bool×Int×Int×Unit
abbrev EvI:=Int×Int×Int×Bool×Unit
def nI(l:List Nat):List Int:=l.map fun n:Nat=>(n:Int)
def CM(ds:List (List Nat)):List (List Int):=ds.map nI
def Qz(g:Nat)(c:Crw):CrI:=(PM g c.ts c.dn,CM c.ds,c.ov,(c.st:Int),(c.idl:Int),())
def Dn(e:Evt):EvI:=((e.w:Int),(match e.ft with|some q=>(q.1:Int)|none=>-1),(match e.ft with|some q=>(q.2:Int)|none=>-1),e.pt,())
theorem Eh{l:List Nat}{i:Nat}{x:Nat}(h:l[i]? = some x):(nI l)[i]? = some (x:Int):=by unfold nI;grind
theorem Cc(l:List Nat):(nI l).length=l.length:=by unfold nI;simp
theorem LQ(ds:List (List Nat)):(CM ds).length=ds.length:=by unfold CM;simp
theorem Hz{ds:List (List Nat)}{i:Nat}{l:List Nat}(h:ds[i]? = some l):(CM ds)[i]? = some (nI l):=by unfold CM;grind
theorem cA(ds:List (List Nat))(i:Nat)(l:List Nat):(CM ds).set i (nI l)=CM (ds.set i l):=by unfold CM;simp
structure Cok(g W:Nat)(c:Crw):Prop where
 wok:Wok g c.ts c.dn
 w1:1<=W
 w2:W<=8
 w:c.ds.length=W
 st:c.st<100000
 idl:c.idl<100000
 nod:c.ds.flatten.Nodup
 act:∀ a∈c.ds.flatten,∃ t:Tsk,c.ts[a]? = some t/\t.wait=0/\c.dn[t.lo]? = some false
 few:c.ts.length+2<=2000\/∀ a∈c.ds.flatten,∀ t:Tsk,c.ts[a]? = some t->¬ g<t.hi-t.lo
 short:c.ds.flatten.length<=1000
theorem AAj{g W:Nat}{c:Crw}(h:Cok g W c){a:Nat}(d:a∈c.ds.flatten):nd (PM g c.ts c.dn,(a:Int),())=some (true,()):=by
 obtain⟨t,b,e,hd⟩:=h.act a d;have f:=(AWH.1 b).1;rw[ir,ct];simp only[BM,AV2 (show(0:Int)<=(a:Int) by omega),A6,AWQ,A3,AV2 f,A' (HY b)];have i:ieq (BJ t).2.2.2.1 (0:Int)=true:=by rw[BB];exact AV2 (by simp[BJ,e])
 simp only[i,WI h.wok b];have j:(BJ t).1=(t.lo:Int):=rfl;by_cases k:g<t.hi-t.lo;grind;simp only[AV1 k,j,A' hd,AWR]
theorem nn(n:Nat):OT ((n:Int),())=some (decide (n<=100000),()):=by rw[W_,Q8,BM,AV2 (by omega),BM];by_cases h:n<=100000;all_goals grind
def M1(l:List Nat):List (Int×Int):=l.map fun n:Nat=>((n:Int),(1:Int))
theorem uS{l:List Nat}{x:Nat}(h:x∉l):BG (M1 l) (x:Int) (1:Int)=M1 (l++[x])/\A_ (M1 l) (x:Int)=none:=by
 induction l with
  |nil=>exact⟨rfl,rfl⟩
  |cons y l b=>
   rw[AWO,not_or]at h;obtain⟨c,d⟩:=b h.2;have a:¬ (y:Int)=(x:Int):=by omega
   constructor;show(if(y:Int)=(x:Int)then _ else _)=_;rw[AV9 a];show _::BG (M1 l) (x:Int) 1=_;rw[c];rfl;show(if(y:Int)=(x:Int)then _ else _)=_;rw[AV9 a];exact d
theorem Mb{ds:List (List Nat)}{i:Nat}{l:List Nat}(h:ds[i]? = some l):ds.flatten=(ds.take i).flatten++(l++(ds.drop (i+1)).flatten)/\(ds.take (i+1)).flatten=(ds.take i).flatten++l:=by
 obtain⟨a,rfl⟩:=AWH.1 h;constructor
 ·conv=>lhs;rw[<- AXC i ds,AWv a]
  grind
 rw[AYQ,AWC a,AYW];simp
theorem AAK{g W:Nat}{c:Crw}(h:Cok g W c):nD (Qz g c,())=some (true,()):=by
 have:=h.w1;have:=h.w2;have:=h.w;have:=h.st;have:=h.idl;have:=h.short;rw[ic,cX];simp only[Qz,WH h.wok,AV6,A6,LQ];rw[BB,AV1 (show ¬ (c.ds.length:Int)=0 by omega),BD,AV1 (show ¬ (8:Int)<(c.ds.length:Int) by omega)];simp only[nn,AV2 (show c.st<=100000 by omega),AV2 (show c.idl<=100000 by omega),AV6]
 have a:∀ (i:Nat) (l:List Nat) (b:Int),c.ds[i]? = some l->A8 LS many (c.ts.map BJ,(g:Int),c.dn,CM c.ds,c.ov,(c.st:Int),(c.idl:Int),M1 (c.ds.take i).flatten,CM c.ds,b,(i:Int),nI l,(l.length:Int),(0:Int),()) =
   some (.inr (.inl (c.ts.map BJ,(g:Int),c.dn,CM c.ds,c.ov,(c.st:Int),(c.idl:Int),M1 (c.ds.take (i+1)).flatten,CM c.ds,b,(i:Int),()))):=by
  intro i l b f
  obtain⟨z,q⟩:=Mb f
  have r:l.length<=1000:=by
   grind
  have e:=KR (step:=LS) (fun j=>(c.ts.map BJ,(g:Int),c.dn,CM c.ds,c.ov,(c.st:Int),(c.idl:Int),M1 ((c.ds.take i).flatten++l.take j),CM c.ds,b,(i:Int),nI l,(l.length:Int),(j:Int),())) l (fun _=>false)
   (fun _=>.inl (false,())) (.inr (.inl (c.ts.map BJ,(g:Int),c.dn,CM c.ds,c.ov,(c.st:Int),(c.idl:Int),M1 (c.ds.take (i+1)).flatten,CM c.ds,b,(i:Int),()))) (by omega)
   (fun j x s k=>by
    rw[LS,A3,AV2 s]
    have t:=h.nod
    have u:l=l.take j++x::l.drop (j+1):=by
     obtain⟨v,rfl⟩:=AWH.1 k
     simp
    have d:x∉(c.ds.take i).flatten++l.take j:=by
     grind
    have m:x∈c.ds.flatten:=by grind
    obtain⟨p,y⟩:=uS d
    have n:w64 (((A_ (M1 ((c.ds.take i).flatten++l.take j)) (x:Int)).getD (0:Int))+(1:Int))=1:=by
     rw[y];exact BE (by decide)
    simp only[A' (Eh k),n,p]
    have o:A_ (M1 ((c.ds.take i).flatten++l.take j++[x])) (x:Int)=some 1:=by
     rw[<- p,E1,AWB rfl]
    rw[o,BD]
    simp only[AW6,AV1 (show ¬ (1:Int)<1 by omega)]
    have:=AAj h m
    simp only[PM]at this
    simp only[this,AV6]
    rw[A5 (by omega),AXX]
    have:l.take (j+1)=l.take j++[x]:=by rw[AYQ,k];rfl
    grind)
   (by
    rw[LS,A3,AV1 (by omega),AWT,q])
  grind
 have e:=KR (step:=LU) (fun i=>(c.ts.map BJ,(g:Int),c.dn,CM c.ds,c.ov,(c.st:Int),(c.idl:Int),M1 (c.ds.take i).flatten,CM c.ds,(c.ds.length:Int),(i:Int),())) c.ds (fun _=>false) (fun _=>.inl (false,())) (.inr (.inl ())) (by omega)
  (fun i l hi f=>by
   rw[LU,A3,AV2 hi]
   simp only[A' (Hz f),A6,Cc]
   simp only[a i l _ f]
   rw[A5 (by omega)]
   simp)
  (by rw[LU,A3,AV1 (by omega)])
 have A:A8 LU many (c.ts.map BJ,(g:Int),c.dn,CM c.ds,c.ov,(c.st:Int),(c.idl:Int),([]:List (Int×Int)),CM c.ds,(c.ds.length:Int),(0:Int),())=_:=e;grind
def CG(W:Nat)(x:Int):Nat:=((x.tmod W+W).tmod W).toNat
theorem O0{W:Nat}(a:1<=W)(x:Int):CG W x<W:=by unfold CG;have b:=Int.tmod_lt_of_pos (x.tmod W+W) (show(0:Int)<W by omega);omega
theorem AQB{a:Int}{W:Nat}(b:1<=W):rem? a (W:Int)=some (a.tmod W):=by rw[wY,AKk,AV9 (by omega)]
theorem tW{ds:List (List Nat)}{W:Nat}(k:1<=W)(l:W<=8)(hd:ds.length=W)(b:List TkI)(c:Int)(d:List Bool)(e:Bool)(f g h i j:Int)(a:Bool)(x:Int):
  TE (b,c,d,CM ds,e,f,g,h,i,j,a,x,())=some (b,c,d,CM ds,e,f,g,h,i,j,a,(CG W x:Int),()):=by
 rw[ck,VV];simp only[A6,LQ,hd,AQB k];have m:=Int.tmod_lt_of_pos x (show(0:Int)<W by omega);have n:-(W:Int)<x.tmod W:=by have:=Int.tmod_lt_of_pos (-x) (show(0:Int)<W by omega);rw[Int.neg_tmod]at this;omega
 rw[BE (by omega)];have o:0<=(x.tmod W+W).tmod W:=Int.tmod_nonneg _ (by omega);unfold CG;grind
theorem AQy(l:List Nat)(k:Nat):(nI l).take k=nI (l.take k):=by unfold nI;simp
theorem AAl{ds:List (List Nat)}{p v:Nat}(A:p<ds.length)(B:v<ds.length)(C:ds.flatten.length<=1000)(d:List TkI)(e:Int)(g:List Bool)(h:Bool)(j k m s u:Int)(b:Bool):
  nk (d,e,g,CM ds,h,j,k,m,s,u,b,(p:Int),(v:Int),())=match found ds p v with
   |some (t,f,ds')=>some (d,e,g,CM ds',h,j,k,m,(f:Int),(t:Int),b,true,())
   |none=>some (d,e,g,CM ds,h,j,k,m,s,u,b,false,()):=by
 have n:ds[p]? = some (ds.getD p []):=by grind
 have o:ds[v]? = some (ds.getD v []):=by grind
 have a:∀ {i:Nat} {l:List Nat},ds[i]? = some l->l.length<=1000:=by intro i l x;have:=AWy List.length (Mb x).1;grind
 have D:=a n;have E:=a o;unfold found;generalize ds.getD p []=lp at *;generalize ds.getD v []=lv at *;rw[jA,cw];simp only[A' (Hz n),A' (Hz o),Bu (Hz n),Bu (Hz o),A6,Cc];rw[BE (by omega),BM];cases w:lp.getLast? with
  |some t=>
   obtain⟨ys,rfl⟩:=AYZ.1 w;rw[AWF,AXE]at *;have y:(((ys.length+1:Nat):Int)-1)=(ys.length:Int):=by omega
   rw[y,AV2 (by omega)];have q:(nI (ys++[t]))[ys.length]? = some (t:Int):=Eh (by simp);have c:ieq (ys.length:Int) (ys.length:Int)=true:=by rw[BB];simp
   simp only[A' q,c,Tn (show ys.length<=(nI (ys++[t])).length by grind),AQy,List.take_left,DO,cA,List.dropLast_concat]
  |none=>
   have:lp=[]:=List.getLast?_eq_none_iff.1 w;subst this;rw[AV1 (by simp)];cases lv with
    |nil=>rw[BD,AV1 (by simp)]
    |cons t r=>
     rw[BD,AV2 (by simp)];have q:idx (nI (t::r)) (0:Int)=some (t:Int):=by rw[Ht];rfl
     have c:=I' (xs:=nI (t::r)) (l:=1) (by rw[Cc];simp);rw[A6,Cc]at c;have z:Ci (nI (t::r)) (1:Int) (((t::r).length:Nat):Int)=some (nI r):=c;simp only[q,z,DO,cA]
theorem ASO{g W:Nat}{c:Crw}(h:Cok g W c){t f p:Nat}{ds':List (List Nat)}(v:p<ds'.length)(x:ds'.flatten.length<=1000){k:Tsk}(j:c.ts[t]? = some k)(o:k.wait=0)(hd:c.dn[k.lo]? = some false)
  (d:g<k.hi-k.lo->c.ts.length+2<=2000) (l:Bool) (st a w m:Int) :
  cgo (c.ts.map BJ,(g:Int),c.dn,CM ds',l,st,a,w,m,(t:Int),false,(p:Int),()) =
   if g<k.hi-k.lo then some ((c.ts.set t { k with wait:=2 }++([⟨k.lo,B5 k,some t,0⟩,⟨B5 k,k.hi,some t,0⟩]:List Tsk)).map BJ,(g:Int),c.dn,CM (ds'.set p (ds'.getD p []++[c.ts.length+1,c.ts.length])),l,st,a,w,m,(t:Int),true,0,())
   else some ((fin c.ts.length c.ts k.up).1.map BJ,(g:Int),PY c.dn k.lo (k.hi-k.lo),CM ds',l||(fin c.ts.length c.ts k.up).2,st,a,w,m,(t:Int),false,0,()):=by
 have n:ds'[p]? = some (ds'.getD p []):=by grind
 have y:(ds'.getD p []).length<=1000:=by have:=AWy List.length (Mb n).1;grind
 rw[AOK,AOL];have e:=WI h.wok j;simp only[PM]at e;simp only[e];have q:ieq (0:Int) 0=true:=by rw[BB];rfl
 by_cases b:g<k.hi-k.lo;rw[AWB b];have i:=vG h.wok j b o (d b);simp only[PM]at i;have r:ieq (((ds'.getD p []).length:Nat):Int) (((ds'.getD p []).length:Nat):Int)=true:=by rw[BB];simp
 have s:Ci (nI (ds'.getD p [])) (0:Int) (((ds'.getD p []).length:Nat):Int)=some (nI (ds'.getD p [])):=by have:=Tn (xs:=nI (ds'.getD p [])) (h:=(nI (ds'.getD p [])).length) (AV8 _);rw[AWT,Cc]at this;omega
 simp only[AV2 b,i,q,A' (Hz n),Bu (Hz n),A6,Cc,r,s,AWD,AWK];rw[Bo (by omega)];simp only[Dy,DO];have:nI (ds'.getD p [])++[((c.ts.length+1:Nat):Int),(c.ts.length:Int)]=nI (ds'.getD p []++[c.ts.length+1,c.ts.length]):=by unfold nI;simp
 rw[this,cA];rw[AV9 b];have u:=AJf h.wok j b o hd;grind
theorem AIA{g W:Nat}{c:Crw}(h:Cok g W c)(x y:Int):
  ACv (Qz g c,x,y,())=some ((stp g c (CG W x) (CG W y)).1.ts.map BJ,(g:Int),(stp g c (CG W x) (CG W y)).1.dn,CM (stp g c (CG W x) (CG W y)).1.ds,(stp g c (CG W x) (CG W y)).1.ov,((stp g c (CG W x) (CG W y)).1.st:Int),((stp g c (CG W x) (CG W y)).1.idl:Int),
   Dn (stp g c (CG W x) (CG W y)).2,0,()):=by
 have r:=O0 h.w1 x;have s:=O0 h.w1 y;have:=h.st;have:=h.idl;have:=h.w;have:=h.short;have:=h.w2;have u:c.ds.length<=8:=by omega
 rw[tK,m9];have l:=AAK h;simp only[Qz,PM]at l;simp only[Qz,PM,l,AV6];rw[BB,AV1 (show ¬ (c.st:Int)=100000 by omega)];simp only[HK (show(CM c.ds).length<=4294967296 by rw[LQ];omega),tW h.w1 h.w2 h.w];rw[A5 (by omega)];have z:=fun A B C D E F G H I b=>AAl (ds:=c.ds) (p:=CG W x) (v:=CG W y) (by omega) (by omega) h.short A B C D E F G H I b;simp only[z];cases a:found c.ds (CG W x) (CG W y)with
  |none=>unfold stp;simp only[a];rw[BB,AV1 (show ¬ (c.idl:Int)=100000 by omega),A5 (by omega)];rfl
  |some q=>
   obtain⟨t,f,ds'⟩:=q;obtain⟨m,L,M⟩:=bk (by omega) (by omega) a;have d:t∈c.ds.flatten:=m.mem_iff.2 (by simp);obtain⟨k,n,J,hd⟩:=h.act t d;have e:ds'.flatten.length<=1000:=by have:=m.length_eq;grind
   have i:=ASO h (t:=t) (f:=f) (p:=CG W x) (ds':=ds') (by omega) e n J hd (fun j=>by rcases h.few with K|K;all_goals grind)
   simp only[i];have o:ieq (0:Int) 0=true:=by rw[BB];rfl
   unfold stp;simp only[a,n];by_cases j:g<k.hi-k.lo;simp only[AWB j,o,AV6];rfl;simp only[AV9 j,o,AV6];rfl
theorem Gu{σ ρ:Type}{step:σ->Option (σ⊕ρ)}(st:Nat->σ)(N:Nat)(r:ρ)(a:N<9223372036854775808)(h:∀ i,i<N->step (st i)=some (.inl (st (i+1))))(b:step (st N)=some (.inr r)):A8 step many (st 0)=some r:=by
 have:=KR (step:=step) st (List.range N) (fun _=>false) (fun _=>r) r (by grind) (fun i x hi _=>by grind) (by grind)
 grind
theorem ATZ{n:Nat}{b:List Tsk}{d:List Bool}{A U:List Nat}{D:Nat}(h:Iv n b d A U D):pot b A<=2*n:=by
 have c:=h.units.length_eq;rw[AWF,AWJ]at c;have f:pot b A<=2*(A.flatMap (rng b)).length:=by
  clear h c;induction A with
   |nil=>exact AXV _
   |cons a A g=>
    have e:pot b (a::A)=M8 b a+pot b A:=by unfold pot;simp
    rw[e,AW7,AWF];have:M8 b a<=2*(rng b a).length:=by unfold M8 rng;grind
    omega
 omega
section
variable {g n W:Nat} {c:Crw} {E:List Evt}
theorem StI.cok(h:StI n W c E)(p:1<=g)(j:g<=100)(k:1<=n)(l:n<=1000)(q:1<=W)(m:W<=8)(F:E.length<100000):Cok g W c:=by
 obtain⟨D,b⟩:=h.iv;have G:=b.bound;have H:=b.size;have r:=h.st;have o:=h.idl;refine⟨⟨p,j,by rw[b.len];exact k,by rw[b.len];exact l,by omega,by omega,fun i t d => ?_⟩,q,m,h.w,by omega,by omega,b.tr.nod,fun a f => ?_,?_,by omega⟩;obtain⟨s,u,v,_,x⟩:=b.tr.tree i t d;exact⟨s,by rw[b.len];exact u,v,x⟩;obtain⟨t,d,y⟩:=b.tr.act a f;exact⟨t,d,y,b.ATC f d⟩;by_cases z:∃ a∈c.ds.flatten,∃ t:Tsk,c.ts[a]? = some t/\g<t.hi-t.lo;obtain⟨a,f,t,d,hgt⟩:=z;left;obtain⟨A,B,e⟩:=AYJ f;have C:c.ds.flatten.Perm (a::(A++B)):=by grind
 have:=(b.perm C).AUa d (B5:=t.lo+1) (by omega) (by omega);omega;grind
theorem AIa(h:Cok g W c):ACy (Qz g c,())=some ((c.ds.flatten.length:Int),()):=by
 have:=h.w;have:=h.w2;have:=h.short;rw[tq,ng]
 have e:=Gu (step:=OR) (fun i=>(((c.ds.take i).flatten.length:Int),CM c.ds,(c.ds.length:Int),(i:Int),())) c.ds.length (.inl ((c.ds.flatten.length:Int),())) (by omega)
  (fun i hi=>by
   rw[OR,A3,AV2 hi]
   have b:=AWC hi
   obtain⟨d,f⟩:=Mb b
   have a:=AWy List.length d
   simp only[AWF]at a
   simp only[A' (Hz b),A6,Cc]
   rw[wrap_add (by omega),A5 (by omega),f,AWF])
  (by rw[OR,A3,AV1 (by omega),AWT])
 have j:A8 OR many ((0:Int),CM c.ds,(c.ds.length:Int),(0:Int),())=_:=e;simp only[Qz,A6,LQ,j]
theorem iV(h:Cok g W c)(d:E.length<100000)(x y:Int):
  s7 (c.ts.map BJ,(g:Int),c.dn,CM c.ds,c.ov,(c.st:Int),(c.idl:Int),E.map Dn,x,y,()) =
   some ((stp g c (CG W x) (CG W y)).1.ts.map BJ,(g:Int),(stp g c (CG W x) (CG W y)).1.dn,CM (stp g c (CG W x) (CG W y)).1.ds,(stp g c (CG W x) (CG W y)).1.ov,((stp g c (CG W x) (CG W y)).1.st:Int),((stp g c (CG W x) (CG W y)).1.idl:Int),
    (E++[(stp g c (CG W x) (CG W y)).2]).map Dn,0,()):=by
 rw[sw,mo];have a:=AIA h x y;simp only[Qz,PM]at a;simp only[a];have b:ieq (0:Int) 0=true:=by rw[BB];rfl
 simp only[b,A6,AWQ,AWD,AWK];rw[Bo (by omega)];simp only[Dy,AW3];rfl
end
theorem AFw{W p:Nat}(h:p<W):CG W (p:Int)=p:=by
 unfold CG;have a:((p:Nat):Int).tmod (W:Int)=p:=Int.tmod_eq_of_lt (by omega) (by omega);rw[a];have b:((p:Int)+W).tmod W=p:=by rw[show(p:Int)+W=((p+W:Nat):Int) by omega,<- Int.ofNat_tmod];rw[Nat.add_mod_right,AXI h]
 omega
theorem AME{W p:Nat}(a:1<=W):CG W (p:Int)=p % W:=by unfold CG;rw[<- Int.ofNat_tmod];have:=AYM p (show 0<W by omega);rw[show((p % W:Nat):Int)+W=((p % W+W:Nat):Int) by omega,<- Int.ofNat_tmod,Nat.add_mod_right,Nat.mod_mod];rfl
section
variable {g n W:Nat} {s:Crw×List Evt}
theorem AEN{t:Nat}(h:(BL g W s t).1.ov=false):BL g W s (t+1)=((stp g (BL g W s t).1 (t % W) ((t % W+1+t/W) % W)).1,(BL g W s t).2++[(stp g (BL g W s t).1 (t % W) ((t % W+1+t/W) % W)).2]):=by rw[BL];grind
theorem AEM(d:1<=g)(e:0<W)(h:StI n W s.1 s.2):∃ T,T<=(2*n+1)*W/\(BL g W s T).1.ov=true/\∀ t,t<T->(BL g W s t).1.ov=false:=by
 obtain⟨D,f⟩:=h.iv;have i:=AEO d e h;have l:=ATZ f;generalize a:(pot s.1.ts s.1.ds.flatten+1)*W=b at i;have j:b<=(2*n+1)*W:=by rw[<- a];exact AWn _ (by omega)
 clear a;have c:∀ k,k<=b->(∃ T,T<=b/\(BL g W s T).1.ov=true/\∀ t,t<T->(BL g W s t).1.ov=false)\/∀ t,t<k->(BL g W s t).1.ov=false:=by
  intro k;induction k with
   |zero=>simp
   |succ k m=>grind
 grind
theorem zw(y:1<=g)(z:g<=100)(A:1<=n)(B:n<=1000)(M:1<=W)(m:W<=8)(h:StI n W s.1 s.2)(C:s.2.length<=4000){T:Nat}(R:T<=(2*n+1)*W)(D:(BL g W s T).1.ov=true)(o:∀ t,t<T->(BL g W s t).1.ov=false):
  StI n W (BL g W s T).1 (BL g W s T).2/\(BL g W s T).2.length<=40000/\YQ (s.1.ts.map BJ,(g:Int),s.1.dn,CM s.1.ds,s.1.ov,(s.1.st:Int),(s.1.idl:Int),s.2.map Dn,())=some ((BL g W s T).1.ts.map BJ,(g:Int),(BL g W s T).1.dn,CM (BL g W s T).1.ds,(BL g W s T).1.ov,((BL g W s T).1.st:Int),((BL g W s T).1.idl:Int),(BL g W s T).2.map Dn,0,()):=by
 have N:T<=17000:=by
  have:(2*n+1)*W<=2001*8:=AXk (by omega) m
  omega
 obtain⟨O,P⟩:=Xz y (by omega) h T
 refine⟨O,by omega,?_⟩
 have f:∀ t,t<=T->StI n W (BL g W s t).1 (BL g W s t).2/\(BL g W s t).2.length<100000:=fun t x=>by
  obtain⟨a,b⟩:=Xz y (by omega) h t
  grind
 have c:∀ t,t<=T->Cok g W (BL g W s t).1:=fun t x=>(f t x).1.cok y z A B M m (f t x).2
 have E:∀ t,t<T->¬ (BL g W s t).1.ds.flatten.length=0:=fun t x U=>by
  have:=(f t (by omega)).1.ov
  grind
 have d:∀ r j:Nat,j<W->r*W+j<T->EA ((BL g W s (r*W+j)).1.ts.map BJ,(g:Int),(BL g W s (r*W+j)).1.dn,CM (BL g W s (r*W+j)).1.ds,(BL g W s (r*W+j)).1.ov,((BL g W s (r*W+j)).1.st:Int),((BL g W s (r*W+j)).1.idl:Int),(BL g W s (r*W+j)).2.map Dn,(r:Int),(W:Int),(j:Int),()) =
   some (.inl ((BL g W s (r*W+(j+1))).1.ts.map BJ,(g:Int),(BL g W s (r*W+(j+1))).1.dn,CM (BL g W s (r*W+(j+1))).1.ds,(BL g W s (r*W+(j+1))).1.ov,((BL g W s (r*W+(j+1))).1.st:Int),((BL g W s (r*W+(j+1))).1.idl:Int),(BL g W s (r*W+(j+1))).2.map Dn,(r:Int),(W:Int),((j+1:Nat):Int),())):=by
  intro r j k i
  have F:r<=r*W:=AYh _ (by omega)
  unfold EA
  dsimp only
  rw[A3,AV2 k]
  have p:=o _ i
  have G:=c _ (AX0 i)
  have C:=(f _ (AX0 i)).2
  have q:=AEN p
  have H:=AIa G
  have I:=E _ i
  have hd:=iV G C
  rw[AYG]at q
  rw[q]
  generalize BL g W s (r*W+j)=S at p G C H I hd
  simp only[Qz,PM,p]at H
  simp only[p]at hd
  simp only[p,H]
  rw[BB,AV1 (by omega)]
  rw[A5 (by omega),wrap_add (by omega)]
  simp only[hd]
  rw[BB,AV2 rfl]
  simp only[AV6]
  rw[AFw k,AME M]
  have V:(r*W+j) % W=j:=by rw[Nat.mul_comm,Nat.mul_add_mod,AXI k]
  have X:(r*W+j)/W=r:=by rw[Nat.mul_comm,Nat.mul_add_div (by omega),Nat.div_eq_of_lt k];omega
  grind
 have l:∀ r:Nat,(r+1)*W<=T->Fe ((BL g W s (r*W)).1.ts.map BJ,(g:Int),(BL g W s (r*W)).1.dn,CM (BL g W s (r*W)).1.ds,(BL g W s (r*W)).1.ov,((BL g W s (r*W)).1.st:Int),((BL g W s (r*W)).1.idl:Int),(BL g W s (r*W)).2.map Dn,(r:Int),()) =
   some (.inl ((BL g W s ((r+1)*W)).1.ts.map BJ,(g:Int),(BL g W s ((r+1)*W)).1.dn,CM (BL g W s ((r+1)*W)).1.ds,(BL g W s ((r+1)*W)).1.ov,((BL g W s ((r+1)*W)).1.st:Int),((BL g W s ((r+1)*W)).1.idl:Int),(BL g W s ((r+1)*W)).2.map Dn,((r+1:Nat):Int),())):=by
  intro r J
  have F:r<=r*W:=AYh _ (by omega)
  rw[AYR]at J
  rw[Fe]
  have K:(CM (BL g W s (r*W)).1.ds).length=W:=by rw[LQ];exact(c (r*W) (by omega)).w
  have e:=Gu (step:=EA) (fun j=>((BL g W s (r*W+j)).1.ts.map BJ,(g:Int),(BL g W s (r*W+j)).1.dn,CM (BL g W s (r*W+j)).1.ds,(BL g W s (r*W+j)).1.ov,((BL g W s (r*W+j)).1.st:Int),((BL g W s (r*W+j)).1.idl:Int),(BL g W s (r*W+j)).2.map Dn,(r:Int),(W:Int),(j:Int),())) W
   (.inr (.inl ((BL g W s (r*W+W)).1.ts.map BJ,(g:Int),(BL g W s (r*W+W)).1.dn,CM (BL g W s (r*W+W)).1.ds,(BL g W s (r*W+W)).1.ov,((BL g W s (r*W+W)).1.st:Int),((BL g W s (r*W+W)).1.idl:Int),(BL g W s (r*W+W)).2.map Dn,(r:Int),()))) (by omega)
   (fun j k=>d r j k (by omega)) (by unfold EA;dsimp only;rw[A3,AV1 (by omega)])
  simp only[AXc]at e
  have u:A8 EA many ((BL g W s (r*W)).1.ts.map BJ,(g:Int),(BL g W s (r*W)).1.dn,CM (BL g W s (r*W)).1.ds,(BL g W s (r*W)).1.ov,((BL g W s (r*W)).1.st:Int),((BL g W s (r*W)).1.idl:Int),(BL g W s (r*W)).2.map Dn,(r:Int),(W:Int),(0:Int),())=_:=e
  simp only[A6,K,u]
  rw[A5 (by omega),AYR]
 have v:Fe ((BL g W s (T/W*W)).1.ts.map BJ,(g:Int),(BL g W s (T/W*W)).1.dn,CM (BL g W s (T/W*W)).1.ds,(BL g W s (T/W*W)).1.ov,((BL g W s (T/W*W)).1.st:Int),((BL g W s (T/W*W)).1.idl:Int),(BL g W s (T/W*W)).2.map Dn,((T/W:Nat):Int),()) =
   some (.inr (.inl ((BL g W s T).1.ts.map BJ,(g:Int),(BL g W s T).1.dn,CM (BL g W s T).1.ds,(BL g W s T).1.ov,((BL g W s T).1.st:Int),((BL g W s T).1.idl:Int),(BL g W s T).2.map Dn,(0:Int),()))):=by
  have L:T/W*W+T % W=T:=by rw[Nat.mul_comm];exact Nat.div_add_mod T W
  have Q:=AYM T (show 0<W by omega)
  rw[Fe]
  have K:(CM (BL g W s (T/W*W)).1.ds).length=W:=by rw[LQ];exact(c (T/W*W) (by omega)).w
  have e:=Gu (step:=EA) (fun j=>((BL g W s (T/W*W+j)).1.ts.map BJ,(g:Int),(BL g W s (T/W*W+j)).1.dn,CM (BL g W s (T/W*W+j)).1.ds,(BL g W s (T/W*W+j)).1.ov,((BL g W s (T/W*W+j)).1.st:Int),((BL g W s (T/W*W+j)).1.idl:Int),(BL g W s (T/W*W+j)).2.map Dn,((T/W:Nat):Int),(W:Int),(j:Int),())) (T % W)
   (.inl ((BL g W s T).1.ts.map BJ,(g:Int),(BL g W s T).1.dn,CM (BL g W s T).1.ds,(BL g W s T).1.ov,((BL g W s T).1.st:Int),((BL g W s T).1.idl:Int),(BL g W s T).2.map Dn,(0:Int),())) (by omega)
   (fun j k=>d (T/W) j (by omega) (by omega)) (by unfold EA;dsimp only;rw[L,A3,AV2 Q,D])
  simp only[AXc]at e
  have u:A8 EA many ((BL g W s (T/W*W)).1.ts.map BJ,(g:Int),(BL g W s (T/W*W)).1.dn,CM (BL g W s (T/W*W)).1.ds,(BL g W s (T/W*W)).1.ov,((BL g W s (T/W*W)).1.st:Int),((BL g W s (T/W*W)).1.idl:Int),(BL g W s (T/W*W)).2.map Dn,((T/W:Nat):Int),(W:Int),(0:Int),())=_:=e
  simp only[A6,K,u]
 rw[cE,VK]
 have e:=Gu (step:=Fe) (fun r=>((BL g W s (r*W)).1.ts.map BJ,(g:Int),(BL g W s (r*W)).1.dn,CM (BL g W s (r*W)).1.ds,(BL g W s (r*W)).1.ov,((BL g W s (r*W)).1.st:Int),((BL g W s (r*W)).1.idl:Int),(BL g W s (r*W)).2.map Dn,(r:Int),())) (T/W) _ (by
   have:=Nat.div_le_self T W
   omega)
  (fun r J=>l r (AWx (AWn _ J) (Nat.div_mul_le_self T W))) v
 rw[AXt]at e
 have u:A8 Fe many ((BL g W s 0).1.ts.map BJ,(g:Int),(BL g W s 0).1.dn,CM (BL g W s 0).1.ds,(BL g W s 0).1.ov,((BL g W s 0).1.st:Int),((BL g W s 0).1.idl:Int),(BL g W s 0).2.map Dn,(0:Int),())=_:=e
 simp only[BL]at u
 simp_all
end
def cr0(n W:Nat):Crw:=⟨[⟨0,n,none,0⟩],List.replicate n false,[0]::List.replicate (W-1) [],false,0,0⟩
theorem AHX(k:Nat):([0]::List.replicate k ([]:List Nat)).flatten=[0]:=by simp
theorem AU3{n W:Nat}(e:1<=n)(f:1<=W):StI n W (cr0 n W) []:=by
 have d:(cr0 n W).ds.flatten=[0]:=AHX _;have get:∀ {i:Nat} {t:Tsk},(cr0 n W).ts[i]? = some t->i=0/\t=⟨0,n,none,0⟩:=by intro i t h;have g:([⟨0,n,none,0⟩]:List Tsk)[i]? = some t:=h;grind
 refine⟨⟨0,?_⟩,?_,?_,?_,rfl,AXV _⟩;rw[d];refine⟨by simp[cr0],⟨fun i t b => ?_,by simp,fun a c => ?_,fun a c j t b => ?_,fun i t b => ?_⟩,?_,fun u k => ?_,rfl,AXV _⟩;grind;simp at c;subst c;exact⟨_,rfl,rfl⟩;grind;obtain⟨rfl,rfl⟩:=get b;have:kids (cr0 n W).ts [0] 0=0:=by rcases AW9 (kids (cr0 n W).ts [0] 0)with h|h;exact h;obtain⟨j,t,l,m,_⟩:=Ns.1 h;grind
 grind;have:([0]:List Nat).flatMap (rng (cr0 n W).ts)=List.range n:=by simp[rng,cr0,AXu]
 rw[this];simp[evU];have:(cr0 n W).dn[u]? = some false:=by show(List.replicate n false)[u]? = _;grind
 rw[this];simp[evU];rw[d];rfl;simp[cr0];omega;simp
theorem AHZ{n:Nat}(h:n<=4294967296):Ca (n:Int)=true:=(I4 _).2 (by omega)
theorem FI{n:Nat}(h:n<=4294967296):(Ca (n:Int)&&Ca (n:Int)&&ile (n:Int) (n:Int)&&true)=true:=by rw[AHZ h,BM,AV2 (Int.le_refl _)];rfl
theorem GW{α:Type}(n:Nat)(x:α):Dm (A4 (n:Int)) x=List.replicate n x:=by rw[OD];rfl
theorem pH{g n:Nat}(c:1<=g)(a:g<=100)(d:1<=n)(b:n<=1000):Xr ((n:Int),(g:Int),())=some ((cr0 n 1).ts.map BJ,(g:Int),List.replicate n false,0,()):=by rw[Y8,Tk];simp only[PS,AV2 (show 1<=(n:Int)/\(n:Int)<=1000/\1<=(g:Int)/\(g:Int)<=100 by omega),AV6,FI (show n<=4294967296 by omega),GW];rfl
theorem AAn{g n W:Nat}(c:1<=g)(a:g<=100)(d:1<=n)(b:n<=1000)(l:1<=W)(e:W<=8):
  nq ((n:Int),(g:Int),(W:Int),())=some ((cr0 n W).ts.map BJ,(g:Int),(cr0 n W).dn,CM (cr0 n W).ds,false,0,0,0,()):=by
 rw[jB,cx];have f:ieq (0:Int) 0=true:=by rw[BB];rfl
 have h:ilt (W:Int) 1=false:=by rw[BD];grind
 have i:ilt 8 (W:Int)=false:=by rw[BD];grind
 obtain⟨k,rfl⟩:∃ k,W=k+1:=⟨W-1,by omega⟩
 have j:idx (List.replicate (k+1) ()) (0:Int)=some ():=by rw[Ht];rfl
 simp only[h,i,pH c a d b,f,AV6,FI (show k+1<=4294967296 by omega),GW,j];rw[Bo (by decide)];simp only[AWj];have:Bc (Dm (k+1) ([]:List Int)) 0 [(0:Int)]=CM (cr0 n (k+1)).ds:=by show(List.replicate (k+1) ([]:List Int)).set 0 [0]=CM ([0]::List.replicate k []);rw[AYV,List.set_cons_zero];unfold CM;rw[AWW,List.map_replicate];rfl
 rw[this];rfl
def pkS(g W:Nat):List (List Int)->Crw×List Evt->Crw×List Evt
 |[],s=>s
 |x::l,s=>if s.1.ov then s else pkS g W l ((stp g s.1 (CG W (A9 x 0 0)) (CG W (A9 x 1 0))).1,s.2++[(stp g s.1 (CG W (A9 x 0 0)) (CG W (A9 x 1 0))).2])
theorem ALE{g n W:Nat}(b:1<=g)(a:1<=W):∀ (l:List (List Int)) (s:Crw×List Evt),StI n W s.1 s.2->StI n W (pkS g W l s).1 (pkS g W l s).2/\(pkS g W l s).2.length<=s.2.length+l.length:=by
 intro l;induction l with
  |nil=>intro s h;exact⟨h,by simp[pkS]⟩
  |cons x l c=>intro s h;rw[pkS];split;grind;have:=c ((stp g s.1 (CG W (A9 x 0 0)) (CG W (A9 x 1 0))).1,s.2++[(stp g s.1 (CG W (A9 x 0 0)) (CG W (A9 x 1 0))).2]) (j8 b h (O0 a (A9 x 0 0)) (O0 a (A9 x 1 0))).1;grind
theorem AHm{g n W:Nat}(k:1<=g)(c:g<=100)(o:1<=n)(d:n<=1000)(f:1<=W)(h:W<=8){a:List (List Int)}(G:a.length<=4000){T:Nat}(y:T<=(2*n+1)*W)(b:(BL g W (pkS g W a (cr0 n W,[])) T).1.ov=true)(m:∀ t,t<T->(BL g W (pkS g W a (cr0 n W,[])) t).1.ov=false):
  StI n W (BL g W (pkS g W a (cr0 n W,[])) T).1 (BL g W (pkS g W a (cr0 n W,[])) T).2/\(BL g W (pkS g W a (cr0 n W,[])) T).2.length<=40000/\VJ ((n:Int),(g:Int),(W:Int),a,())=some (Qz g (BL g W (pkS g W a (cr0 n W,[])) T).1,(BL g W (pkS g W a (cr0 n W,[])) T).2.map Dn,0,()):=by
 have p:=AU3 (n:=n) (W:=W) o f;obtain⟨z,H⟩:=ALE k f a (cr0 n W,[]) p;obtain⟨A,B,C⟩:=zw k c o d f h z (by grind) y b m;refine⟨A,B,?_⟩;rw[iU,cD];have q:ieq (0:Int) 0=true:=by rw[BB];rfl
 have e:=DS (step:=I6) (fun i (s:Crw×List Evt)=>((0:Int),false,(0:Int),(0:Int),s.1.ts.map BJ,(g:Int),s.1.dn,CM s.1.ds,s.1.ov,(s.1.st:Int),(s.1.idl:Int),s.2.map Dn,a,(a.length:Int),(i:Int),())) a
  (fun x s=>if s.1.ov then .inr (.inl ((0:Int),false,(0:Int),(0:Int),s.1.ts.map BJ,(g:Int),s.1.dn,CM s.1.ds,s.1.ov,(s.1.st:Int),(s.1.idl:Int),s.2.map Dn,()))else .inl ((stp g s.1 (CG W (A9 x 0 0)) (CG W (A9 x 1 0))).1,s.2++[(stp g s.1 (CG W (A9 x 0 0)) (CG W (A9 x 1 0))).2]))
  (fun s=>.inl ((0:Int),false,(0:Int),(0:Int),s.1.ts.map BJ,(g:Int),s.1.dn,CM s.1.ds,s.1.ov,(s.1.st:Int),(s.1.idl:Int),s.2.map Dn,()))
  (fun i s=>StI n W s.1 s.2/\s.2.length<=i) (by omega)
  (fun i x s hi u v=>by
   have j:I6 ((0:Int),false,(0:Int),(0:Int),s.1.ts.map BJ,(g:Int),s.1.dn,CM s.1.ds,s.1.ov,(s.1.st:Int),(s.1.idl:Int),s.2.map Dn,a,(a.length:Int),(i:Int),())=match s.1.ov with
     |true=>some (.inr (.inl ((0:Int),false,(0:Int),(0:Int),s.1.ts.map BJ,(g:Int),s.1.dn,CM s.1.ds,s.1.ov,(s.1.st:Int),(s.1.idl:Int),s.2.map Dn,())))
     |false=>some (.inl ((0:Int),false,(0:Int),(0:Int),(stp g s.1 (CG W (A9 x 0 0)) (CG W (A9 x 1 0))).1.ts.map BJ,(g:Int),(stp g s.1 (CG W (A9 x 0 0)) (CG W (A9 x 1 0))).1.dn,CM (stp g s.1 (CG W (A9 x 0 0)) (CG W (A9 x 1 0))).1.ds,(stp g s.1 (CG W (A9 x 0 0)) (CG W (A9 x 1 0))).1.ov,((stp g s.1 (CG W (A9 x 0 0)) (CG W (A9 x 1 0))).1.st:Int),((stp g s.1 (CG W (A9 x 0 0)) (CG W (A9 x 1 0))).1.idl:Int),(s.2++[(stp g s.1 (CG W (A9 x 0 0)) (CG W (A9 x 1 0))).2]).map Dn,a,(a.length:Int),((i+1:Nat):Int),())):=by
    unfold I6
    dsimp only
    have hd:=iV (v.1.cok k c o d f h (by omega)) (E:=s.2) (by omega) (A9 x 0 0) (A9 x 1 0)
    cases b:s.1.ov with
    |true=>simp only[A3,AV2 hi,A' u]
    |false=>
     rw[b]at hd
     simp only[A3,AV2 hi,A' u,hd,q,AV6]
     rw[A5 (by omega)]
   rw[j]
   cases b:s.1.ov with
   |true=>
    simp
   |false=>
    refine⟨fun I w => ?_,fun r J=>by grind⟩
    simp only[AWM,AWN,Sum.inl.injEq]at w
    subst w
    refine⟨rfl,(j8 k v.1 (O0 f (A9 x 0 0)) (O0 f (A9 x 1 0))).1,?_⟩
    grind)
  (fun s _=>by
   unfold I6
   dsimp only
   rw[A3,AV1 (by omega)])
  (cr0 n W,[]) ⟨p,AV8 _⟩
 have D:∀ (l:List (List Int)) (s:Crw×List Evt),walk (ρ:=((Int×Bool×Int×Int×List TkI×Int×List Bool×List (List Int)×Bool×Int×Int×List EvI×Unit)⊕(List TkI×Int×List Bool×List (List Int)×Bool×Int×Int×List EvI×Int×Unit)⊕Unit)) (fun x s=>if s.1.ov then .inr (.inl ((0:Int),false,(0:Int),(0:Int),s.1.ts.map BJ,(g:Int),s.1.dn,CM s.1.ds,s.1.ov,(s.1.st:Int),(s.1.idl:Int),s.2.map Dn,()))else .inl ((stp g s.1 (CG W (A9 x 0 0)) (CG W (A9 x 1 0))).1,s.2++[(stp g s.1 (CG W (A9 x 0 0)) (CG W (A9 x 1 0))).2]))
  (fun s=>.inl ((0:Int),false,(0:Int),(0:Int),s.1.ts.map BJ,(g:Int),s.1.dn,CM s.1.ds,s.1.ov,(s.1.st:Int),(s.1.idl:Int),s.2.map Dn,())) l s =
   .inl ((0:Int),false,(0:Int),(0:Int),(pkS g W l s).1.ts.map BJ,(g:Int),(pkS g W l s).1.dn,CM (pkS g W l s).1.ds,(pkS g W l s).1.ov,((pkS g W l s).1.st:Int),((pkS g W l s).1.idl:Int),(pkS g W l s).2.map Dn,()):=by
  intro l
  induction l with
  |nil=>intro s;rfl
  |cons x l K=>
   intro s
   rw[walk,pkS]
   grind
 rw[D]at e;have F:A8 I6 many ((0:Int),false,(0:Int),(0:Int),(cr0 n W).ts.map BJ,(g:Int),(cr0 n W).dn,CM (cr0 n W).ds,false,(0:Int),(0:Int),([]:List EvI),a,(a.length:Int),(0:Int),())=_:=e;simp only[AAn k c o d f h,q,AV6,A6,F,C];rfl
theorem oT{g n W:Nat}(b:1<=g)(d:1<=n)(c:1<=W)(a:List (List Int)):∃ T,T<=(2*n+1)*W/\(BL g W (pkS g W a (cr0 n W,[])) T).1.ov=true/\∀ t,t<T->(BL g W (pkS g W a (cr0 n W,[])) t).1.ov=false:=
 AEM b (by omega) (ALE b c a (cr0 n W,[]) (AU3 d c)).1
theorem zp{g n W:Nat}(i:1<=g)(d:g<=100)(j:1<=n)(e:n<=1000)(k:1<=W)(f:W<=8){a:List (List Int)}(l:a.length<=4000):
  ∃ b:Crw×List Evt,StI n W b.1 b.2/\b.1.ov=true/\b.2.length<=40000/\VJ ((n:Int),(g:Int),(W:Int),a,())=some (Qz g b.1,b.2.map Dn,0,()):=by obtain⟨T,m,h,c⟩:=oT (n:=n) i j k a;obtain⟨o,p,q⟩:=AHm i d j e k f l m h c;grind
def J9(a:List Tsk)(e:Evt):Option (Nat×Nat):=match e.ft with
 |some (_,t)=>if e.pt then none else a[t]?.map fun k=>(k.lo,k.hi)
 |none=>none
def sq(p:Nat×Nat):Int×Int×Unit:=((p.1:Int),(p.2:Int),())
theorem tA{g n W:Nat}{s:Crw×List Evt}(h:StI n W s.1 s.2)(u:s.2.length<=40000):YS (Qz g s.1,s.2.map Dn,())=some ((s.2.filterMap (J9 s.1.ts)).map sq,()):=by
 rw[cI,VL]
 have e:=Gu (step:=Jj) (fun i=>(s.1.ts.map BJ,(g:Int),s.1.dn,CM s.1.ds,s.1.ov,(s.1.st:Int),(s.1.idl:Int),((s.2.take i).filterMap (J9 s.1.ts)).map sq,s.2.map Dn,(s.2.length:Int),(i:Int),())) s.2.length (.inl ((s.2.filterMap (J9 s.1.ts)).map sq,())) (by omega)
  (fun i hi=>by
   unfold Jj
   dsimp only
   have j:=AWC hi
   have a:=h.ev s.2[i] (AWu hi)
   have c:s.2.take (i+1)=s.2.take i++[s.2[i]]:=by simp
   have l:((s.2.take i).filterMap (J9 s.1.ts)).length<=40000:=by
    grind
   rw[c,List.filterMap_append,AW3]
   have b:idx (s.2.map Dn) (i:Int)=some (Dn s.2[i]):=A' (by grind)
   simp only[A3,AV2 hi,b]
   generalize s.2[i]=x at a b
   obtain⟨w,d,m⟩:=x
   rw[A5 (by omega)]
   cases m with
   |true=>
    have:J9 s.1.ts ⟨w,d,true⟩=none:=by unfold J9;grind
    simp only[Dn,AYE,this,List.filterMap_nil,AXS,AWk]
   |false=>
    cases d with
    |none=>
     have:J9 s.1.ts ⟨w,none,false⟩=none:=rfl
     simp only[Dn,AYE,this,List.filterMap_nil,AXS,AWk]
     rw[BD,AV2 (by decide)]
    |some q=>
     obtain⟨f,t⟩:=q
     have o:=a f t rfl
     obtain⟨k,p⟩:∃ k,s.1.ts[t]? = some k:=⟨_,AWC o⟩
     have:J9 s.1.ts ⟨w,some (f,t),false⟩=some (k.lo,k.hi):=by
      show(if false=true then none else s.1.ts[t]?.map _)=_
      grind
     simp only[Dn,AYE,this,List.filterMap_nil]
     rw[BD,AV1 (by omega),A6,AWQ,D_,AV1 (by omega),A' (HY p),A6,AWQ]
     simp only[A6,AWD,AWK]
     rw[Bo (by omega)]
     simp only[Dy]
     rfl)
  (by unfold Jj;dsimp only;rw[A3,AV1 (by omega),AWT])
 have r:A8 Jj many (s.1.ts.map BJ,(g:Int),s.1.dn,CM s.1.ds,s.1.ov,(s.1.st:Int),(s.1.idl:Int),([]:List (Int×Int×Unit)),s.2.map Dn,(s.2.length:Int),(0:Int),())=_:=e;simp only[Qz,PM,A6,AWQ,r]
def PT(p:Nat×Nat):List Nat:=List.range' p.1 (p.2-p.1)
theorem vf(a:List Tsk)(E:List Evt):(E.filterMap (J9 a)).flatMap PT=evU a E:=by
 induction E with
  |nil=>rfl
  |cons e E b=>
   have:evU a (e::E)=evU a [e]++evU a E:=by rw[<- YO];rfl
   rw[this,<- b];obtain⟨w,c,d⟩:=e;cases c with
    |none=>rw[AYE];simp[J9,evU]
    |some q=>
     obtain⟨f,t⟩:=q;rw[AYE];cases d with
      |true=>simp[J9,evU]
      |false=>
       simp only[J9,evU,AWM,AWN,AW7,List.flatMap_nil,AWk,rng];cases a[t]? with
        |none=>rfl
        |some k=>simp[PT]
theorem eS(c:List EvI)(a:List Int)(b hi:Nat)(d:List (Int×Int×Unit))(f g:Int)(k:b<=hi)(l:hi<=1000)(j:a.length<=1000000):
  A8 LK many (c,a,(b:Int),(hi:Int),d,f,g,((hi-b:Nat):Int),(0:Int),())=some (.inl (c,a++nI (List.range' b (hi-b)),d,f,g,())):=by
 have e:=Gu (step:=LK) (fun i=>(c,a++nI (List.range' b i),(b:Int),(hi:Int),d,f,g,((hi-b:Nat):Int),(i:Int),())) (hi-b) (.inl (c,a++nI (List.range' b (hi-b)),d,f,g,())) (by omega)
  (fun i h=>by
   unfold LK
   dsimp only
   rw[A3,AV2 h,wrap_add (by omega),A5 (by omega),A6,A6]
   simp only[AWF,Cc,List.length_range',AWD,AWK]
   rw[Bo (by omega)]
   simp only[Dy,AXX]
   rw[List.range'_concat]
   unfold nI
   simp)
  (by unfold LK;dsimp only;rw[A3,AV1 (by omega)])
 have:a++nI (List.range' b 0)=a:=by simp[nI]
 grind
theorem Qw(a b:Int)(c:List (List Int)):mV ((a,b,c,()),())=some (decide (1<=a/\a<=100/\1<=b/\b<=8/\c.length<=4000),()):=by
 rw[iK,bj];simp only[BM,A6];by_cases d:1<=a;by_cases e:a<=100;by_cases f:1<=b;by_cases g:b<=8;have:decide ((c.length:Int)<=4000)=decide (c.length<=4000):=by grind
 grind;grind;grind;grind;grind
def HN(p:Int×Int×List (List Int)×Unit):Prop:=1<=p.1/\p.1<=100/\1<=p.2.1/\p.2.1<=8/\p.2.2.1.length<=4000
instance (p:Int×Int×List (List Int)×Unit):Decidable (HN p):=by unfold HN;exact inferInstance
theorem bo{n:Int}{p:Int×Int×List (List Int)×Unit}(h:¬ (0<=n/\n<=1000/\HN p)):DE (n,p,())=some ([],0,1,()):=by rw[PC,N4];by_cases a:n<0;rw[BD,AV2 a];rw[BD,AV1 a];by_cases b:1000<n;rw[BD,AV2 b];rw[BD,AV1 b];have c:¬ HN p:=fun d=>h ⟨by omega,by omega,d⟩;simp only[Qw];rw[AV1 (by unfold HN at c;exact c)];simp
theorem Wq{p:Int×Int×List (List Int)×Unit}(a:HN p):DE ((0:Int),p,())=some ([],0,0,()):=by rw[PC,N4];rw[BD,AV1 (by decide),BD,AV1 (by decide)];simp only[Qw];rw[AV2 (by unfold HN at a;exact a),BB,AV2 rfl];simp
theorem AHV{g n W:Nat}(O:1<=g)(C:g<=100)(P:1<=n)(E:n<=1000)(Q:1<=W)(F:W<=8){a:List (List Int)}(R:a.length<=4000){s:Crw×List Evt}(o:StI n W s.1 s.2)(G:s.1.ov=true)(H:s.2.length<=40000)(x:VJ ((n:Int),(g:Int),(W:Int),a,())=some (Qz g s.1,s.2.map Dn,0,())):
  (evU s.1.ts s.2).Perm (List.range n)/\1<=s.2.length/\DE ((n:Int),((g:Int),(W:Int),a,()),())=some (nI (evU s.1.ts s.2),(s.2.length:Int),0,()):=by
 have y:=o.done G;have b:=y.length_eq;rw[AWJ]at b;refine⟨y,?_,?_⟩;rcases AW9 s.2.length with z|z;rw[AWb z]at b;simp[evU]at b;omega;omega;rw[PC,N4];rw[BD,AV1 (by omega),BD,AV1 (by omega)];have I:ieq (0:Int) 0=true:=by rw[BB];rfl
 have j:=tA (g:=g) o H;simp only[Qz,PM]at j x;simp only[Qw,AV2 (show 1<=(g:Int)/\(g:Int)<=100/\1<=(W:Int)/\(W:Int)<=8/\a.length<=4000 by omega),AV6];rw[BB,AV1 (by omega)];simp only[x,I,AV6,j];generalize A:s.2.filterMap (J9 s.1.ts)=S;have p:S.flatMap PT=evU s.1.ts s.2:=by rw[<- A];exact vf _ _
 have J:S.length<=40000:=by grind
 have r:∀ q∈S,q.1<=q.2/\q.2<=1000:=by
  intro q d;rw[<- A,List.mem_filterMap]at d;obtain⟨e,T,d⟩:=d;obtain⟨D,K⟩:=o.iv;unfold J9 at d;split at d;rename_i f t L;split at d;cases d;cases B:s.1.ts[t]? with
   |none=>grind
   |some k=>rw[B]at d;simp only[AX2,AV3]at d;subst d;have:=K.tr.tree t k B;omega
  grind
 have l:∀ i,i<=S.length->((S.take i).flatMap PT).length<=1000:=by
  intro i _;have U:((S.take i).flatMap PT).length<=(S.flatMap PT).length:=by
   conv=>rhs;rw[<- AXC i S,AW5,AWF]
   omega
  grind
 have e:=Gu (step:=LL) (fun i=>(s.2.map Dn,nI ((S.take i).flatMap PT),S.map sq,(S.length:Int),(i:Int),())) S.length (.inl (s.2.map Dn,nI (S.flatMap PT),())) (by omega)
  (fun i hi=>by
   unfold LL
   dsimp only
   have M:=AWC hi
   obtain⟨u,v⟩:=r _ (AWu hi)
   have w:S.take (i+1)=S.take i++[S[i]]:=by simp
   have h:(S.map sq)[i]? = some (sq S[i]):=by grind
   have V:=l i (by omega)
   rw[w,AW5]
   generalize S[i]=q at u v h
   obtain⟨m,c⟩:=q
   simp only[A3,AV2 hi,A' h,Bu h,sq]
   simp only at u v
   rw[BE (show -9223372036854775808<=(c:Int)-m/\(c:Int)-m<=9223372036854775807 by omega),show(c:Int)-m=((c-m:Nat):Int) by omega]
   simp only[eS _ _ m c _ _ _ u v (show(nI ((S.take i).flatMap PT)).length<=1000000 by rw[Cc];omega)]
   rw[A5 (by omega)]
   unfold nI
   rw[AW3]
   simp[PT])
  (by unfold LL;dsimp only;rw[A3,AV1 (by omega),AWT])
 have N:A8 LL many (s.2.map Dn,([]:List Int),S.map sq,(S.length:Int),(0:Int),())=_:=e;simp only[A6,AWQ,N,p]
theorem zV{n:Nat}(f:1<=n)(c:n<=1000){p:Int×Int×List (List Int)×Unit}(h:HN p):∃ (U:List Nat) (k:Nat),U.Perm (List.range n)/\1<=k/\k<=40000/\DE ((n:Int),p,())=some (nI U,(k:Int),0,()):=by obtain⟨a,b,d,u⟩:=p;obtain⟨i,j,l,m,e⟩:=h;simp only at i j l m e;obtain⟨g,rfl⟩:=AV7 (show 0<=a by omega);obtain⟨W,rfl⟩:=AV7 (show 0<=b by omega);obtain⟨s,o,q,r,t⟩:=zp (g:=g) (n:=n) (W:=W) (by omega) (by omega) f c (by omega) (by omega) e;obtain⟨v,w,x⟩:=AHV (by omega) (by omega) f c (by omega) (by omega) e o q r t;grind
theorem ABJ(a b:Int):IntKind.wrap .u32 (a+b)=(a+b) % 4294967296:=by rw[IntKind.wrap_u32]
def sm(xs:List Int):Int:=xs.sum % 4294967296
def ahL(xs:List Int):List Int:=(List.range xs.length).map fun i=>sm (xs.take i)
theorem AJz(xs ys:List Int):sm (xs++ys)=(sm xs+sm ys) % 4294967296:=by unfold sm;simp
theorem kC(xs:List Int)(x:Int):sm (xs++[x])=(sm xs+x) % 4294967296:=by unfold sm;simp
def M9{α:Type}(N:Nat)(f:Nat->α)(z:α)(i:Nat):List α:=(List.range N).map fun j=>if j<i then f j else z
theorem UE{α:Type}(N:Nat)(f:Nat->α)(z:α):M9 N f z 0=List.replicate N z:=by unfold M9;apply AYS (by simp);simp
theorem aH{α:Type}(N:Nat)(f:Nat->α)(z:α):M9 N f z N=(List.range N).map f:=by unfold M9;simp_all
theorem Nk{α:Type}(N:Nat)(f:Nat->α)(z:α)(i:Nat):(M9 N f z i).length=N:=by simp[M9]
theorem aG{α:Type}(N:Nat)(f:Nat->α)(z:α)(i j:Nat):(M9 N f z i)[j]? = if j<N then some (if j<i then f j else z)else none:=by unfold M9;grind
theorem aF{α:Type}{N:Nat}(f:Nat->α)(z:α){i:Nat}:(M9 N f z i).set i (f i)=M9 N f z (i+1):=by apply AWp;intro j;rw[AX7,aG,aG,Nk];grind
theorem Cl{α:Type}{xs:List α}{i:Nat}{x:α}(h:xs[i]? = some x):xs.take (i+1)=xs.take i++[x]:=by rw[AYQ,h];rfl
theorem CT{α:Type}{xs:List α}{i:Nat}(h:i<xs.length):∃ x,xs[i]? = some x:=⟨_,AWC h⟩
theorem QC(xs:List Int)(d:xs.length<=1000000):Tz (xs,())=some (ahL xs,sm xs,()):=by
 rw[gF,Zc]
 have e:=Gu (step:=Kz) (fun i=>(M9 xs.length (fun j=>sm (xs.take j)) (0:Int) i,sm (xs.take i),xs,(xs.length:Int),(i:Int),())) xs.length (.inl (ahL xs,sm xs,())) (by omega)
  (fun i hi=>by
   obtain⟨x,a⟩:=CT hi
   obtain⟨y,b⟩:=CT (xs:=M9 xs.length (fun j=>sm (xs.take j)) (0:Int) i) (i:=i) (by rw[Nk];exact hi)
   rw[Kz,A3,AV2 hi]
   simp only[A' a,A' b,DO,aF,ABJ]
   rw[A5 (by omega),Cl a,kC])
  (by rw[Kz,A3,AV1 (by omega),aH,AWT];rfl)
 rw[UE]at e;have c:A8 Kz many (List.replicate xs.length (0:Int),(0:Int),xs,(xs.length:Int),(0:Int),())=_:=e;simp only[A6,FI (show xs.length<=4294967296 by omega),GW,c]
theorem ANX{α:Type}(f:Nat->α):∀ (U:List Nat) (a:List α) (j:Nat),(U.foldl (fun a i=>a.set i (f i)) a)[j]? = if j∈U/\j<a.length then some (f j)else a[j]? := by
 intro U;induction U with
  |nil=>simp
  |cons u U b=>intro a j;rw[AXA,b,AYI];grind
theorem MZ{α:Type}(f:Nat->α)(U:List Nat):∀ (a:List α),(U.foldl (fun a i=>a.set i (f i)) a).length=a.length:=by
 induction U with
  |nil=>simp
  |cons u U b=>grind
theorem sS{α:Type}{f:Nat->α}{U:List Nat}{N:Nat}(b:∀ j,j<N->j∈U)(z:α):U.foldl (fun a i=>a.set i (f i)) (List.replicate N z)=(List.range N).map f:=by apply AWp;intro j;rw[ANX,AWj];grind
def nbl(n b:Nat):Nat:=(n+b-1)/b
theorem aO{n b i:Nat}(a:1<=b):i<nbl n b↔i*b<n:=by unfold nbl;rw[Nat.lt_div_iff_mul_lt (by omega)];omega
theorem aP{n b:Nat}(a:1<=b):nbl n b<=n:=by
 rcases AW9 n with h|h;subst h;unfold nbl;rw[Nat.div_eq_of_lt (by omega)];omega;have:¬ n<nbl n b:=by rw[aO a];have:n*1<=n*b:=Nat.mul_le_mul_left n a;omega
 omega
theorem Tu(b:Int):ZG (b,())=some (decide (1<=b/\b<=100),()):=by rw[fe,ZF,BM];by_cases a:1<=b;rw[AV2 a,BM];simp[a];grind
theorem WU{n b:Nat}(c:n<=1000)(d:1<=b)(a:b<=100):X1 ((n:Int),(b:Int),())=some ((nbl n b:Int),()):=by rw[ZR,Tx];rw[BD,AV1 (by omega),BD,AV1 (by omega)];simp only[Tu,AV2 (show 1<=(b:Int)/\(b:Int)<=100 by omega),AV6];rw[wrap_add (by omega),Bz (by omega),QK,kY,AV9 (by omega),<- Int.ofNat_tdiv];have:(n+b-1)/b<=2000:=AWx (Nat.div_le_self _ _) (by omega);unfold nbl;generalize (n+b-1)/b=q at this;rw[V_ (by omega)]
def blk(xs:List Int)(b i:Nat):List Int:=(xs.take (min xs.length ((i+1)*b))).drop (i*b)
theorem fg{xs:List Int}{b i:Nat}(g:xs.length<=1000)(a:b<=100)(hi:i*b<=xs.length)(c:i<=1000):pP (xs,(i:Int),(b:Int),())=some (blk xs b i,()):=by
 rw[pO,kB];have h:i*b<=100000:=AXk c a;have j:(i+1)*b=i*b+b:=AYR i b;have d:w64 ((i:Int)*(b:Int))=((i*b:Nat):Int):=by rw[<- AYb,BE (by omega)]
 have e:w64 (w64 ((i:Int)+1)*(b:Int))=(((i+1)*b:Nat):Int):=by rw[A5 (by omega),<- AYb,BE (by omega)]
 have f:Cp (xs.length:Int) (((i+1)*b:Nat):Int)=((min xs.length ((i+1)*b):Nat):Int):=by unfold Cp;omega
 simp only[A6,d,e,f];rw[Tl (by omega) (Nat.min_le_left ..)];rfl
theorem uB{xs:List Int}{b i k:Nat}(a:i*b+k<=(i+1)*b):xs.take (i*b+k)=xs.take (i*b)++(blk xs b i).take k:=by rw[List.take_add];congr 1;unfold blk;apply AWp;grind
theorem TH{xs:List Int}{b i:Nat}:(blk xs b i).length=min xs.length ((i+1)*b)-i*b:=by unfold blk;simp
theorem APl{xs:List Int}{b i:Nat}:sm (xs.take ((i+1)*b))=(sm (xs.take (i*b))+sm (blk xs b i)) % 4294967296:=by have a:(i+1)*b=i*b+b:=AYR i b;have h:=uB (xs:=xs) (b:=b) (i:=i) (k:=b) (by omega);rw[<- a]at h;rw[h,AJz];congr 2;rw[AXH (by rw[TH];omega)]
theorem WE(xs:List Int)(b N:Nat):∀ i,i<=N->sm (((List.range N).map fun i=>sm (blk xs b i)).take i)=sm (xs.take (i*b)):=by
 intro i;induction i with
  |zero=>simp
  |succ i a=>intro hi;rw[Cl (x:=sm (blk xs b i)) (by grind),kC,a (by omega),APl]
theorem lJ{l:List Nat}{i x:Nat}(h:l[i]? = some x):idx (nI l) (i:Int)=some (x:Int)/\A9 (nI l) (A4 (i:Int)) (0:Int)=(x:Int):=⟨A' (Eh h),Bu (Eh h)⟩
section
variable {xs:List Int} {b:Nat} (hl:xs.length<=1000) (hb:1<=b) (hb2:b<=100)
include hl hb hb2
theorem AVq{U:List Nat}{N:Nat}(m:N=nbl xs.length b)(d:U.Perm (List.range N))(k:Int):
  A8 JC many (xs,(b:Int),k,nI U,List.replicate N (0:Int),(U.length:Int),(0:Int),())=some (.inl (xs,(b:Int),k,nI U,(List.range N).map (fun i=>sm (blk xs b i)),())):=by
 have n:N<=1000:=by rw[m];exact AWx (aP hb) hl
 have f:=d.length_eq;rw[AWJ]at f
 have e:=Gu (step:=JC) (fun i=>(xs,(b:Int),k,nI U,(U.take i).foldl (fun a i=>a.set i (sm (blk xs b i))) (List.replicate N (0:Int)),(U.length:Int),(i:Int),())) U.length (.inl (xs,(b:Int),k,nI U,(List.range N).map (fun i=>sm (blk xs b i)),())) (by omega)
  (fun i hi=>by
   obtain⟨u,g⟩:=CT hi
   have c:u<N:=AWS.1 (d.mem_iff.1 (AWA g))
   have h:u*b<xs.length:=(aO hb).1 (m▸c)
   obtain⟨o,p⟩:=lJ g
   obtain⟨y,q⟩:=CT (xs:=(U.take i).foldl (fun a i=>a.set i (sm (blk xs b i))) (List.replicate N (0:Int))) (i:=u) (by rw[MZ,AWj];exact c)
   have l:(blk xs b u).length<=1000000:=by rw[TH];omega
   rw[JC,A3,AV2 hi]
   simp only[o,p,fg hl hb2 (AX0 h) (by omega),QC _ l,A' q,DO]
   rw[A5 (by omega),Cl g,AXK]
   rfl)
  (by
   rw[JC,A3,AV1 (by omega),AWT,sS fun j r=>d.mem_iff.2 (AWS.2 r)])
 exact e
theorem AVo{i N:Nat}(hi:i<N)(l:i*b<xs.length)(v:N<=1000)(out:List Int)(m:out.length=xs.length)(tot k:Int)(f:List Int)(g d:Int):
  A8 JA many (xs,(b:Int),out,tot,k,(List.range N).map (fun i=>sm (xs.take (i*b))),(i:Int),f,g,d,ahL (blk xs b i),((blk xs b i).length:Int),(0:Int),()) =
   some (.inl (xs,(b:Int),(List.range' (i*b) (blk xs b i).length).foldl (fun a p=>a.set p (sm (xs.take p))) out,tot,k,(List.range N).map (fun i=>sm (xs.take (i*b))),f,g,d,())):=by
 have w:(i+1)*b=i*b+b:=AYR i b;have n:=TH (xs:=xs) (b:=b) (i:=i);have o:(ahL (blk xs b i)).length=(blk xs b i).length:=by simp[ahL]
 have c:((List.range N).map (fun i=>sm (xs.take (i*b))))[i]? = some (sm (xs.take (i*b))):=by grind
 have e:=Gu (step:=JA) (fun j=>(xs,(b:Int),(List.range' (i*b) j).foldl (fun a p=>a.set p (sm (xs.take p))) out,tot,k,(List.range N).map (fun i=>sm (xs.take (i*b))),(i:Int),f,g,d,ahL (blk xs b i),((blk xs b i).length:Int),(j:Int),())) (blk xs b i).length
  (.inl (xs,(b:Int),(List.range' (i*b) (blk xs b i).length).foldl (fun a p=>a.set p (sm (xs.take p))) out,tot,k,(List.range N).map (fun i=>sm (xs.take (i*b))),f,g,d,())) (by omega)
  (fun j q=>by
   have h:(ahL (blk xs b i))[j]? = some (sm ((blk xs b i).take j)):=by
    unfold ahL
    grind
   have r:w64 (w64 ((i:Int)*(b:Int))+(j:Int))=((i*b+j:Nat):Int):=by
    have s:w64 ((i:Int)*(b:Int))=((i*b:Nat):Int):=by rw[<- AYb,BE (by omega)]
    rw[s,wrap_add (by omega)]
   obtain⟨y,t⟩:=CT (xs:=(List.range' (i*b) j).foldl (fun a p=>a.set p (sm (xs.take p))) out) (i:=i*b+j) (by rw[MZ,m];omega)
   have u:IntKind.wrap .u32 (sm (xs.take (i*b))+sm ((blk xs b i).take j))=sm (xs.take (i*b+j)):=by
    rw[ABJ,uB (by omega),AJz]
   rw[JA,A3,AV2 q]
   simp only[A' h,Bu h,A' c,Bu c,r,A' t,DO,u]
   rw[A5 (by omega),List.range'_concat,AXK]
   simp)
  (by rw[JA,A3,AV1 (by omega)])
 exact e
theorem AVp{U:List Nat}{N:Nat}(g:N=nbl xs.length b)(h:U.Perm (List.range N))(tot k:Int):
  A8 JB many (xs,(b:Int),List.replicate xs.length (0:Int),tot,k,(List.range N).map (fun i=>sm (xs.take (i*b))),nI U,(U.length:Int),(0:Int),())=some (.inl (ahL xs,tot,k,())):=by
 have l:N<=1000:=by rw[g];exact AWx (aP hb) hl
 have m:=h.length_eq;rw[AWJ]at m
 have e:=Gu (step:=JB) (fun i=>(xs,(b:Int),((U.take i).flatMap fun i=>List.range' (i*b) (blk xs b i).length).foldl (fun a p=>a.set p (sm (xs.take p))) (List.replicate xs.length (0:Int)),tot,k,(List.range N).map (fun i=>sm (xs.take (i*b))),nI U,(U.length:Int),(i:Int),())) U.length (.inl (ahL xs,tot,k,())) (by omega)
  (fun i hi=>by
   obtain⟨u,n⟩:=CT hi
   have c:u<N:=AWS.1 (h.mem_iff.1 (AWA n))
   have d:u*b<xs.length:=(aO hb).1 (g▸c)
   obtain⟨s,t⟩:=lJ n
   have o:(blk xs b u).length<=1000000:=by rw[TH];omega
   have q:(ahL (blk xs b u)).length=(blk xs b u).length:=by simp[ahL]
   rw[JB,A3,AV2 hi]
   simp only[s,t,fg hl hb2 (AX0 d) (by omega),QC _ o,A6,q]
   have r:=AVo hl hb hb2 c d l (((U.take i).flatMap fun i=>List.range' (i*b) (blk xs b i).length).foldl (fun a p=>a.set p (sm (xs.take p))) (List.replicate xs.length (0:Int))) (by rw[MZ,AWj]) tot k (nI U) (U.length:Int) (i:Int)
   simp only[r]
   rw[A5 (by omega),Cl n,AW5,AXK]
   simp)
  (by
   rw[JB,A3,AV1 (by omega),AWT]
   have:∀ j,j<xs.length->j∈U.flatMap fun i=>List.range' (i*b) (blk xs b i).length:=by
    intro j v
    have s:j/b*b<=j:=Nat.div_mul_le_self j b
    have t:j<(j/b+1)*b:=by
     rw[AYR]
     have w:j/b*b+j % b=j:=by rw[Nat.mul_comm];exact Nat.div_add_mod j b
     have:=AYM j (show 0<b by omega)
     omega
    refine AYD.2 ⟨j/b,h.mem_iff.2 (AWS.2 (by rw[g,aO hb];omega)),?_⟩
    rw[List.mem_range'_1,TH]
    omega
   rw[sS (f:=fun p=>sm (xs.take p)) this]
   rfl)
 exact e
theorem fb{p:Int×Int×List (List Int)×Unit}{U:List Nat}{k:Nat}(o:k<=40000)(g:U.Perm (List.range (nbl xs.length b)))(h:DE ((nbl xs.length b:Int),p,())=some (nI U,(k:Int),0,())):
  fc (xs,(b:Int),p,())=some (ahL xs,sm xs,((2*k:Nat):Int),0,()):=by
 have j:nbl xs.length b<=1000:=AWx (aP hb) hl;have l:ieq (0:Int) 0=true:=by rw[BB];rfl
 obtain⟨a,c,q,u⟩:=p;rw[ZE,Xt];have:Rj (xs,(b:Int),(a,c,q,()),())=some (ahL xs,sm xs,((2*k:Nat):Int),0,()):=by
  rw[P6,Oo];simp only[Tu,AV2 (show 1<=(b:Int)/\(b:Int)<=100 by omega),AV6,A6];rw[BD,AV1 (by omega)];have d:=AVq hl hb hb2 rfl g (k:Int);simp only[WU hl hb hb2,h,l,AV6,FI (show nbl xs.length b<=4294967296 by omega),GW,Cc,d];have m:((List.range (nbl xs.length b)).map fun i=>sm (blk xs b i)).length<=1000000:=by grind
  have e:ahL ((List.range (nbl xs.length b)).map fun i=>sm (blk xs b i))=(List.range (nbl xs.length b)).map fun i=>sm (xs.take (i*b)):=by unfold ahL;rw[AWQ,AWJ];refine AXo fun i hi=>WE xs b _ i (AX0 (AWS.1 hi))
  have f:sm ((List.range (nbl xs.length b)).map fun i=>sm (blk xs b i))=sm xs:=by
   have:=WE xs b (nbl xs.length b) (nbl xs.length b) (AV8 _);rw[AXH (by simp)]at this;rw[this,AXH];have:=(aO (n:=xs.length) (i:=nbl xs.length b) hb)
   omega
  simp only[QC _ m,e,f,FI (show xs.length<=4294967296 by omega)];simp only[AVp hl hb hb2 rfl g (sm xs) (k:Int)];rw[show((2:Int)*(k:Int))=((2*k:Nat):Int) by omega,BE (by omega)]
 grind
end
theorem AED{xs:List Int}{b:Int}{p:Int×Int×List (List Int)×Unit}(h:¬ (1<=b/\b<=100/\xs.length<=1000/\HN p)):fc (xs,b,p,())=some ([],0,0,1,()):=by
 obtain⟨a,c,q,u⟩:=p;rw[ZE,Xt];have:Rj (xs,b,(a,c,q,()),())=some ([],0,0,1,()):=by
  rw[P6,Oo];simp only[Tu,A6];by_cases d:1<=b/\b<=100;rw[AV2 d];simp only[AV6];by_cases e:xs.length<=1000;rw[BD,AV1 (by omega)];obtain⟨b,rfl⟩:=AV7 (show 0<=b by omega);have f:¬ HN (a,c,q,()):=fun g=>h ⟨d.1,d.2,e,g⟩;have i:DE ((nbl xs.length b:Int),(a,c,q,()),())=some ([],0,1,()):=bo fun j=>f j.2.2;have k:ieq (1:Int) 0=false:=by rw[BB];rfl
  simp only[WU (b:=b) e (by omega) (by omega),i,k,AWR];rw[BD,AV2 (by omega)];grind
 grind
theorem Qx{n:Nat}(a:n<=1000){p:Int×Int×List (List Int)×Unit}(b:HN p):∃ (U:List Nat) (k:Nat),U.Perm (List.range n)/\(1<=n->1<=k)/\k<=40000/\DE ((n:Int),p,())=some (nI U,(k:Int),0,()):=by rcases AW9 n with h|h;subst h;exact⟨[],0,by simp,fun h=>by omega,by omega,Wq b⟩;obtain⟨U,k,c,d,e,f⟩:=zV h a b;grind
def K9(keep:List Bool):List Int:=keep.map fun b=>if b then 1 else 0
theorem wy(keep:List Bool)(f:keep.length<=1000000):ki (keep,false,())=some (K9 keep,()):=by
 rw[gZ,Zy]
 have e:=Gu (step:=K3) (fun i=>(false,M9 keep.length (fun j=>if keep.getD j false then(1:Int)else 0) (0:Int) i,keep,(keep.length:Int),(i:Int),())) keep.length (.inl (K9 keep,())) (by omega)
  (fun i hi=>by
   obtain⟨x,a⟩:=CT hi
   obtain⟨y,b⟩:=CT (xs:=M9 keep.length (fun j=>if keep.getD j false then(1:Int)else 0) (0:Int) i) (i:=i) (by rw[Nk];exact hi)
   have c:keep.getD i false=x:=by grind
   rw[K3,A3,AV2 hi]
   simp only[A' a,A' b,DO]
   rw[A5 (by omega),<- aF]
   cases x with
   |true=>grind
   |false=>
    simp only[c,AWM,AWN]
    have:(M9 keep.length (fun j=>if keep.getD j false then(1:Int)else 0) (0:Int) i).set i 0=M9 keep.length (fun j=>if keep.getD j false then(1:Int)else 0) (0:Int) i:=by
     apply AWp
     intro j
     rw[AX7]
     by_cases h:i=j
     ·subst h
      rw[AWB rfl,Nk,AWB hi,aG,AWB hi,AV9 (by omega)]
     grind
    grind)
  (by
   rw[K3,A3,AV1 (by omega),aH]
   have:(List.range keep.length).map (fun j=>if keep.getD j false then(1:Int)else 0)=K9 keep:=by
    apply AWp
    intro j
    unfold K9
    grind
   rw[this])
 rw[UE]at e;have d:A8 K3 many (false,List.replicate keep.length (0:Int),keep,(keep.length:Int),(0:Int),())=_:=e;simp only[A6,FI (show keep.length<=4294967296 by omega),GW,d]
def kept(keep:List Bool)(n:Nat):List Nat:=(List.range n).filter fun i=>keep.getD i false
theorem UQ(keep:List Bool)(n:Nat):kept keep (n+1)=kept keep n++(if keep.getD n false then [n]else []):=by unfold kept;rw[AWX,AXQ];grind
theorem YI(keep:List Bool):∀ n,(kept keep n).length<=n:=fun n=>by have:=AXD (fun i=>keep.getD i false) (List.range n);simpa [kept]using this
theorem SQ(keep:List Bool){i n:Nat}(h:i<n)(b:keep.getD i false=true):(kept keep n)[(kept keep i).length]? = some i:=by
 have:∀ d,∃ r,kept keep (i+1+d)=kept keep i++i::r:=by
  intro d;induction d with
   |zero=>exact⟨[],by rw[AXc,UQ,b];rfl⟩
   |succ d c=>obtain⟨r,a⟩:=c;exact⟨r++(if keep.getD (i+1+d) false then [i+1+d]else []),by rw[<- AYG,UQ,a];simp⟩
 obtain⟨r,a⟩:=this (n-(i+1));grind
theorem ABZ{keep:List Bool}(d:keep.length<=1000000):∀ i,i<=keep.length->sm ((K9 keep).take i)=((kept keep i).length:Int):=by
 intro i;induction i with
  |zero=>intro _;simp[kept,sm]
  |succ i a=>
   intro hi;obtain⟨x,e⟩:=CT (show i<keep.length by omega);have b:keep.getD i false=x:=by grind
   have c:(K9 keep)[i]? = some (if x then 1 else 0):=by unfold K9;grind
   have:=YI keep i;rw[Cl c,kC,a (by omega),UQ,AWF,b];grind
theorem sR{α:Type}{g:Nat->Nat}{v:Nat->α}:∀ (U:List Nat) (a:List α),U.Nodup->(∀ i∈U,∀ j∈U,g i=g j->i=j)->∀ i∈U,g i<a.length->(U.foldl (fun a i=>a.set (g i) (v i)) a)[g i]? = some (v i):=by
 intro U;induction U with
  |nil=>simp
  |cons u U f=>
   intro a d c i hi k;rw[AXA];rw[AWz]at d;rcases AWO.1 hi with rfl|hi;have:∀ (V:List Nat) (a:List α),(∀ j∈V,g j≠g i)->(V.foldl (fun a i=>a.set (g i) (v i)) a)[g i]? = a[g i]? := by
    intro V;induction V with
     |nil=>simp
     |cons x V b=>intro a h;rw[AXA,b _ fun j e=>h j (by simp[e]),List.getElem?_set_ne (h x (by simp))]
   grind;grind
theorem Ie{α:Type}(g:Nat->Nat)(v:Nat->α)(U:List Nat):∀ (a:List α),(U.foldl (fun a i=>a.set (g i) (v i)) a).length=a.length:=by
 induction U with
  |nil=>simp
  |cons u U b=>grind
theorem AMb{keep:List Bool}{i j:Nat}(hi:keep.getD i false=true)(a:keep.getD j false=true)(h:(kept keep i).length=(kept keep j).length):i=j:=by have b:=SQ keep (n:=i+j+1) (i:=i) (by omega) hi;have c:=SQ keep (n:=i+j+1) (i:=j) (by omega) a;grind
theorem AKt{keep:List Bool}{U:List Nat}(l:U.Perm (List.range keep.length)):
  ((U.filter fun i=>keep.getD i false).foldl (fun a i=>a.set (kept keep i).length (i:Int)) (List.replicate (kept keep keep.length).length (0:Int)))=nI (kept keep keep.length):=by
 have c:=sR (g:=fun i=>(kept keep i).length) (v:=fun i:Nat=>(i:Int)) (U.filter fun i=>keep.getD i false) (List.replicate (kept keep keep.length).length (0:Int))
  ((l.nodup_iff.2 AXg).filter _) (fun i hi j d h=>AMb (AWZ.1 hi).2 (AWZ.1 d).2 h)
 apply AWp;intro j;by_cases d:j<(kept keep keep.length).length;obtain⟨i,hi⟩:=CT d;have n:=AWA hi;have b:=AWZ.1 n;have e:i<keep.length:=AWS.1 b.1;have m:=SQ keep e b.2;have f:(kept keep i).length=j:=by have k:(kept keep keep.length).Nodup:=List.nodup_range.filter _;exact(AYP (Ei m) k).1 (m.trans hi.symm)
 have:=c i (AWZ.2 ⟨l.mem_iff.2 b.1,b.2⟩) (by grind);simp only[f]at this;rw[this,Eh hi];rw[AXM (by rw[Ie,AWj];omega),AXM (by rw[Cc];omega)]
theorem qJ{keep:List Bool}{b:Nat}(J:keep.length<=1000)(B:1<=b)(h:b<=100){p:Int×Int×List (List Int)×Unit}{U V:List Nat}{k m:Nat}(C:k<=40000)(K:m<=40000)
  (L:U.Perm (List.range (nbl keep.length b))) (M:DE ((nbl keep.length b:Int),p,())=some (nI U,(k:Int),0,())) (j:V.Perm (List.range keep.length)) (l:DE ((keep.length:Int),p,())=some (nI V,(m:Int),0,())) :
  X6 (K9 keep,(b:Int),p,())=some (nI (kept keep keep.length),((2*k+m:Nat):Int),0,()):=by
 have D:ieq (0:Int) 0=true:=by rw[BB];rfl
 have n:(K9 keep).length=keep.length:=by simp[K9]
 have E:=YI keep keep.length;have o:=j.length_eq;rw[AWJ]at o;have w:=fb (xs:=K9 keep) (b:=b) (by omega) B h (p:=p) (U:=U) C (by grind) (by grind);have f:sm (K9 keep)=((kept keep keep.length).length:Int):=by have:=ABZ (keep:=keep) (by omega) keep.length (AV8 _);grind
 rw[f]at w;obtain⟨a,c,q,u⟩:=p;rw[Zw,T6];simp only[w,D,AV6,A6,n,l,FI (show(kept keep keep.length).length<=4294967296 by omega),GW,Cc]
 have e:=Gu (step:=JK) (fun i=>(K9 keep,ahL (K9 keep),((2*k:Nat):Int),(m:Int),((V.take i).filter fun i=>keep.getD i false).foldl (fun a i=>a.set (kept keep i).length (i:Int)) (List.replicate (kept keep keep.length).length (0:Int)),nI V,(V.length:Int),(i:Int),())) V.length
  (.inl (((2*k:Nat):Int),(m:Int),nI (kept keep keep.length),())) (by omega)
  (fun i hi=>by
   obtain⟨v,r⟩:=CT hi
   have d:v<keep.length:=AWS.1 (j.mem_iff.1 (AWA r))
   obtain⟨F,G⟩:=lJ r
   obtain⟨x,N⟩:=CT d
   have z:keep.getD v false=x:=by grind
   have s:(K9 keep)[v]? = some (if x then 1 else 0):=by unfold K9;grind
   have g:(ahL (K9 keep))[v]? = some ((kept keep v).length:Int):=by
    unfold ahL
    rw[AYj,List.getElem?_range (by omega)]
    show some (sm ((K9 keep).take v))=_
    rw[ABZ (by omega) v (AX0 d)]
   rw[JK,A3,AV2 hi]
   simp only[F,G,A' s]
   rw[A5 (by omega),Cl r,AXQ,AXK]
   cases x with
   |true=>
    have t:(kept keep v).length<(kept keep keep.length).length:=Ei (SQ keep d z)
    obtain⟨y,H⟩:=CT (xs:=((V.take i).filter fun i=>keep.getD i false).foldl (fun a i=>a.set (kept keep i).length (i:Int)) (List.replicate (kept keep keep.length).length (0:Int))) (i:=(kept keep v).length) (by
     rw[Ie (fun i=>(kept keep i).length) (fun i:Nat=>(i:Int)),AWj];exact t)
    have A:ieq (1:Int) 1=true:=by rw[BB];rfl
    simp only[AWf,A,A' g,Bu g,A' H,DO,AYq,z]
    rfl
   |false=>
    have A:ieq (0:Int) 1=false:=by rw[BB];rfl
    grind)
  (by rw[JK,A3,AV1 (by omega),AWT,AKt j])
 have I:A8 JK many (K9 keep,ahL (K9 keep),((2*k:Nat):Int),(m:Int),List.replicate (kept keep keep.length).length (0:Int),nI V,(V.length:Int),(0:Int),())=_:=e;simp only[I];rw[wrap_add (by omega)]
theorem wk{keep:List Bool}{b:Nat}(f:keep.length<=1000)(g:1<=b)(d:b<=100){p:Int×Int×List (List Int)×Unit}{U V:List Nat}{k m:Nat}(i:k<=40000)(j:m<=40000)
  (l:U.Perm (List.range (nbl keep.length b))) (n:DE ((nbl keep.length b:Int),p,())=some (nI U,(k:Int),0,())) (o:V.Perm (List.range keep.length)) (e:DE ((keep.length:Int),p,())=some (nI V,(m:Int),0,())) :
  kZ (keep,(b:Int),p,())=some (nI (kept keep keep.length),((2*k+m:Nat):Int),0,()):=by have h:=qJ f g d i j l n o e;obtain⟨a,c,q,u⟩:=p;rw[gT,Zs];simp only[wy keep (by omega),h]
def bkt(d:Nat->Nat)(l:List Nat)(v:Nat):List Nat:=l.filter fun i=>d i==v
def Ft(d:Nat->Nat)(B:Nat)(l:List Nat):List Nat:=(List.range B).flatMap (bkt d l)
def FE(d:Nat->Nat)(l:List Nat)(v:Nat):Nat:=(Ft d v l).length
theorem Mk(d:Nat->Nat)(B:Nat)(l:List Nat):Ft d (B+1) l=Ft d B l++bkt d l B:=by unfold Ft;rw[AWX,AW5];simp
theorem tz(d:Nat->Nat)(l:List Nat)(v:Nat):FE d l (v+1)=FE d l v+(bkt d l v).length:=by unfold FE;rw[Mk,AWF]
theorem cW(d:Nat->Nat)(l:List Nat):∀ B,(Ft d B l).Perm (l.filter fun i=>decide (d i<B)):=by
 intro B;induction B with
  |zero=>
   have:l.filter (fun i=>decide (d i<0))=[]:=List.filter_eq_nil_iff.2 fun a _=>by simp
   rw[this];exact List.Perm.refl _
  |succ B b=>
   rw[Mk];have h:=List.filter_append_perm (fun i=>decide (d i<B)) (l.filter fun i=>decide (d i<B+1));refine List.Perm.trans ?_ h;have c:(l.filter fun i=>decide (d i<B+1)).filter (fun i=>decide (d i<B))=l.filter fun i=>decide (d i<B):=by rw[List.filter_filter];refine AX5 fun x _ => ?_;grind
   have e:(l.filter fun i=>decide (d i<B+1)).filter (fun i => !decide (d i<B))=bkt d l B:=by unfold bkt;rw[List.filter_filter];refine AX5 fun x _ => ?_;rw[AXa];simp;omega
   grind
theorem W5{d:Nat->Nat}{B:Nat}{l:List Nat}(h:∀ i∈l,d i<B):(Ft d B l).Perm l:=by have:=cW d l B;rw[AXY.2 fun a b=>AV2 (h a b)]at this;omega
def PO(d:Nat->Nat)(l:List Nat)(t:Nat):Nat:=FE d l (d (l.getD t 0))+(bkt d (l.take t) (d (l.getD t 0))).length
theorem tL(d:Nat->Nat)(l:List Nat){v B:Nat}(h:v<B):∃ r,Ft d B l=Ft d v l++(bkt d l v++r):=by
 have:∀ k,∃ r,Ft d (v+1+k) l=Ft d v l++(bkt d l v++r):=by
  intro k;induction k with
   |zero=>exact⟨[],by rw[AXc,Mk];simp⟩
   |succ k a=>obtain⟨r,b⟩:=a;exact⟨r++bkt d l (v+1+k),by rw[<- AYG,Mk,b];simp⟩
 have:=this (B-(v+1));grind
theorem tM{d:Nat->Nat}{B:Nat}{l:List Nat}(h:∀ i∈l,d i<B){t x:Nat}(a:l[t]? = some x):(Ft d B l)[PO d l t]? = some x:=by
 have b:=h x (AWA a);have c:l.getD t 0=x:=by grind
 obtain⟨r,f⟩:=tL d l b;unfold PO;rw[c,f,AWm (by unfold FE;omega)];unfold FE;rw[Nat.add_sub_cancel_left];have g:bkt d l (d x)=bkt d (l.take t) (d x)++x::bkt d (l.drop (t+1)) (d x):=by
  have e:l=l.take t++x::l.drop (t+1):=by obtain⟨j,rfl⟩:=AWH.1 a;simp
  unfold bkt;grind
 grind
theorem nC{k:Nat->Nat}{m b B:Nat}{l:List Nat}(e:B=2 ^ b)(h:l.Pairwise fun i j=>k i % 2 ^ m<=k j % 2 ^ m):
  (Ft (fun i=>k i/2 ^ m % B) B l).Pairwise fun i j=>k i % 2 ^ (m+b)<=k j % 2 ^ (m+b):=by
 have a:∀ i,k i % 2 ^ (m+b)=2 ^ m*(k i/2 ^ m % B)+k i % 2 ^ m:=by intro i;rw[Nat.pow_add,Nat.mod_mul,e];omega
 unfold Ft;rw[List.pairwise_flatMap];constructor;intro v _;unfold bkt;have:=h.filter (fun i=>k i/2 ^ m % B==v);refine this.imp_of_mem fun {i j} hi d f => ?_;grind;refine List.pairwise_lt_range.imp fun {v w} c i hi j d => ?_;have g:k i/2 ^ m % B=v:=by simpa using (AWZ.1 hi).2
 have n:k j/2 ^ m % B=w:=by simpa using (AWZ.1 d).2
 rw[a,a,g,n];have o:=AYM (k i) (AYc m);have p:2 ^ m*(v+1)<=2 ^ m*w:=Nat.mul_le_mul_left _ c;grind
def Zi(k:Nat->Nat)(b:Nat)(l:List Nat):Nat->List Nat
 |0=>l
 |p+1=>Ft (fun i=>k i/2 ^ (p*b) % 2 ^ b) (2 ^ b) (Zi k b l p)
theorem gH(k:Nat->Nat)(b:Nat)(l:List Nat):∀ p,(Zi k b l p).Perm l/\(Zi k b l p).Pairwise fun i j=>k i % 2 ^ (p*b)<=k j % 2 ^ (p*b):=by
 intro p;induction p with
  |zero=>refine⟨List.Perm.refl _,?_⟩;simp only[AXt,Nat.pow_zero,Nat.mod_one];exact List.pairwise_of_forall fun _ _=>AV8 _
  |succ p a=>refine⟨(W5 fun i _=>AYM _ (AYc b)).trans a.1,?_⟩;rw[AYR];exact nC rfl a.2
def Qv(s:List Int):List Bool:=(List.range s.length).map fun i=>decide (i=0)||decide (s.getD (i-1) 0≠s.getD i 0)
def nps(b:Nat):Nat:=(32+b-1)/b
theorem AMF{b p:Nat}(a:1<=b):p<nps b↔p*b<32:=by unfold nps;rw[Nat.lt_div_iff_mul_lt (by omega)];omega
theorem lG{b:Nat}:nps b<=47:=by unfold nps;rcases AW9 b with h|h;grind;have c:=Nat.div_mul_le_self (32+b-1) b;generalize (32+b-1)/b=q at c;rcases AX1 32 q with a|a;have:33*b<=q*b:=AWn _ a;omega;omega
theorem ACF{b:Nat}(a:1<=b):1<=nps b:=by have:=(AMF (p:=0) a).2 (by omega);omega
theorem pr{b:Int}(h:¬ (1<=b/\b<=16)):Ov (b,())=some (0,()):=by rw[QF,Ou];by_cases a:b<1;rw[BD,AV2 a];rw[BD,AV1 a,BD,AV2 (by omega)]
theorem Na{b:Nat}(h:1<=b)(c:b<=16):Ov ((b:Int),())=some ((nps b:Int),()):=by
 have:=lG (b:=b);rw[QF,Ou];rw[BD,AV1 (by omega),BD,AV1 (by omega)];have e:w64 (w64 ((32:Int)+(b:Int))-1)=((32+b-1:Nat):Int):=by
  have a:w64 ((32:Int)+(b:Int))=((32+b:Nat):Int):=by rw[BE (by omega)];omega
  rw[a,BE (by omega)];omega
 simp only[e];rw[QK,kY,AV9 (by omega),<- Int.ofNat_tdiv];unfold nps at this |-;generalize (32+b-1)/b=q at this |-;rw[V_ (by omega)]
theorem jh{n:Nat}(h:n<18446744073709551616):IntKind.wrap .u64 (n:Int)=n:=IntWalk.u64_in _ (by omega)
theorem J8{n:Nat}(h:n<4294967296):IntKind.wrap .u32 (n:Int)=n:=IntWalk.u32_in _ (by omega)
theorem AMI{x b:Nat}(d:x<4294967296)(c:b<=16):IntKind.wrap .u32 (BitVec.ofInt (IntKind.bits .u32) (x:Int) &&& BitVec.ofInt (IntKind.bits .u32) ((2 ^ b-1:Nat):Int)).toNat=((x % 2 ^ b:Nat):Int):=by
 have f:2 ^ b<=2 ^ 16:=AYU (by omega) c;have g:(2:Nat) ^ 16=65536:=by decide
 have e:(BitVec.ofInt (IntKind.bits .u32) (x:Int) &&& BitVec.ofInt (IntKind.bits .u32) ((2 ^ b-1:Nat):Int)).toNat=x % 2 ^ b:=by rw[BitVec.toNat_and,AXm,AXm,AXr,AXr];have a:IntKind.bits .u32=32:=rfl;rw[a,AXI (by omega),AXI (by omega),Nat.and_two_pow_sub_one_eq_mod]
 rw[e];have:=Nat.mod_le x (2 ^ b);exact J8 (by omega)
theorem wi{x p b:Nat}(g:x<4294967296)(c:1<=b)(a:b<=16)(d:p<nps b):T5 ((x:Int),(p:Int),(b:Int),())=some (((x/2 ^ (p*b) % 2 ^ b:Nat):Int),()):=by
 have h:=(AMF c).1 d;have r:=lG (b:=b);rw[gS,Zp];have i:kO ((p:Int),(b:Int),())=some (true,()):=by rw[gG,Zf];rw[BM,AV2 (by omega)];simp only[Na c a];rw[A3,AV2 d]
 have j:IntKind.wrap .u64 (w64 ((p:Int)*(b:Int)))=((p*b:Nat):Int):=by rw[<- AYb,BE (by omega),jh (by omega)]
 have k:IntKind.wrap .u64 (b:Int)=(b:Int):=jh (by omega);have l:shr? .u32 (x:Int) ((p*b:Nat):Int)=some ((x/2 ^ (p*b):Nat):Int):=by
  rw[ZM,vk,AV9 (by omega)];have:min ((p*b:Nat):Int).toNat (IntKind.bits .u32)=p*b:=by show min _ 32=_;omega
  grind
 have m:2 ^ b<=2 ^ 16:=AYU (by omega) a;have e:(2:Nat) ^ 16=65536:=by decide
 have f:=AYc b;have n:shl? .u32 (1:Int) (b:Int)=some ((2 ^ b:Nat):Int):=by
  rw[NQ,dV,AV9 (by omega)];have:min (b:Int).toNat (IntKind.bits .u32)=b:=by show min _ 32=_;omega
  rw[this,Int.one_mul,show(2:Int) ^ b=((2 ^ b:Nat):Int) by simp,J8 (by omega)]
 have o:IntKind.wrap .u32 (((2 ^ b:Nat):Int)-1)=((2 ^ b-1:Nat):Int):=by rw[show((2 ^ b:Nat):Int)-1=((2 ^ b-1:Nat):Int) by omega,J8 (by omega)]
 have q:x/2 ^ (p*b)<4294967296:=Nat.lt_of_le_of_lt (Nat.div_le_self _ _) g;simp only[i,AV6,j,k,l,n,o];rw[AMI q a]
section
variable {ks l:List Nat} {b p:Nat} (hk:∀ x∈ks,x<4294967296) (hb:1<=b) (hb2:b<=16) (hp:p<nps b) (hn:ks.length<=1000) (hl:l.Perm (List.range ks.length))
include hk hb hb2 hp hn hl
def dgt(ks:List Nat)(b p:Nat)(i:Nat):Nat:=ks.getD i 0/2 ^ (p*b) % 2 ^ b
omit hl hn in
theorem mq{i:Nat}(hi:i<ks.length):∃ x:Nat,ks[i]? = some x/\T5 ((x:Int),(p:Int),(b:Int),())=some ((dgt ks b p i:Int),())/\dgt ks b p i<2 ^ b:=by obtain⟨x,a⟩:=CT hi;refine⟨x,a,?_,AYM _ (AYc b)⟩;rw[wi (hk x (AWA a)) hb hb2 hp];unfold dgt;grind
def AAZ(d:Nat->Nat)(l:List Nat):Nat->Int
 |0=>(0:Int)
 |v+1=>((bkt d l v).length:Int)
def OL(d:Nat->Nat)(B:Nat)(l:List Nat):List Int:=(List.range (B+1)).map (AAZ d l)
omit hk hb hb2 hp hn hl in
theorem nH(d:Nat->Nat)(B:Nat)(l:List Nat){j:Nat}(h:j<B+1):(OL d B l)[j]? = some (AAZ d l j):=by unfold OL;grind
omit hk hb hb2 hp hn hl in
theorem cn(d:Nat->Nat)(B:Nat)(l:List Nat):(OL d B l).length=B+1:=by simp[OL]
omit hk hb hb2 hp hn hl in
theorem uC(d:Nat->Nat)(l:List Nat)(x v:Nat):bkt d (l++[x]) v=bkt d l v++(if d x==v then [x]else []):=by unfold bkt;grind
omit hk hb hb2 hp hn hl in
theorem AIQ(d:Nat->Nat)(B:Nat)(l:List Nat)(x:Nat):OL d B (l++[x])=(OL d B l).set (d x+1) (((bkt d l (d x)).length+1:Nat):Int):=by
 apply AWp;intro j;rw[AX7,cn];by_cases a:j<B+1;rw[nH d B _ a];by_cases h:d x+1=j;subst h;rw[AWB rfl,AWB a];simp[AAZ,uC];rw[AV9 h,nH d B _ a];cases j with
  |zero=>rfl
  |succ v=>have:¬ d x=v:=fun e=>h (by omega);simp[AAZ,uC,this]
 rw[AXM (l:=OL d B (l++[x])) (by rw[cn];omega)];by_cases h:d x+1=j;grind;rw[AV9 h];exact(AXM (by rw[cn];omega)).symm
def TK(d:Nat->Nat)(B:Nat)(l:List Nat)(k:Nat):List Int:=(List.range (B+1)).map fun v=>if v<=k then(FE d l v:Int)else AAZ d l v
omit hk hb hb2 hp hn hl in
theorem AIs(d:Nat->Nat)(B:Nat)(l:List Nat):TK d B l 0=OL d B l:=by
 unfold TK OL;refine AXo fun v _ => ?_;cases v with
  |zero=>rfl
  |succ v=>omega
omit hk hb hb2 hp hn hl in
theorem YY(d:Nat->Nat)(B:Nat)(l:List Nat)(k:Nat){v:Nat}(a:v<B+1):(TK d B l k)[v]? = some (if v<=k then(FE d l v:Int)else AAZ d l v):=by unfold TK;grind
omit hk hb hb2 hp hn hl in
theorem AIt(d:Nat->Nat)(B:Nat)(l:List Nat){k:Nat}(h:k<B):(TK d B l k)[k]? = some (FE d l k:Int)/\(TK d B l k)[k+1]? = some ((bkt d l k).length:Int)/\(TK d B l k).set (k+1) (FE d l (k+1):Int)=TK d B l (k+1):=by
 refine⟨by rw[YY d B l k (by omega),AWB (AV8 _)],by rw[YY d B l k (by omega),AV9 (by omega)];rfl,?_⟩;have a:∀ k,(TK d B l k).length=B+1:=fun k=>by simp[TK]
 apply AWp;intro j;rw[AX7,a];by_cases e:j<B+1;rw[YY d B l (k+1) e];by_cases c:k+1=j;grind;rw[AV9 c,YY d B l k e];grind;grind
def lE(d:Nat->Nat)(B:Nat)(l:List Nat)(t:Nat):List Int:=(List.range (B+1)).map fun v=>((FE d l v+(bkt d (l.take t) v).length:Nat):Int)
omit hk hb hb2 hp hn hl in
theorem aM(d:Nat->Nat)(B:Nat)(l:List Nat)(t:Nat){v:Nat}(h:v<B+1):(lE d B l t)[v]? = some ((FE d l v+(bkt d (l.take t) v).length:Nat):Int):=by unfold lE;grind
omit hk hb hb2 hp hn hl in
theorem AFv(d:Nat->Nat)(B:Nat)(l:List Nat){t x:Nat}(h:l[t]? = some x):(lE d B l t).set (d x) ((FE d l (d x)+(bkt d (l.take t) (d x)).length+1:Nat):Int)=lE d B l (t+1):=by
 have a:∀ t,(lE d B l t).length=B+1:=fun t=>by simp[lE]
 apply AWp;intro j;rw[AX7];by_cases c:j<B+1;have hb:bkt d (l.take (t+1)) j=bkt d (l.take t) j++(if d x==j then [x]else []):=by rw[Cl h];unfold bkt;grind
 rw[aM d B l _ c,aM d B l _ c,hb];grind;grind
theorem AQD:rby (nI ks,nI l,(p:Int),(b:Int),())=some (nI (Ft (dgt ks b p) (2 ^ b) l),()):=by
 have h16:2 ^ b<=2 ^ 16:=AYU (by omega) hb2;have T:(2:Nat) ^ 16=65536:=by decide
 have U:=AYc b;have I:=hl.length_eq;rw[AWJ]at I;generalize J:2 ^ b=B at *;have hd:∀ {t x:Nat},l[t]? = some x->x<ks.length:=fun h=>AWS.1 (hl.mem_iff.1 (AWA h));have f:∀ i∈l,dgt ks b p i<B:=fun i hi=>by obtain⟨x,_,_,h⟩:=mq hk hb hb2 hp (AWS.1 (hl.mem_iff.1 hi));omega
 have m:∀ (K:List Nat) v,(bkt (dgt ks b p) K v).length<=K.length:=fun K v=>AXD _ _;have e:=W5 f;have A:∀ v,v<=B->FE (dgt ks b p) l v<=1000:=fun v hv=>by have L:=(cW (dgt ks b p) l v).length_eq;have V:=AXD (fun i=>decide (dgt ks b p i<v)) l;unfold FE;omega
 rw[AKo,AKp];have e1:IntKind.wrap .u64 (b:Int)=(b:Int):=jh (by omega);have e2:shl? .i64 (1:Int) (b:Int)=some (B:Int):=by
  rw[NQ,dV,AV9 (by omega)];have:min (b:Int).toNat (IntKind.bits .i64)=b:=by show min _ 64=_;omega
  rw[this,Int.one_mul,show(2:Int) ^ b=((2 ^ b:Nat):Int) by simp,J,V_ (by omega)]
 simp only[e1,e2];rw[A5 (by omega)];simp only[FI (show B+1<=4294967296 by omega),GW,A6,Cc]
 have W:=Gu (step:=Zr) (fun t=>(nI ks,nI l,(p:Int),(b:Int),OL (dgt ks b p) B (l.take t),nI l,(l.length:Int),(t:Int),())) l.length (.inl (nI ks,nI l,(p:Int),(b:Int),OL (dgt ks b p) B l,())) (by omega)
  (fun t d=>by
   obtain⟨x,c⟩:=CT d
   obtain⟨y,s,n,o⟩:=mq hk hb hb2 hp (hd c)
   rw[J]at o
   have u:(OL (dgt ks b p) B (l.take t))[dgt ks b p x+1]? = some ((bkt (dgt ks b p) (l.take t) (dgt ks b p x)).length:Int):=nH _ _ _ (by omega)
   have q:=m (l.take t) (dgt ks b p x)
   rw[AWt]at q
   have hw:IntKind.wrap .u32 ((dgt ks b p x:Int)+1)=((dgt ks b p x+1:Nat):Int):=by
    rw[show(dgt ks b p x:Int)+1=((dgt ks b p x+1:Nat):Int) by omega,J8 (by omega)]
   rw[Zr,A3,AV2 d]
   simp only[A' (Eh c),A' (Eh s),n,hw,A' u,Bu u,DO]
   rw[A5 (by omega),A5 (by omega),Cl c,AIQ])
  (by rw[Zr,A3,AV1 (by omega),AWT])
 have z0:OL (dgt ks b p) B (l.take 0)=List.replicate (B+1) (0:Int):=by rw[List.take_zero];unfold OL;apply AYS (by simp);intro i _ _;cases i<;>simp[bkt,AAZ]
 rw[z0]at W;have M:A8 Zr many (nI ks,nI l,(p:Int),(b:Int),List.replicate (B+1) (0:Int),nI l,(l.length:Int),(0:Int),())=_:=W;simp only[M]
 have X:=Gu (step:=Zq) (fun k=>(nI ks,nI l,(p:Int),(b:Int),TK (dgt ks b p) B l k,(B:Int),(k:Int),())) B (.inl (nI ks,nI l,(p:Int),(b:Int),TK (dgt ks b p) B l B,())) (by omega)
  (fun k C=>by
   obtain⟨Y,Z,g3⟩:=AIt (dgt ks b p) B l C
   have hb1:=m l k
   have hb2:=A k (by omega)
   rw[Zq,A3,AV2 C]
   rw[A5 (by omega)]
   simp only[A' Y,A' Z,Bu Y,Bu Z,DO]
   rw[wrap_add (by omega),<- g3,tz,Nat.add_comm (bkt (dgt ks b p) l k).length])
  (by rw[Zq,A3,AV1 (by omega)])
 rw[AIs]at X;have N:A8 Zq many (nI ks,nI l,(p:Int),(b:Int),OL (dgt ks b p) B l,(B:Int),(0:Int),())=_:=X;have O:((OL (dgt ks b p) B l).length:Int)-1=(B:Int):=by simp[OL]
 rw[O,BE (by omega)];simp only[N,Cc,FI (show l.length<=4294967296 by omega),GW];have D:l.Nodup:=hl.nodup_iff.2 AXg;have r:∀ t,t<l.length->(Ft (dgt ks b p) B l)[PO (dgt ks b p) l t]? = some (l.getD t 0):=fun t d=>by obtain⟨x,c⟩:=CT d;rw[tM f c,AWd,c];rfl
 have E:∀ i∈List.range l.length,∀ j∈List.range l.length,PO (dgt ks b p) l i=PO (dgt ks b p) l j->i=j:=fun i hi j w he=>by have hi:=AWS.1 hi;have w:=AWS.1 w;have L:=r i hi;have V:=r j w;rw[he,V]at L;obtain⟨x,c⟩:=CT hi;obtain⟨y,s⟩:=CT w;have P:=Option.some.inj L;rw[AWd,AWd,c,s]at P;simp only[AW6]at P;subst P;exact(AYP (Ei c) D).1 (c.trans s.symm)
 have q2:=Gu (step:=kW) (fun t=>(nI ks,(p:Int),(b:Int),lE (dgt ks b p) B l t,(List.range t).foldl (fun a i=>a.set (PO (dgt ks b p) l i) ((l.getD i 0:Nat):Int)) (List.replicate l.length (0:Int)),nI l,(l.length:Int),(t:Int),())) l.length (.inl (nI (Ft (dgt ks b p) B l),())) (by omega)
  (fun t d=>by
   obtain⟨x,c⟩:=CT d
   obtain⟨y,s,n,o⟩:=mq hk hb hb2 hp (hd c)
   rw[J]at o
   have hg:l.getD t 0=x:=by grind
   have u:=aM (dgt ks b p) B l t (v:=dgt ks b p x) (by omega)
   have q:=m (l.take t) (dgt ks b p x)
   rw[AWt]at q
   have hs1:=A (dgt ks b p x) (by omega)
   have F:FE (dgt ks b p) l (dgt ks b p x)+(bkt (dgt ks b p) (l.take t) (dgt ks b p x)).length=PO (dgt ks b p) l t:=by unfold PO;rw[hg]
   have hplt:PO (dgt ks b p) l t<l.length:=by
    have:=Ei (r t d)
    rw[e.length_eq]at this;omega
   obtain⟨z,hz⟩:=CT (xs:=(List.range t).foldl (fun a i=>a.set (PO (dgt ks b p) l i) ((l.getD i 0:Nat):Int)) (List.replicate l.length (0:Int))) (i:=PO (dgt ks b p) l t) (by
    rw[Ie (PO (dgt ks b p) l) (fun i=>((l.getD i 0:Nat):Int)),AWj];omega)
   rw[kW,A3,AV2 d]
   simp only[A' (Eh c),A' (Eh s),n,A' u,Bu u]
   rw[F]at u |-
   simp only[A' hz,DO]
   rw[A5 (by omega),A5 (by omega),<- AFv (dgt ks b p) B l c,F,AWX,AXK]
   grind)
  (by
   rw[kW,A3,AV1 (by omega)]
   have G:=sR (g:=PO (dgt ks b p) l) (v:=fun i=>((l.getD i 0:Nat):Int)) (List.range l.length) (List.replicate l.length (0:Int)) AXg E
   have:(List.range l.length).foldl (fun a i=>a.set (PO (dgt ks b p) l i) ((l.getD i 0:Nat):Int)) (List.replicate l.length (0:Int))=nI (Ft (dgt ks b p) B l):=by
    apply AWp
    intro j
    by_cases w:j<l.length
    ·obtain⟨x,c⟩:=CT (xs:=Ft (dgt ks b p) B l) (i:=j) (by rw[e.length_eq];exact w)
     obtain⟨t,d⟩:=AXw (e.mem_iff.1 (AWA c))
     have Q:=Ei d
     have H:=tM f d
     have R:(Ft (dgt ks b p) B l).Nodup:=e.nodup_iff.2 D
     have S:PO (dgt ks b p) l t=j:=(AYP (Ei H) R).1 (H.trans c.symm)
     have:=G t (AWS.2 Q) (by grind)
     rw[S]at this
     rw[this,Eh c,AWd,d];rfl
    ·rw[AXM (by rw[Ie (PO (dgt ks b p) l) (fun i=>((l.getD i 0:Nat):Int)),AWj];omega),AXM (by rw[Cc,e.length_eq];omega)]
   rw[this])
 have z2:TK (dgt ks b p) B l B=lE (dgt ks b p) B l 0:=by unfold TK lE;refine AXo fun v hv => ?_;grind
 grind
end
abbrev AS9:=Int×Int×List (List Int)×Unit
abbrev Km:=Int×Int×AS9×Unit
def Pp(w:Km):Prop:=1<=w.1/\w.1<=16/\1<=w.2.1/\w.2.1<=100/\HN w.2.2.1
def XM(a:List Nat)(i:Nat):Nat:=a.getD i 0
def AL8(a:List Nat)(b:Nat):List Nat:=Zi (XM a) b (List.range a.length) (nps b)
def srt(a:List Nat)(b:Nat):List Nat:=(AL8 a b).map (XM a)
theorem gk(a:List Nat)(b:Nat):(AL8 a b).Perm (List.range a.length):=(gH _ _ _ _).1
theorem NN(a:List Nat)(b:Nat):(srt a b).Perm a:=by
 have h:=(gk a b).map (XM a);have:(List.range a.length).map (XM a)=a:=by apply AYS (by simp);intro i d c;simp[XM,AWC c]
 rw[this]at h;exact h
section
variable {ks:List Nat} {b c:Nat} {p:AS9} (hk:∀ x∈ks,x<4294967296) (hn:ks.length<=1000)
theorem AEg(f:1<=b)(e:b<=16)(r:1<=c)(g:c<=100)(hk:∀ x∈ks,x<4294967296)(hn:ks.length<=1000){U:List Nat}{k:Nat}(h:k<=40000)(s:U.Perm (List.range (nbl ks.length c)))(t:DE ((nbl ks.length c:Int),p,())=some (nI U,(k:Int),0,())):
  gI (nI ks,(b:Int),(c:Int),p,())=some (nI (AL8 ks b),((2*k*nps b:Nat):Int),0,()):=by
 have v:ieq (0:Int) 0=true:=by rw[BB];rfl
 have j:=lG (b:=b);have n:=ACF f;have w:=fb (xs:=nI ks) (b:=c) (by rw[Cc];exact hn) r g (p:=p) (U:=U) (k:=k) h (by rw[Cc];exact s) (by rw[Cc];exact t);obtain⟨a,d,q,u⟩:=p;rw[Zh,X2];simp only[Na f e];rw[BB,AV1 (by omega)];simp only[w,v,AV6,A6,Cc]
 have y:=Gu (step:=NZ) (fun i=>(nI ks,(b:Int),(nps b:Int),((2*k:Nat):Int),nI (List.range i),(ks.length:Int),(i:Int),())) ks.length (.inl (nI ks,(b:Int),(nps b:Int),((2*k:Nat):Int),nI (List.range ks.length),())) (by omega)
  (fun i hi=>by
   rw[NZ,A3,AV2 hi,A6,Cc,AWJ,A6]
   simp only[AWD,AWK]
   rw[Bo (by omega),A5 (by omega)]
   simp only[Dy]
   rw[AWX]
   unfold nI
   simp)
  (by rw[NZ,A3,AV1 (by omega)])
 have l:A8 NZ many (nI ks,(b:Int),(nps b:Int),((2*k:Nat):Int),([]:List Int),(ks.length:Int),(0:Int),())=_:=y;simp only[l]
 have z:=Gu (step:=NY) (fun i=>(nI ks,(b:Int),(nps b:Int),((2*k:Nat):Int),nI (Zi (XM ks) b (List.range ks.length) i),(nps b:Int),(i:Int),())) (nps b) (.inl ((nps b:Int),((2*k:Nat):Int),nI (AL8 ks b),())) (by omega)
  (fun i hi=>by
   have A:=(gH (XM ks) b (List.range ks.length) i).1
   rw[NY,A3,AV2 hi]
   simp only[AQD hk f e hi hn A]
   rw[A5 (by omega)]
   rfl)
  (by rw[NY,A3,AV1 (by omega)];rfl)
 have m:A8 NY many (nI ks,(b:Int),(nps b:Int),((2*k:Nat):Int),nI (List.range ks.length),(nps b:Int),(0:Int),())=_:=z;simp only[m];have o:2*k*nps b<=80000*47:=AXk (by omega) j;rw[<- AYb,BE (by omega)]
theorem AEh{xs:List Int}{w:Km}(h:¬ (Pp w/\xs.length<=1000)):gI (xs,w.1,w.2.1,w.2.2.1,())=some ([],0,1,()):=by
 obtain⟨b,c,⟨a,d,q,u⟩,v⟩:=w;rw[Zh,X2];by_cases f:1<=b/\b<=16;obtain⟨b,rfl⟩:=AV7 (show 0<=b by omega);have g:=ACF (b:=b) (by omega);have i:ieq (1:Int) 0=false:=by rw[BB];rfl
 have j:=AED (xs:=xs) (b:=c) (p:=(a,d,q,u)) (fun e=>h ⟨⟨f.1,f.2,e.1,e.2.1,e.2.2.2⟩,e.2.2.1⟩);simp only[Na (b:=b) (by omega) (by omega)];grind;simp only[pr f];rw[BB,AV2 rfl]
theorem AEk{l:List Nat}{n:Nat}(g:l.Perm (List.range n))(hn:n<=1000):ABf (nI l,(n:Int),())=some (true,()):=by
 have a:=g.length_eq;rw[AWJ]at a;have h:l.Nodup:=g.nodup_iff.2 AXg;rw[p8,kQ]
 have q:=Gu (step:=Nb) (fun i=>(nI l,(n:Int),M1 (l.take i),nI l,(l.length:Int),(i:Int),())) l.length (.inr (.inl (nI l,(n:Int),()))) (by omega)
  (fun i hi=>by
   obtain⟨x,e⟩:=CT hi
   have r:x<n:=AWS.1 (g.mem_iff.1 (AWA e))
   have d:x∉l.take i:=by
    intro s
    obtain⟨j,f⟩:=AXw s
    rw[AYH]at f
    split at f
    ·have:=(AYP (Ei f) h).1 (f.trans e.symm)
     omega
    grind
   obtain⟨o,t⟩:=uS d
   have k:w64 (((A_ (M1 (l.take i)) (x:Int)).getD (0:Int))+(1:Int))=1:=by
    rw[t];exact BE (by decide)
   have m:A_ (M1 (l.take i++[x])) (x:Int)=some 1:=by
    rw[<- o,E1,AWB rfl]
   rw[Nb,A3,AV2 hi]
   simp only[A' (Eh e)]
   rw[BD,AV1 (by omega),D_,AV1 (by omega)]
   simp only[k,o,m,AW6]
   rw[BD,AV1 (by decide),A5 (by omega),Cl e])
  (by rw[Nb,A3,AV1 (by omega)])
 have u:A8 Nb many (nI l,(n:Int),([]:List (Int×Int)),nI l,(l.length:Int),(0:Int),())=_:=q;simp only[A6,Cc,u];rw[O8,AV2 a]
theorem AMa{i:Nat}(h:i<ks.length):ks[i]? = some (XM ks i):=by unfold XM;grind
theorem pq{l:List Nat}(a:l.Perm (List.range ks.length))(hn:ks.length<=1000):Ru (nI ks,nI l,())=some (nI (l.map (XM ks)),true,()):=by
 have d:=a.length_eq;rw[AWJ]at d;rw[Zg,T2];simp only[A6,Cc,AEk a hn,AV6]
 have q:=Gu (step:=JH) (fun i=>(nI ks,nI ((l.take i).map (XM ks)),nI l,(l.length:Int),(i:Int),())) l.length (.inl (nI (l.map (XM ks)),())) (by omega)
  (fun i hi=>by
   obtain⟨x,e⟩:=CT hi
   have f:x<ks.length:=AWS.1 (a.mem_iff.1 (AWA e))
   rw[JH,A3,AV2 hi]
   simp only[A' (Eh e),A' (Eh (AMa f)),A6,Cc,AWQ,AWt,AWD,AWK]
   rw[Bo (by omega),A5 (by omega),Cl e]
   simp only[Dy]
   unfold nI
   simp)
  (by rw[JH,A3,AV1 (by omega),AWT])
 have g:A8 JH many (nI ks,([]:List Int),nI l,(l.length:Int),(0:Int),())=_:=q;grind
theorem tE(s:List Int)(k:s.length<=1000000):YT (s,())=some (Qv s,()):=by
 rw[cJ,VM]
 have q:=Gu (step:=Jl) (fun i=>(s,M9 s.length (fun i=>decide (i=0)||decide (s.getD (i-1) 0≠s.getD i 0)) false i,s,(s.length:Int),(i:Int),())) s.length (.inl (Qv s,())) (by omega)
  (fun i hi=>by
   obtain⟨x,a⟩:=CT hi
   obtain⟨y,d⟩:=CT (xs:=M9 s.length (fun i=>decide (i=0)||decide (s.getD (i-1) 0≠s.getD i 0)) false i) (i:=i) (by rw[Nk];exact hi)
   rw[Jl,A3,AV2 hi]
   simp only[A' a,A' d,DO]
   rw[A5 (by omega),<- aF,BB]
   by_cases l:i=0
   ·grind
   ·obtain⟨j,rfl⟩:∃ j,i=j+1:=⟨i-1,by omega⟩
    obtain⟨z,e⟩:=CT (xs:=s) (i:=j) (by omega)
    rw[AV1 (by omega),show((j+1:Nat):Int)-1=(j:Int) by omega,BE (by omega)]
    simp only[A' e]
    have f:s.getD j 0=z:=by grind
    have g:s.getD (j+1) 0=x:=by grind
    have:(!(ieq z x))=(decide (j+1=0)||decide (s.getD (j+1-1) 0≠s.getD (j+1) 0)):=by
     rw[Nat.add_sub_cancel,f,g,BB];simp
    rw[this])
  (by rw[Jl,A3,AV1 (by omega),aH];rfl)
 rw[UE]at q;have h:A8 Jl many (s,List.replicate s.length false,s,(s.length:Int),(0:Int),())=_:=q;simp only[A6,FI (show s.length<=4294967296 by omega),GW,h]
def aK(s:List Int):List Int:=(kept (Qv s) s.length).map fun i=>s.getD i 0
theorem ANQ(s:List Int):(Qv s).length=s.length:=by simp[Qv]
theorem sN{s:List Int}{i:Nat}(h:i<s.length):(Qv s).getD i false=(decide (i=0)||decide (s.getD (i-1) 0≠s.getD i 0)):=by unfold Qv;grind
theorem aR{s:List Int}{x:Int}:x∈aK s↔x∈s:=by
 unfold aK;rw[AWV];constructor;rintro⟨i,hi,rfl⟩;have:=AWS.1 (AWZ.1 hi).1;grind;intro h;have d:∀ i,i<s.length->s.getD i 0=x->∃ j,j∈kept (Qv s) s.length/\s.getD j 0=x:=by
  intro i;induction i with
   |zero=>intro hi a;exact⟨0,AWZ.2 ⟨AWS.2 hi,by rw[sN hi];rfl⟩,a⟩
   |succ i f=>intro hi a;by_cases e:s.getD i 0=x;grind;refine⟨i+1,AWZ.2 ⟨AWS.2 hi,?_⟩,a⟩;rw[sN hi,Nat.add_sub_cancel,a,AV2 e];simp
 obtain⟨i,hi⟩:=AXw h;grind
theorem tB(C:1<=b)(n:b<=16)(v:1<=c)(g:c<=100)(hk:∀ x∈ks,x<4294967296)(hn:ks.length<=1000){U V:List Nat}{k m:Nat}(h:k<=40000)(o:m<=40000)(D:U.Perm (List.range (nbl ks.length c)))(E:DE ((nbl ks.length c:Int),p,())=some (nI U,(k:Int),0,()))
  (R:V.Perm (List.range ks.length)) (F:DE ((ks.length:Int),p,())=some (nI V,(m:Int),0,())) :
  ∃ T,S4 (nI ks,((b:Int),(c:Int),p,()),())=some (aK (nI (srt ks b)),T,((2*k*nps b+(2*k+m):Nat):Int),0,()):=by
 have G:ieq (0:Int) 0=true:=by rw[BB];rfl
 have r:=lG (b:=b);have w:2*k*nps b<=80000*47:=AXk (by omega) r;have e:(srt ks b).length=ks.length:=(NN ks b).length_eq;have j:=AEg (p:=p) C n v g hk hn h D E;have H:=pq (gk ks b) hn;have s:Ru (nI ks,nI (AL8 ks b),())=some (nI (srt ks b),true,()):=H;have I:=tE (nI (srt ks b)) (by rw[Cc,e];omega);have J:(Qv (nI (srt ks b))).length=ks.length:=by rw[ANQ,Cc,e]
 have K:=wk (keep:=Qv (nI (srt ks b))) (b:=c) (p:=p) (U:=U) (V:=V) (k:=k) (m:=m) (by omega) v g h o (by grind) (by grind) (by grind) (by grind);obtain⟨a,d,q,u⟩:=p;rw[Q1,PE];simp only[j,G,AV6,s,I,K];generalize z:kept (Qv (nI (srt ks b))) (Qv (nI (srt ks b))).length=P;generalize L:nI (srt ks b)=S at *;have M:S.length=ks.length:=by rw[<- L,Cc,e]
 have N:P.length<=1000:=by rw[<- z];have:=YI (Qv S) (Qv S).length;omega
 have t:∀ {i x:Nat},P[i]? = some x->S[x]? = some (S.getD x 0)/\x<=1000:=fun {i x} f=>by have:=AWA f;rw[<- z]at this;have:=AWS.1 (AWZ.1 this).1;grind
 let l:Nat->Int:=fun i=>if i+1<P.length then w64 ((P.getD (i+1) 0:Nat)-(P.getD i 0:Nat):Int)else w64 ((S.length:Int)-(P.getD i 0:Nat))
 have Q:=Gu (step:=Jk) (fun i=>(((2*k*nps b:Nat):Int),S,nI P,((2*k+m:Nat):Int),(P.take i).map (fun i=>S.getD i 0),(List.range i).map l,(P.length:Int),(i:Int),())) P.length
  (.inl (((2*k*nps b:Nat):Int),((2*k+m:Nat):Int),P.map (fun i=>S.getD i 0),(List.range P.length).map l,())) (by omega)
  (fun i hi=>by
   obtain⟨x,f⟩:=CT hi
   obtain⟨A,W⟩:=t f
   have X:P.getD i 0=x:=by grind
   rw[Jk,A3,AV2 hi]
   simp only[A' (Eh f),Bu (Eh f),A6,Cc]
   rw[A5 (by omega),A3]
   simp only[A' A,Bu A,AWQ,AWt,AWJ,AWD,AWK]
   rw[Bo (by omega),Bo (by omega)]
   simp only[Dy]
   rw[Cl f,AWX,AW3,AW3]
   by_cases j:i+1<P.length
   ·obtain⟨y,B⟩:=CT j
    have O:P.getD (i+1) 0=y:=by grind
    have:l i=w64 ((y:Int)-(x:Int)):=by
     grind
    simp only[AV2 j,A' (Eh B),Bu (Eh B),AWW,AXS,this]
   grind)
  (by rw[Jk,A3,AV1 (by omega),AWT])
 have Q':A8 Jk many (((2*k*nps b:Nat):Int),S,nI P,((2*k+m:Nat):Int),([]:List Int),([]:List Int),(P.length:Int),(0:Int),())=_:=Q;refine⟨(List.range P.length).map l,?_⟩;simp only[Cc,A6,Q'];rw[wrap_add (by omega)];have:aK S=P.map fun i=>S.getD i 0:=by unfold aK;grind
 rw[this]
end
end Go.Pev.Pl
end
section
namespace Go.Pev.Pl.SE
open Go.Sort
theorem Mo{x y:Int×Int×Unit}(_:ok x)(_:ok y):∃ c,Bj (x,y,())=some (c,())/\ilt c (0:Int)=lt x y:=by rw[N3,MX];simp only[OK,or_val,BD,lt];grind
noncomputable def S:SG.SP (Int×Int×Unit) Int:=⟨((0:Int),((0:Int),())),Bj,tLt,ok,okz,QV,lt,swo,fun a b=>Mo a b⟩
theorem FF(xs:List (Int×Int×Unit))(h:xs.length<4294967296)(a:∀ x∈xs,ok x):∃ ys,ABY (xs,())=some (ys,())/\ys.Perm xs/\ys.Pairwise fun x y=>lt y x=false:=SG.FF S xs h a
end Go.Pev.Pl.SE
namespace Go.Pev.Pl
open Tok
section
variable {α β:Type} [DecidableEq α]
end
theorem rW(l:List Edge)(n:Int)(c:List Tie)(b:List Edge)(o:b.length<1073741824):
  ∃ m:List (Edge×Int),A8 PA many (l,n,c,([]:List (Edge×Int)),b,A2 b,(0:Int),())=some (.inl (l,n,c,m,()))/\∀ k,(A_ m k).getD 0=if k∈b then 1 else 0:=by
 have e:=DS (step:=PA) (fun i (a:List (Edge×Int))=>(l,n,c,a,b,A2 b,(i:Int),())) b (fun x a=>.inl (BG a x (1:Int))) (fun a=>.inl (l,n,c,a,())) (fun i a=>True) (by omega)
  (fun i x a hi g _=>by
   refine⟨fun p d => ?_,fun r d=>(by cases d)⟩
   cases d
   refine⟨?_,trivial⟩
   rw[PA,A6,A3,AV2 hi]
   simp only[A' g,Bu g]
   rw[A5 (by omega)])
  (fun a _=>by rw[PA,A6,A3,AV1 (by omega)]) [] trivial
 have h:A8 PA many (l,n,c,([]:List (Edge×Int)),b,A2 b,(0:Int),())=_:=e;rw[B' (fun(x:Edge) (a:List (Edge×Int))=>BG a x (1:Int))]at h;refine⟨_,h,?_⟩;have f:∀ (xs:List Edge) (a:List (Edge×Int)) (k:Edge),(A_ (xs.foldl (fun a x=>BG a x (1:Int)) a) k).getD 0=if k∈xs then 1 else(A_ a k).getD 0:=by
  intro xs;induction xs with
   |nil=>simp
   |cons x xs j=>intro a k;rw[AXA,j,PZ];grind
 intro k;rw[f];rfl
theorem AHL(n:Int)(b:List Tie)(m:List (Edge×Int))(l:List Edge)(t:l.length<1073741824):
  A8 O_ many (n,b,m,([]:List Edge),l,A2 l,(0:Int),())=some (walk (XL n) (fun a=>.inr (.inl (a.2,()))) l (m,[])):=by
 have e:=DS (step:=O_) (fun i (a:List (Edge×Int)×List Edge)=>(n,b,a.1,a.2,l,A2 l,(i:Int),())) l (XL n) (fun a=>.inr (.inl (a.2,()))) (fun i a=>a.2.length<=i) (by omega)
  (fun i x a hi p u=>by
   have step:O_ (n,b,a.1,a.2,l,A2 l,(i:Int),())=match XL n x a with
     |.inl j=>some (.inl (n,b,j.1,j.2,l,A2 l,((i+1:Nat):Int),()))
     |.inr r=>some (.inr r):=by
    rw[O_,A6,A3,AV2 hi]
    simp only[A' p,KL,O7]
    rw[BD,BM,BD,BB,A5 (by omega),Bo (by simp only[A6,AWD,AWK];omega)]
    unfold XL
    have c:(nrm x).1=min x.1 x.2.1:=rfl
    have d:(nrm x).2.1=max x.1 x.2.1:=rfl
    have f:(min x.1 x.2.1,max x.1 x.2.1,())=nrm x:=rfl
    rw[f,<- c,<- d]
    by_cases q:(nrm x).1<0
    ·grind
    rw[AV1 q]
    by_cases s:n<=(nrm x).2.1
    ·grind
    rw[AV1 s,AV9 (fun h=>by omega)]
    by_cases k:(nrm x).1<(nrm x).2.1
    ·rw[AV2 k]
     by_cases o:(A_ a.1 (nrm x)).getD 0=0
     ·rw[AV2 o,AWB ⟨k,o⟩]
      rfl
     grind
    grind
   refine⟨fun v g => ?_,fun r g => ?_⟩
   ·rw[g]at step
    refine⟨step,?_⟩
    unfold XL at g
    grind
   grind)
  (fun a _=>by rw[O_,A6,A3,AV1 (by omega)]) (m,[]) (AV8 _)
 exact e
theorem sK{N:Nat}(p:1<=N)(q:N<=64)(d:List Tie)(t:d.length<=400)(l:List Edge)(u:l.length<1073741824)(r:Du (((N:Int),(d,())),())=some (true,())):
  ANK (((N:Int),(d,())),l,())=some (if ∀ e∈l,In (N:Int) e.1/\In (N:Int) e.2.1 then(DA N d l,0,())else([],10,())):=by
 obtain⟨m,v,G⟩:=rW l (N:Int) d (d.map ed) (by grind);rw[ACe,zP];simp only[r,AV6,Qc (N:Int) d t r,v,AHL (N:Int) d m l u];have f:(∀ x∈l,0<=(nrm x).1/\(nrm x).2.1<(N:Int))↔∀ e∈l,In (N:Int) e.1/\In (N:Int) e.2.1:=by constructor;intro h e o;have:=h e o;simp only[nrm]at this;exact⟨r6 p q (by omega),r6 p q (by omega)⟩;intro h e o;obtain⟨⟨_,_,H,I⟩,⟨_,_,J,K⟩⟩:=h e o;simp only[nrm];omega
 by_cases c:∀ e∈l,In (N:Int) e.1/\In (N:Int) e.2.1;rw[AWB c];obtain⟨ys,w,y,z,L⟩:=AFz (N:Int) (d.map ed) l m [] (f.2 c) List.nodup_nil (fun k=>by grind)
 rw[w];have i:ys.length<4294967296:=by grind
 obtain⟨M,A,B,C⟩:=SE.FF ys i (fun _ _=>trivial);have j:=cj N d l;have g:ys.Perm (DA N d l):=by
  rw[AX4 y (j.imp fun {a b} h=>by rintro rfl;unfold Gd at h;omega)]
  intro k;rw[z,O2];constructor;rintro (h|⟨s,n,x,D,rfl⟩);cases h;have:=(f.2 c) x D;refine⟨⟨this.1,n,this.2,?_⟩,s⟩;obtain⟨a,b,⟨⟩⟩:=x;unfold XV nrm;grind;rintro⟨⟨s,n,O,E⟩,F⟩;refine .inr ⟨F,n,?_⟩;obtain⟨a,b,⟨⟩⟩:=k;simp only at n;rcases E with h|h;exact⟨_,h,by unfold nrm;grind⟩;exact⟨_,h,by unfold nrm;grind⟩
 rw[vh B C j g]at A;grind;rw[AV9 c,lI (N:Int) l (m,[]) (fun h=>c (f.1 h))]
end Go.Pev.Pl
end
section
namespace Go.Pev.Pl
def aj(e:Edge):Nat:=(min e.1 e.2.1).toNat*65536+(max e.1 e.2.1).toNat
def LN(e:Edge):Prop:=0<=e.1/\e.1<65536/\0<=e.2.1/\e.2.1<65536
theorem ARB{e:Edge}(h:LN e):aj e<4294967296:=by unfold LN at h;unfold aj;omega
theorem iX{n:Int}(h:0<=n/\n<65536):tD (n,())=some (true,()):=by rw[tC,mr,BM,AV2 h.1,BD,AV2 h.2]
theorem AL9{a b:Nat}(d:a<65536)(f:b<65536):IntKind.wrap .u32 (BitVec.ofInt (IntKind.bits .u32) ((a*65536:Nat):Int) ||| BitVec.ofInt (IntKind.bits .u32) (b:Int)).toNat=((a*65536+b:Nat):Int):=by
 have e:(BitVec.ofInt (IntKind.bits .u32) ((a*65536:Nat):Int) ||| BitVec.ofInt (IntKind.bits .u32) (b:Int)).toNat=a*65536+b:=by rw[BitVec.toNat_or,AXm,AXm,AXr,AXr];have c:IntKind.bits .u32=32:=rfl;rw[c,AXI (by omega),AXI (by omega)];have:=Nat.shiftLeft_add_eq_or_of_lt (i:=16) (b:=b) (by omega) a;rw[Nat.shiftLeft_eq]at this;grind
 rw[e];exact J8 (by omega)
theorem ANt{e:Edge}(h:LN e):ASB ((e.1,(e.2.1,())),())=some ((aj e:Int),true,()):=by
 obtain⟨u,v,⟨⟩⟩:=e;obtain⟨a,c,b,d⟩:=h;simp only at a c b d;obtain⟨u,rfl⟩:=AV7 a;obtain⟨v,rfl⟩:=AV7 b;rw[ACr,z6];simp only[iX (show 0<=(u:Int)/\(u:Int)<65536 by omega),iX (show 0<=(v:Int)/\(v:Int)<65536 by omega),AV6];have f:Cp (u:Int) (v:Int)=((min u v:Nat):Int):=by unfold Cp;omega
 have g:imax (u:Int) (v:Int)=((max u v:Nat):Int):=by unfold imax;omega
 have i:min u v<65536:=by omega
 have j:max u v<65536:=by omega
 rw[f,g,J8 (by omega),J8 (by omega)];have k:shl? .u32 ((min u v:Nat):Int) (16:Int)=some ((min u v*65536:Nat):Int):=by
  rw[NQ,dV,AV9 (by omega)];have:min (16:Int).toNat (IntKind.bits .u32)=16:=by decide
  rw[this,show((min u v:Nat):Int)*2 ^ 16=((min u v*65536:Nat):Int) by omega,J8 (by omega)]
 simp only[k];rw[AL9 i j];have:aj ((u:Int),(v:Int),())=min u v*65536+max u v:=by unfold aj;grind
 rw[this]
def Yn(k:Int):Edge:=(k/65536,k % 65536,())
theorem AH4{k:Nat}(h:k<4294967296):ACs ((k:Int),())=some (Yn k,()):=by
 rw[tF,m6];have a:shr? .u32 (k:Int) (16:Int)=some ((k:Int)/65536):=by
  rw[ZM,vk,AV9 (by omega)];have:min (16:Int).toNat (IntKind.bits .u32)=16:=by decide
  grind
 have b:IntKind.wrap .u16 (k:Int)=(k:Int) % 65536:=by simp[IntKind.wrap,IntKind.bits,IntKind.signed]
 simp only[a,b];rw[BE (by omega),BE (by omega)];rfl
theorem fJ{e:Edge}(h:LN e):Yn (aj e:Int)=(min e.1 e.2.1,max e.1 e.2.1,()):=by obtain⟨u,v,⟨⟩⟩:=e;obtain⟨a,b,c,d⟩:=h;simp only at a b c d;unfold Yn aj;grind
def D0(l:List Edge):List Nat:=(l.filter fun e=>decide (e.1≠e.2.1)).map aj
theorem rk{l:List Edge}(h:∀ e∈l,LN e):∀ k∈D0 l,k<4294967296:=by intro k a;obtain⟨e,b,rfl⟩:=AWV.1 a;exact ARB (h e (AWZ.1 b).1)
theorem UP(l:List Edge):(D0 l).length<=l.length:=by unfold D0;grind
noncomputable def Gs(w:Km)(n:Nat):Int:=match DE ((nbl n w.2.1.toNat:Int),w.2.2.1,()),DE ((n:Int),w.2.2.1,())with
 |some a,some b=>2*a.2.1*(nps w.1.toNat:Int)+(2*a.2.1+b.2.1)
 |_,_=>0
theorem AHp{f:List Nat}{w:Km}(r:Pp w)(s:∀ x∈f,x<4294967296)(h:f.length<=1000):
  0<=Gs w f.length/\(Gs w f.length=0->f=[])/\(f=[]->Gs w f.length=0)/\cH (nI f,w,())=some (aK (nI (srt f w.1.toNat)),Gs w f.length,0,()):=by
 obtain⟨b,c,p,u⟩:=w;obtain⟨t,y,z,A,g⟩:=r;simp only at t y z A g;obtain⟨b,rfl⟩:=AV7 (show 0<=b by omega);obtain⟨c,rfl⟩:=AV7 (show 0<=c by omega);have i:nbl f.length c<=1000:=AWx (aP (by omega)) h;obtain⟨U,k,B,H,C,l⟩:=Qx i g;obtain⟨V,m,D,I,E,F⟩:=Qx h g;have j:Gs ((b:Int),(c:Int),p,u) f.length=((2*k*nps b+(2*k+m):Nat):Int):=by unfold Gs;grind
 obtain⟨T,J⟩:=tB (p:=p) (b:=b) (c:=c) (by omega) (by omega) (by omega) (by omega) s h C E B l D F;rw[j];refine⟨by omega,fun o => ?_,fun o => ?_,?_⟩;grind;subst o;have K:k=0:=by
  have G:nbl ([]:List Nat).length c=0:=by have:=aP (n:=0) (b:=c) (by omega);grind
  rw[G]at l;have e:=Wq g;grind
 grind;obtain⟨a,d,q,v⟩:=p;rw[cG,YR];grind
theorem AHq{xs:List Int}{w:Km}(h:¬ (Pp w/\xs.length<=1000)):cH (xs,w,())=some ([],0,1,()):=by
 have e:=AEh h;obtain⟨b,c,⟨a,d,q,v⟩,u⟩:=w;have g:ieq (1:Int) 0=false:=by rw[BB];rfl
 have f:gI (xs,b,c,(a,d,q,()),())=some ([],0,1,()):=e;have hd:S4 (xs,(b,c,(a,d,q,()),()),())=some ([],[],0,1,()):=by rw[Q1,PE];grind
 rw[cG,YR];grind
def KT(l:List Edge)(b:Nat):List Edge:=(aK (nI (srt (D0 l) b))).map Yn
theorem yT{l:List Nat}{x:Int}:x∈nI l↔∃ k∈l,x=(k:Int):=by unfold nI;grind
theorem O1{l:List Edge}{b:Nat}(j:∀ e∈l,LN e)(x:Edge):x∈KT l b↔0<=x.1/\x.1<x.2.1/\XV l x.1 x.2.1:=by
 unfold KT;rw[AWV];constructor;rintro⟨k,f,rfl⟩;rw[aR,yT]at f;obtain⟨k,f,rfl⟩:=f;rw[(NN _ _).mem_iff]at f;obtain⟨e,c,rfl⟩:=AWV.1 f;obtain⟨c,d⟩:=AWZ.1 c;have d:e.1≠e.2.1:=by grind
 rw[fJ (j e c)];have g:=j e c;obtain⟨u,v,⟨⟩⟩:=e;unfold LN at g;simp only at d g |-;rcases Int.lt_or_gt_of_ne d with h|h;rw[Int.min_eq_left (by omega),Int.max_eq_right (by omega)];exact⟨by omega,h,.inl c⟩;rw[Int.min_eq_right (by omega),Int.max_eq_left (by omega)];exact⟨by omega,h,.inr c⟩
 ·rintro⟨n,o,i⟩;obtain⟨u,v,⟨⟩⟩:=x;simp only at n o i;have m:∀ e:Edge,e∈l->e.1≠e.2.1->min e.1 e.2.1=u->max e.1 e.2.1=v->∃ a∈aK (nI (srt (D0 l) b)),Yn a=(u,v,()):=by intro e c d p q;refine⟨(aj e:Int),?_,by rw[fJ (j e c),p,q]⟩;rw[aR,yT];refine⟨aj e,(NN _ _).mem_iff.2 (AWV.2 ⟨e,AWZ.2 ⟨c,by grind⟩,rfl⟩),rfl⟩
  rcases i with i|i;all_goals grind
theorem iT{l:List Edge}{b:Nat}:(KT l b).length<=l.length:=by unfold KT aK;rw[AWQ,AWQ];have a:=YI (Qv (nI (srt (D0 l) b))) (nI (srt (D0 l) b)).length;have c:=(NN (D0 l) b).length_eq;have d:=UP l;rw[Cc]at a |-;omega
section
variable {l:List Edge} {w:Km} (hf:∀ e∈l,LN e) (hn:l.length<=1000)
include hf hn
theorem W1(b c a d:Int)(q:List (List Int)):A8 LR many (b,c,a,d,q,([]:List Int),l,(l.length:Int),(0:Int),())=some (.inr (.inl (b,c,a,d,q,nI (D0 l),()))):=by
 have Q:=Gu (step:=LR) (fun i=>(b,c,a,d,q,nI (D0 (l.take i)),l,(l.length:Int),(i:Int),())) l.length (.inr (.inl (b,c,a,d,q,nI (D0 l),()))) (by omega)
  (fun i hi=>by
   obtain⟨e,f⟩:=CT hi
   have g:=hf e (AWA f)
   have j:=UP (l.take i)
   rw[AWt]at j
   have k:D0 (l.take (i+1))=D0 (l.take i)++(if e.1=e.2.1 then []else [aj e]):=by
    rw[Cl f]
    unfold D0
    grind
   rw[LR,A3,AV2 hi]
   simp only[A' f,ANt g,AV6,BB]
   rw[A5 (by omega),k]
   by_cases h:e.1=e.2.1
   ·grind
   ·rw[AV1 h,AV9 h]
    simp only[AWR,A6,Cc,AWD,AWK]
    rw[Bo (by omega)]
    simp only[Dy]
    unfold nI
    simp)
  (by rw[LR,A3,AV1 (by omega),AWT])
 exact Q
theorem AAB(o:Pp w):cO (l,w,())=some (KT l w.1.toNat,Gs w (D0 l).length,0,()):=by
 have p:=UP l;obtain⟨_,_,_,hd⟩:=AHp o (rk hf) (by omega);obtain⟨b,c,⟨a,d,q,v⟩,u⟩:=w;have g:cH (nI (D0 l),(b,c,(a,d,q,()),()),())=some (aK (nI (srt (D0 l) b.toNat)),Gs (b,c,(a,d,q,()),()) (D0 l).length,0,()):=hd;rw[VN,S6];simp only[A6,W1 hf hn,g];generalize m:aK (nI (srt (D0 l) b.toNat))=O;have h:∀ k∈O,∃ n:Nat,k=(n:Int)/\n<4294967296:=by intro k f;rw[<- m,aR,yT]at f;obtain⟨n,r,s⟩:=f;exact⟨n,s,rk hf n ((NN _ _).mem_iff.1 r)⟩
 have t:O.length<=1000:=by have:=iT (l:=l) (b:=b.toNat);unfold KT at this;grind
 have Q:=Gu (step:=HD) (fun i=>(Gs (b,c,(a,d,q,()),()) (D0 l).length,(0:Int),(O.take i).map Yn,O,(O.length:Int),(i:Int),())) O.length (.inl (Gs (b,c,(a,d,q,()),()) (D0 l).length,(0:Int),O.map Yn,())) (by omega)
  (fun i hi=>by
   obtain⟨k,f⟩:=CT hi
   obtain⟨n,rfl,j⟩:=h k (AWA f)
   rw[HD,A3,AV2 hi]
   simp only[A' f,Bu f,AH4 j,A6,AWQ,AWt,AWD,AWK]
   rw[Bo (by omega),A5 (by omega),Cl f]
   simp only[Dy,AW3]
   rfl)
  (by rw[HD,A3,AV1 (by omega),AWT])
 have Q':A8 HD many (Gs (b,c,(a,d,q,()),()) (D0 l).length,(0:Int),([]:List Edge),O,(O.length:Int),(0:Int),())=_:=Q;simp only[Q'];unfold KT;rw[m]
theorem AAC(g:¬ Pp w):cO (l,w,())=some ([],0,1,()):=by
 have hd:=AHq (xs:=nI (D0 l)) (w:=w) fun h=>g h.1;obtain⟨b,c,⟨a,d,q,v⟩,u⟩:=w;have f:cH (nI (D0 l),(b,c,(a,d,q,()),()),())=some ([],0,1,()):=hd;rw[VN,S6];simp only[A6,W1 hf hn,f]
 have Q:=Gu (step:=HD) (fun i=>((0:Int),(1:Int),([]:List Edge),([]:List Int),(0:Int),(i:Int),())) 0 (.inl ((0:Int),(1:Int),([]:List Edge),())) (by omega)
  (fun i hi=>absurd hi (by omega))
  (by rw[HD,BD,AV1 (by omega)])
 grind
end
theorem kn{N:Nat}{l a:List Edge}(h:∀ u v:Int,0<=u->u<v->(XV l u v↔XV a u v)):G0 N l=G0 N a:=by
 unfold G0;refine AWy (List.flatMap · (List.range N)) (funext fun u => ?_)
 unfold pz;grind
theorem AHj{l:List Edge}{b:Nat}(c:∀ e∈l,LN e){u v:Int}(d:0<=u)(h:u<v):XV (KT l b) u v↔XV l u v:=by unfold XV;constructor;rintro (a|a);exact((O1 c _).1 a).2.2;have:=((O1 c _).1 a).2.1;grind;intro a;exact .inl ((O1 c (u,v,())).2 ⟨d,h,a⟩)
theorem Wz{l:List Edge}{b N:Nat}(a:∀ e∈l,LN e):G0 N (KT l b)=G0 N l:=kn fun _ _ c h=>AHj a c h
end Go.Pev.Pl
end
