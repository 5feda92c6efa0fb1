/- A part of the proofs of this seat: KF KG KH U24a U24b U24c U24d U23a U23b U23c U23d U23e T24b U24f U24g U24h U24i U24j U24k U24l U24m U24n PlnD U21a U21b SIa SIb SIc SId SIe SIf U23f U23g PlnE U23h U23i U21c U21d U21e U23j U23k U24e U21f U23l G24kP1 G24kP2. -/
import Derived.Test.YtaamkoofmojajaaGreatP541b3203b1
import Derived.KernelRfl
import Derived.Test.YtaamkoofmojajaaGreatProg
set_option linter.unusedVariables false
set_option linter.unusedSimpArgs false
set_option linter.unusedSectionVars false
set_option maxRecDepth 100000
section
section
namespace Go.Pev.Pl
theorem AYj{N:Nat}{ts:List Tie}(hN:N≤64){i:Nat}(h:L4 N ts i):In (N:Int) (ed (ts.getD i zT)).1∧In (N:Int) (ed (ts.getD i zT)).2.1:=by
 obtain⟨q1,q2,q3,_⟩:=h
 exact⟨⟨by omega,by omega,q1,by show(ts.getD i zT).1<_;omega⟩,⟨by omega,by omega,by show 0≤(ts.getD i zT).2.1;omega,q3⟩⟩
theorem Z5{N:Nat}{ts:List Tie}(hN:N≤64)(h:oks N ts):∀ e∈trs ts ts.length,In (N:Int) e.1∧In (N:Int) e.2.1:=by
 intro e he
 obtain⟨i,hi,rfl⟩:=Ahq ts e _ he
 exact AYj hN (h i (by simp[hi]))
theorem Akl{N:Nat}{ts:List Tie}(hN:N≤64)(h:oks N ts):∀ e∈ts.map ed,In (N:Int) e.1∧In (N:Int) e.2.1:=by
 intro e he
 obtain⟨t,ht,rfl⟩:=Alb.1 he
 obtain⟨i,hi,rfl⟩:=AmN ht
 have:=AYj hN (h i (by simp[hi]))
 simpa [hi]using this
theorem AVo{N:Nat}(ts:List Tie)(hs:ts.length≤400)(h:oks N ts):P2 (((N:Int),(ts,())),(0:Int),())=some (trs ts ts.length,()):=by
 rw[VY,Mr]
 have e:=CX (step:=Ct) (fun i (a:List Edge)=>((0:Int),a,ts,AO ts,(i:Int),())) (List.range ts.length) (fun i a=>.inl (if(ts.getD i zT).2.2.2.1=true then a++[ed (ts.getD i zT)]else a)) (fun a=>.inl (a,())) (fun i a=>a.length≤i) (by simp;omega)
  (fun i x a hi hx ha=>by
   refine⟨fun m' h' => ?_,fun r h'=>(by cases h')⟩
   cases h'
   have:=CA hx
   subst this
   rw[Ali]at hi
   have hlv:=(h x (by simp[hi])).2.2.2.1
   constructor
   ·rw[Ct,AM,AK,AlF hi]
    simp only[CJ zT hi,AM]
    have hfit:fits ((a.length:Int)+(([((ts.getD x zT).1,(ts.getD x zT).2.1,())]:List Edge).length:Int))=true:=A6 (by simp;omega)
    rw[AH (by omega),Ap,AlF hlv]
    cases ht4:(ts.getD x zT).2.2.2.1
    ·simp
    ·simp only[hfit]
     simp[ed,A1]
   ·split
    ·rw[AlN];simp;omega
    ·omega)
  (fun a _=>by rw[Ct,Ali,AM,AK,AlE (by omega)]) [] (AlS _)
 have e':AS Ct many ((0:Int),[],ts,AO ts,(0:Int),())=_:=e
 simp only[e']
 rw[BC (fun i a=>if(ts.getD i zT).2.2.2.1=true then a++[ed (ts.getD i zT)]else a)]
 rfl
def cnt(out:List Int)(N:Nat):Nat:=((List.range N).filter fun k=>decide (out.getD k 0=(k:Int))).length
theorem XT{N:Nat}{rings:List (List Int)}{l:List Edge}{out:List Int}(h:FC (N:Int) rings l)(hc:L6 (N:Int) l out):rings.length=cnt out N:=by
 have hsz:=h.fr.sz
 have hp:(rings.map hd).Perm (((List.range N).filter fun k=>decide (out.getD k 0=(k:Int))).map fun(k:Nat)=>(k:Int)):=by
  rw[AnU]
  ·intro a
   simp only[Alb,Alz,AmI,AlI]
   constructor
   ·rintro⟨A,hA,rfl⟩
    have gA:=h.fr.rg A hA
    have ih:In (N:Int) (hd A):=Ol gA
    have hh:=WK gA.2.1
    have:=ARR h hc hA ih hh
    obtain⟨_,_,a1,a2⟩:=ih
    refine⟨(hd A).toNat,⟨by omega,?_⟩,by omega⟩
    rw[show out.getD (hd A).toNat 0=cl out (hd A)from rfl,← this]
    omega
   ·rintro⟨k,⟨hk,ho⟩,rfl⟩
    have ik:In (N:Int) (k:Int):=⟨hsz.1,hsz.2,by omega,by omega⟩
    obtain⟨A,hA,hm⟩:=h.fr.cov _ ik
    refine⟨A,hA,?_⟩
    rw[ARR h hc hA ik hm]
    unfold cl
    rw[AmA];exact ho
  ·exact(Amf.2 h.fr.up).imp (fun h=>by omega)
  ·refine List.Pairwise.map _ (S:=fun a b=>a≠b) (R:=fun a b=>a≠b) (fun a b h h'=>h (by omega)) ?_
   exact(Anu).filter _
 have:=hp.length_eq
 rw[Aly,Aly]at this
 exact this
theorem PB(N:Nat)(hN:N≤64)(p:List Tie)(q:List Edge)(out:List Int)(ho:out.length=N):AS Dd many ((N:Int),p,q,out,(0:Int),(0:Int),())=some (.inl ((N:Int),p,q,(cnt out N:Int),())):=by
 have e:=CX (step:=Dd) (fun i (a:Nat)=>((N:Int),p,q,out,(a:Int),(i:Int),())) (List.range N) (fun k a=>.inl (if out.getD k 0=(k:Int)then a+1 else a)) (fun a=>.inl ((N:Int),p,q,(a:Int),())) (fun i a=>a≤i) (by simp;omega)
  (fun i x a hi hx ha=>by
   refine⟨fun m' h' => ?_,fun r h'=>(by cases h')⟩
   cases h'
   have:=CA hx
   subst this
   rw[Ali]at hi
   constructor
   ·rw[Dd,AK,AlF hi]
    simp only[CJ 0 (show x<out.length by omega),EF,Ak]
    rw[AH (by omega),AH (by omega)]
    by_cases h:out.getD x 0=(x:Int)
    ·rw[AlF h,AlU h]
    ·rw[AlE h,AlQ h]
   ·split<;>omega)
  (fun a _=>by rw[Dd,Ali,AK,AlE (by omega)]) 0 (AlS _)
 have e':AS Dd many ((N:Int),p,q,out,(0:Int),(0:Int),())=_:=e
 rw[e',BC (fun k a=>if out.getD k 0=(k:Int)then a+1 else a)]
 have key:∀ (xs:List Nat) (a:Nat),xs.foldl (fun a k=>if out.getD k 0=(k:Int)then a+1 else a) a=a+(xs.filter fun k=>decide (out.getD k 0=(k:Int))).length:=by
  intro xs
  induction xs with
  |nil=>intro a;rfl
  |cons x xs ih=>
   intro a
   rw[AmF,ih,AmQ]
   by_cases h:out.getD x 0=(x:Int)
   ·simp only[h,Alm,AlT,AlP];omega
   ·simp only[h,AlW,AlX,AlV]
 rw[key,AmS]
 rfl
theorem AEb(n:Int)(ts:List Tie)(hl:ts.length<4611686018427387904):∃ b:Bool,B5 ((n,(ts,())),())=some (b,())∧GC ((n,(ts,())),())=some (b,())∧(b=true→∃ N:Nat,n=(N:Int)∧1≤N∧N≤64∧ts.length≤400∧oks N ts):=by
 by_cases hn:¬ (1≤n∧n≤64)
 ·refine⟨false,?_,?_,fun h=>by cases h⟩
  ·rw[Fy,E1,Al,Al]
   by_cases h:n<1
   ·simp only[AlF h]
   ·simp only[AlE h,AlF (show 64<n by omega)]
  ·rw[J1,IK]
   simp only[VZ,Mt,Ap]
   by_cases h:1≤n
   ·simp only[AlF h,AlE (show ¬ n≤64 by omega),Alk]
   ·simp only[AlE h,Alk]
 have hn:=Am3.1 hn
 obtain⟨N,rfl⟩:=AlR (show 0≤n by omega)
 have hsz:Vo ((N:Int),())=some (true,()):=by
  simp only[VZ,Mt,Ap,AlF hn.1,AlF hn.2]
 by_cases h4:¬ ts.length≤400
 ·refine⟨false,?_,?_,fun h=>by cases h⟩
  ·rw[Fy,E1]
   simp only[Al,AM]
   rw[AlE (show ¬ (N:Int)<1 by omega),AlE (show ¬ 64<(N:Int) by omega),AlF (show 400<(ts.length:Int) by omega)]
  ·rw[J1,IK]
   simp only[hsz,AlM,Al,AM]
   rw[AlF (show 400<(ts.length:Int) by omega)]
 have h4:=Am3.1 h4
 have R:=RJ N (by omega) ts h4
 have L:=AQr N (by omega) ts h4
 by_cases ho:¬ oks N ts
 ·rw[AlQ ho]at R L
  refine⟨false,?_,?_,fun h=>by cases h⟩
  ·rw[Fy,E1]
   simp only[Al,AM]
   rw[AlE (show ¬ (N:Int)<1 by omega),AlE (show ¬ 64<(N:Int) by omega),AlE (show ¬ 400<(ts.length:Int) by omega)]
   simp only[R]
  ·rw[J1,IK]
   simp only[hsz,AlM,Al,AM,ACt N (by omega)]
   rw[AlE (show ¬ 400<(ts.length:Int) by omega)]
   rw[AM]at L
   simp only[L]
 have ho:=Am3.1 ho
 rw[AlU ho]at R L
 have hin:=Z5 (show N≤64 by omega) ho
 have hlen:=Q6 ts ts.length
 obtain⟨out,hc,hcl⟩:=Ck (N:Int) (trs ts ts.length) hn (by omega) hin
 rcases(AZD (N:Int) (trs ts ts.length) hn (by omega)).symm with⟨hno,_⟩|⟨_,rings,hf,hfc⟩
 ·exact absurd hin hno
 have hcount:=XT hfc hcl
 have hol:out.length=N:=by have:=hcl.len;omega
 refine⟨decide ((cnt out N:Int)=(N:Int)-(trs ts ts.length).length),?_,?_,fun _=>⟨N,rfl,by omega,by omega,h4,ho⟩⟩
 ·rw[Fy,E1]
  simp only[Al,AM]
  rw[AlE (show ¬ (N:Int)<1 by omega),AlE (show ¬ 64<(N:Int) by omega),AlE (show ¬ 400<(ts.length:Int) by omega)]
  simp only[R,hc,PB N (by omega) _ _ out hol,Ak]
  rw[Aj (by omega)]
 ·rw[J1,IK]
  simp only[hsz,AlM,Al,AM,ACt N (by omega)]
  rw[AlE (show ¬ 400<(ts.length:Int) by omega)]
  rw[AM]at L
  simp only[L,AVo ts h4 ho,hf,BS,Ak,hcount]
  rw[Aj (by omega)]
end Go.Pev.Pl
end
section
namespace Go.Pev.Pl
theorem L6.unique{N:Nat}{l:List Edge}{a b:List Int}(h1:1≤N)(h2:N≤64)(ha:L6 (N:Int) l a)(hb:L6 (N:Int) l b):a=b:=by
 have la:=ha.len
 have lb:=hb.len
 refine Fc (0:Int) (by omega) fun k hk => ?_
 have ik:In (N:Int) (k:Int):=⟨by omega,by omega,by omega,by omega⟩
 have e1:=ha.least _ _ ik (hb.isin _ ik) (hb.con _ ik)
 have e2:=hb.least _ _ ik (ha.isin _ ik) (ha.con _ ik)
 unfold cl at e1 e2
 rw[AmA]at e1 e2
 omega
theorem AIB(xs:List Tie)(a:List Edge):xs.foldl (fun a x=>a++[ed x]) a=a++xs.map ed:=Acj ed xs a
theorem AV7(n:Int)(ts:List Tie)(hs:ts.length≤400)(h:GC ((n,(ts,())),())=some (true,())):ADJ ((n,(ts,())),())=some (ts.map ed,()):=by
 rw[AHq,Rq]
 simp only[h,AlM]
 have e:=CX (step:=GD) (fun i (a:List Edge)=>(a,ts,AO ts,(i:Int),())) ts (fun x a=>.inl (a++[ed x])) (fun a=>.inl (a,())) (fun i a=>a.length≤i) (by omega)
  (fun i x a hi hx ha=>by
   refine⟨fun m' h' => ?_,fun r h'=>(by cases h')⟩
   cases h'
   constructor
   ·rw[GD]
    simp only[AM]
    rw[AK,AlF hi]
    simp only[Af hx]
    rw[A6 (by simp;omega),AH (by omega)]
    rfl
   ·rw[AlN];simp;omega)
  (fun a _=>by rw[GD,AM,AK,AlE (by omega)]) [] (AlS _)
 have e':AS GD many ([],ts,AO ts,(0:Int),())=_:=e
 simp only[e']
 rw[BC (fun x a=>a++[ed x]),AIB]
 rfl
theorem NF(n:Int)(ts:List Tie)(hs:ts.length≤400)(h:B5 ((n,(ts,())),())=some (true,())):LF ((n,(ts,())),())=some (ts.map ed,()):=by
 rw[ADz,OW]
 simp only[h,AlM]
 have e:=CX (step:=Em) (fun i (a:List Edge)=>(n,ts,a,(i:Int),())) ts (fun x a=>.inl (a++[ed x])) (fun a=>.inl (a,())) (fun i a=>a.length≤i) (by omega)
  (fun i x a hi hx ha=>by
   refine⟨fun m' h' => ?_,fun r h'=>(by cases h')⟩
   cases h'
   constructor
   ·rw[Em]
    simp only[AM]
    rw[AK,AlF hi]
    simp only[Af hx]
    rw[A6 (by simp;omega),AH (by omega)]
    rfl
   ·rw[AlN];simp;omega)
  (fun a _=>by rw[Em,AM,AK,AlE (by omega)]) [] (AlS _)
 have e':AS Em many (n,ts,[],(0:Int),())=_:=e
 simp only[e']
 rw[BC (fun x a=>a++[ed x]),AIB]
 rfl
def InV(N:Nat)(x:Int):Prop:=0≤x∧x<(N:Int)
instance (N:Nat)(x:Int):Decidable (InV N x):=inferInstanceAs (Decidable (_∧_))
theorem AhQ{N:Nat}{out:List Int}(ho:out.length=N){u:Int}(h:InV N u):idx out u=some (cl out u):=by
 obtain⟨U,rfl⟩:=AlR h.1
 have:=h.2
 rw[CJ 0 (by omega)]
 unfold cl;rw[AmA]
end Go.Pev.Pl
end
section
namespace Go.Pev.Pl
end Go.Pev.Pl
end
section
namespace Go.Pev.Pl
theorem WL(l:List Edge)(u v:Int)(hs:l.length<1073741824):X6 (l,(u,(v,())),())=some (decide (((u,(v,())):Edge)∈l),()):=by
 rw[ARV,ZZ]
 have e:=FZ (step:=IZ) (fun i=>(l,u,v,(i:Int),())) l (fun x=>decide (x=(u,v,()))) (fun _=>.inl (true,())) (.inr (.inl ())) (by omega)
  (fun i x hi hx=>by
   rw[IZ,AM,AK,AlF hi]
   simp only[Af hx,Ak]
   rw[AH (by omega)]
   obtain⟨a,b,⟨⟩⟩:=x
   by_cases h1:a=u
   ·by_cases h2:b=v
    ·simp[h1,h2]
    ·simp[h1,h2]
   ·simp[h1])
  (by rw[IZ,AM,AK,AlE (by omega)])
 have e':AS IZ many (l,u,v,(0:Int),())=_:=e
 simp only[e']
 have hany:(l.any fun x=>decide (x=(u,v,())))=decide (((u,(v,())):Edge)∈l):=by
  rw[AmL]
  simp
 rw[hany]
 generalize decide (((u,(v,())):Edge)∈l)=b
 cases b<;>rfl
theorem ASR{N:Nat}(h1:1≤N)(hN:N≤64)(ts:List Tie)(l:List Edge)(hs:l.length<1073741824)(hr:B5 (((N:Int),(ts,())),())=some (true,())):
  Sk (((N:Int),(ts,())),l,())=some (if ∀ e∈l,In (N:Int) e.1∧In (N:Int) e.2.1 then 0 else 10,()):=by
 rw[AEf,Of]
 simp only[hr,AlM]
 have e:=FZ (step:=Et) (fun i=>(l,(N:Int),ts,(i:Int),())) l (fun x => !decide (In (N:Int) x.1∧In (N:Int) x.2.1)) (fun _=>.inl (10,())) (.inr (.inl ())) (by omega)
  (fun i x hi hx=>by
   rw[Et,AM,AK,AlF hi]
   simp only[Af hx]
   rw[Al,Ap,Al,Ap,AH (by omega)]
   by_cases q1:x.1<0
   ·rw[AlF q1,AlE (show ¬ (In (N:Int) x.1∧In (N:Int) x.2.1)from fun h=>by have:=h.1.2.2.1;omega)];rfl
   rw[AlE q1]
   by_cases q2:(N:Int)≤x.1
   ·rw[AlF q2,AlE (show ¬ (In (N:Int) x.1∧In (N:Int) x.2.1)from fun h=>by have:=h.1.2.2.2;omega)];rfl
   rw[AlE q2]
   by_cases q3:x.2.1<0
   ·rw[AlF q3,AlE (show ¬ (In (N:Int) x.1∧In (N:Int) x.2.1)from fun h=>by have:=h.2.2.2.1;omega)];rfl
   rw[AlE q3]
   by_cases q4:(N:Int)≤x.2.1
   ·rw[AlF q4,AlE (show ¬ (In (N:Int) x.1∧In (N:Int) x.2.1)from fun h=>by have:=h.2.2.2.2;omega)];rfl
   rw[AlE q4,AlF (show In (N:Int) x.1∧In (N:Int) x.2.1 from⟨⟨by omega,by omega,by omega,by omega⟩,⟨by omega,by omega,by omega,by omega⟩⟩)]
   rfl)
  (by rw[Et,AM,AK,AlE (by omega)])
 have e':AS Et many (l,(N:Int),ts,(0:Int),())=_:=e
 rw[e']
 by_cases h:∀ e∈l,In (N:Int) e.1∧In (N:Int) e.2.1
 ·have:(l.any fun x => !decide (In (N:Int) x.1∧In (N:Int) x.2.1))=false:=by
   rw[Ams]
   intro x hx
   simp[h x hx]
  rw[this,AlU h]
  rfl
 ·have:(l.any fun x => !decide (In (N:Int) x.1∧In (N:Int) x.2.1))=true:=by
   rw[AmK]
   refine Alw fun hn=>h fun e he => ?_
   refine Alw fun hne=>hn ⟨e,he,by rw[AlE hne];rfl⟩
  rw[this,AlQ h]
  rfl
def Yq(l:List Edge)(u v:Int):Prop:=((u,(v,())):Edge)∈l∨((v,(u,())):Edge)∈l
instance (l:List Edge)(u v:Int):Decidable (Yq l u v):=inferInstanceAs (Decidable (_∨_))
def Ye(N:Nat)(l:List Edge)(u:Nat):List Edge:=((List.range (N-(u+1))).filter fun i=>decide (Yq l (u:Int) ((u+1+i:Nat):Int))).map fun(i:Nat)=>((u:Int),((u+1+i:Nat):Int),())
def Cs(N:Nat)(l:List Edge):List Edge:=(List.range N).flatMap fun u=>Ye N l u
theorem HY{α β:Type}(P:β→Prop)[DecidablePred P](g:β→α):∀ (xs:List β) (a:List α),xs.foldl (fun a x=>if P x then a++[g x]else a) a=a++(xs.filter fun x=>decide (P x)).map g:=by
 intro xs
 induction xs with
 |nil=>intro a;simp
 |cons x xs ih=>
  intro a
  rw[AmF,ih,AmQ]
  by_cases h:P x
  ·simp[h]
  ·simp[h]
theorem AO4(N:Nat)(hN:N≤64)(l:List Edge)(hs:l.length<1073741824)(u:Nat)(hu:u<N)(a:List Edge)(ha:a.length≤64*u):
  AS Df many ((N:Int),l,a,(u:Int),((u+1:Nat):Int),())=some (.inl ((N:Int),l,a++Ye N l u,(u:Int),())):=by
 have e:=CX (step:=Df) (fun i (a:List Edge)=>((N:Int),l,a,(u:Int),((u+1+i:Nat):Int),())) (List.range (N-(u+1))) (fun i a=>.inl (if Yq l (u:Int) ((u+1+i:Nat):Int)then a++[((u:Int),((u+1+i:Nat):Int),())]else a)) (fun a=>.inl ((N:Int),l,a,(u:Int),())) (fun i a=>a.length≤64*u+i) (by simp;omega)
  (fun i x a hi hx ha=>by
   refine⟨fun m' h' => ?_,fun r h'=>(by cases h')⟩
   cases h'
   have:=CA hx
   subst this
   rw[Ali]at hi
   constructor
   ·rw[Df,AK,AlF (show u+1+x<N by omega)]
    simp only[WL l _ _ hs,AM]
    have hfit:fits ((a.length:Int)+(([((u:Int),((u+1+x:Nat):Int),())]:List Edge).length:Int))=true:=A6 (by simp;omega)
    rw[hfit,AH (by omega)]
    by_cases q1:(((u:Int),(((u+1+x:Nat):Int),())):Edge)∈l
    ·rw[AlF q1,AlU (show Yq l (u:Int) ((u+1+x:Nat):Int)from .inl q1)]
     rfl
    ·rw[AlE q1]
     by_cases q2:(((((u+1+x:Nat):Int),((u:Int),()))):Edge)∈l
     ·rw[AlF q2,AlU (show Yq l (u:Int) ((u+1+x:Nat):Int)from .inr q2)]
      rfl
     ·rw[AlE q2,AlQ (show ¬ Yq l (u:Int) ((u+1+x:Nat):Int)from fun h=>by rcases h with h|h;exact q1 h;exact q2 h)]
      rfl
   ·split
    ·rw[AlN];simp;omega
    ·omega)
  (fun a _=>by rw[Df,Ali,AK,AlE (by omega)]) a (by omega)
 have e':AS Df many ((N:Int),l,a,(u:Int),((u+1:Nat):Int),())=_:=e
 rw[e',BC (fun i a=>if Yq l (u:Int) ((u+1+i:Nat):Int)then a++[((u:Int),((u+1+i:Nat):Int),())]else a),HY (fun i:Nat=>Yq l (u:Int) ((u+1+i:Nat):Int)) (fun i:Nat=>((u:Int),((u+1+i:Nat):Int),()))]
 rfl
theorem AOj(N:Nat)(hN:N≤64)(l:List Edge)(u:Nat):(Ye N l u).length≤64:=by
 unfold Ye
 rw[Aly]
 have:=Amu (fun i=>decide (Yq l (u:Int) ((u+1+i:Nat):Int))) (List.range (N-(u+1)))
 rw[Ali]at this
 omega
theorem XY(N:Nat)(hN:N≤64)(l:List Edge)(hs:l.length<1073741824):N2 ((N:Int),l,())=some (Cs N l,()):=by
 rw[ABX,N1]
 have e:=CX (step:=Ef) (fun i (a:List Edge)=>((N:Int),l,a,(i:Int),())) (List.range N) (fun u a=>.inl (a++Ye N l u)) (fun a=>.inl (a,())) (fun i a=>a.length≤64*i) (by simp;omega)
  (fun i x a hi hx ha=>by
   refine⟨fun m' h' => ?_,fun r h'=>(by cases h')⟩
   cases h'
   have:=CA hx
   subst this
   rw[Ali]at hi
   have hrow:=AOj N hN l x
   constructor
   ·rw[Ef,AK,AlF hi,AH (by omega)]
    simp only[AO4 N hN l hs x hi a ha]
    rw[AH (by omega)]
   ·rw[AlN];omega)
  (fun a _=>by rw[Ef,Ali,AK,AlE (by omega)]) [] (AlS _)
 have e':AS Ef many ((N:Int),l,[],(0:Int),())=_:=e
 simp only[e']
 rw[BC (fun u a=>a++Ye N l u)]
 have key:∀ (xs:List Nat) (a:List Edge),xs.foldl (fun a u=>a++Ye N l u) a=a++xs.flatMap fun u=>Ye N l u:=by
  intro xs
  induction xs with
  |nil=>intro a;simp
  |cons x xs ih=>intro a;rw[AmF,ih];simp
 rw[key]
 rfl
end Go.Pev.Pl
end
section
namespace Go.Pev.Pl
theorem Kg(N:Nat)(hN:N≤64)(l:List Edge):(Cs N l).length≤4096:=by
 have key:∀ M,((List.range M).flatMap fun u=>Ye N l u).length≤64*M:=by
  intro M
  induction M with
  |zero=>simp
  |succ M ih=>
   rw[Amc,Anf,AlN]
   have:=AOj N hN l M
   simp only[Amk,List.flatMap_nil,AmY]
   omega
 have:=key N
 unfold Cs
 omega
def CQ(N:Nat)(ts:List Tie)(l:List Edge):List Edge:=(Cs N l).filter fun x => !decide (x∈ts.map ed)
theorem AbM{N:Nat}(h1:1≤N)(hN:N≤64)(ts:List Tie)(ht:ts.length≤400)(l:List Edge)(hs:l.length<1073741824)(hr:B5 (((N:Int),(ts,())),())=some (true,())):
  AHc (((N:Int),(ts,())),l,())=some (if ∀ e∈l,In (N:Int) e.1∧In (N:Int) e.2.1 then(CQ N ts l,0,())else([],10,())):=by
 rw[AQd,ZR]
 simp only[ASR h1 hN ts l hs hr]
 by_cases h:¬ ∀ e∈l,In (N:Int) e.1∧In (N:Int) e.2.1
 ·rw[AlQ h,AlQ h,show ieq (10:Int) (0:Int)=false from by rw[Ak];rfl]
  rfl
 have h:=Am3.1 h
 rw[AlU h,AlU h,BS]
 simp only[AlM,NF (N:Int) ts ht hr,XY N hN l hs]
 have hpl:=Kg N hN l
 generalize hp:Cs N l=p at hpl
 have e:=CX (step:=II) (fun i (a:List Edge)=>(ts.map ed,p,a,(i:Int),())) p (fun x a=>.inl (if ¬ x∈ts.map ed then a++[x]else a)) (fun a=>.inl (a,())) (fun i a=>a.length≤i) (by omega)
  (fun i x a hi hx ha=>by
   refine⟨fun m' h' => ?_,fun r h'=>(by cases h')⟩
   cases h'
   constructor
   ·rw[II,AM,AK,AlF hi]
    obtain⟨u,v,⟨⟩⟩:=x
    simp only[Af hx,CU hx,WL (ts.map ed) u v (by rw[Aly];omega),AM]
    have hfit:fits ((a.length:Int)+(([(u,v,())]:List Edge).length:Int))=true:=A6 (by simp;omega)
    rw[hfit,AH (by omega)]
    by_cases q:((u,v,()):Edge)∈ts.map ed
    ·rw[AlF q,AlQ (fun h=>h q)]
     rfl
    ·rw[AlE q,AlU q]
     rfl
   ·split
    ·rw[AlN];simp;omega
    ·omega)
  (fun a _=>by rw[II,AM,AK,AlE (by omega)]) [] (AlS _)
 have e':AS II many (ts.map ed,p,[],(0:Int),())=_:=e
 rw[e',BC (fun x a=>if ¬ x∈ts.map ed then a++[x]else a),HY (fun x:Edge=>¬ x∈ts.map ed) (fun x=>x)]
 unfold CQ
 rw[hp,Alp,List.map_id']
 have hf:(p.filter fun x=>decide ¬x∈ts.map ed)=p.filter fun x => !decide (x∈ts.map ed):=by
  refine Am2 fun x _ => ?_
  simp
 rw[hf]
def O4(l:List Tie)(t:Tie):List Tie:=l.take (l.findIdx fun x => !decide (ahead x t))++t::l.drop (l.findIdx fun x => !decide (ahead x t))
theorem AaZ(l:List Tie)(t:Tie)(hs:l.length<1073741824):AOw (l,t,())=some (O4 l t,()):=by
 obtain⟨u,v,lv,tr,⟨⟩⟩:=t
 rw[AOv,ZJ]
 have e:=FZ (step:=IA) (fun i=>(l,u,v,lv,tr,(i:Int),())) l (fun x => !decide (ahead x (u,v,lv,tr,()))) (fun i=>.inl (l,u,v,lv,tr,(i:Int),())) (.inl (l,u,v,lv,tr,(l.length:Int),())) (by omega)
  (fun i x hi hx=>by
   rw[IA,AM,AK,AlF hi]
   simp only[Af hx,Ak]
   rw[Al,Al,AH (by omega)]
   by_cases q1:x.1<u
   ·rw[AlF q1,AlF (show ahead x (u,v,lv,tr,())from .inl q1)];rfl
   rw[AlE q1]
   by_cases q2:x.1=u
   ·rw[AlF q2]
    by_cases q3:x.2.1<v
    ·rw[AlF q3,AlF (show ahead x (u,v,lv,tr,())from .inr ⟨q2,q3⟩)];rfl
    ·rw[AlE q3,AlE (show ¬ ahead x (u,v,lv,tr,())from fun h=>by rcases h with h|⟨_,h⟩;exact q1 h;exact q3 h)];rfl
   ·rw[AlE q2,AlE (show ¬ ahead x (u,v,lv,tr,())from fun h=>by rcases h with h|⟨h,_⟩;exact q1 h;exact q2 h)];rfl)
  (by rw[IA,AM,AK,AlE (by omega)])
 have e':AS IA many (l,u,v,lv,tr,(0:Int),())=_:=e
 have hk:(if(l.any fun x => !decide (ahead x (u,v,lv,tr,())))=true then(Sum.inl (l,u,v,lv,tr,((l.findIdx fun x => !decide (ahead x (u,v,lv,tr,())):Nat):Int),()):(List Tie×Int×Int×Int×Bool×Int×Unit)⊕Unit)else .inl (l,u,v,lv,tr,(l.length:Int),())) = .inl (l,u,v,lv,tr,((l.findIdx fun x => !decide (ahead x (u,v,lv,tr,())):Nat):Int),()):=by
  by_cases h:(l.any fun x => !decide (ahead x (u,v,lv,tr,())))=true
  ·rw[AlU h]
  ·rw[AlQ h]
   have:l.findIdx (fun x => !decide (ahead x (u,v,lv,tr,())))=l.length:=by
    rw[List.findIdx_eq_length]
    intro x hx
    have h':(l.any fun x => !decide (ahead x (u,v,lv,tr,())))=false:=by simpa using h
    rw[Ams]at h'
    simpa using h' x hx
   rw[this]
 rw[e',hk]
 unfold O4
 have hle:l.findIdx (fun x => !decide (ahead x (u,v,lv,tr,())))≤l.length:=List.findIdx_le_length
 generalize l.findIdx (fun x => !decide (ahead x (u,v,lv,tr,())))=k at hle
 have se:Bv l (k:Int) (l.length:Int)=some (l.drop k):=DV hle
 simp only[Jb hle,se,AM,CO,Alp]
 rw[A6 (by simp;omega),A6 (by simp;omega),A6 (by simp;omega)]
 simp
end Go.Pev.Pl
end
section
namespace Go.Pev.Pl
def valid(N:Nat)(t:Tie):Prop:=0≤t.1∧t.1<t.2.1∧t.2.1<(N:Int)∧0≤t.2.2.1∧t.2.2.1≤H4 N
theorem ahead.trans{a b c:Tie}(h:ahead a b)(h':ahead b c):ahead a c:=by
 unfold ahead at *
 omega
theorem Kp(N:Nat)(ts:List Tie):oks N ts↔(∀ t∈ts,valid N t)∧ts.Pairwise ahead:=by
 constructor
 ·intro h
  have hv:∀ i,i<ts.length→L4 N ts i:=fun i hi=>h i (by simpa using hi)
  refine⟨fun t ht => ?_,?_⟩
  ·obtain⟨i,hi,rfl⟩:=AmN ht
   obtain⟨q1,q2,q3,q4,q5,_⟩:=hv i hi
   simp only[AlH,AlK hi,Als]at q1 q2 q3 q4 q5
   exact⟨q1,q2,q3,q4,q5⟩
  ·have key:∀ (d i:Nat),i+d+1<ts.length→ahead (ts.getD i zT) (ts.getD (i+d+1) zT):=by
    intro d
    induction d with
    |zero=>
     intro i hi
     obtain⟨_,_,_,_,_,q⟩:=hv (i+0+1) hi
     rcases q with q|q
     ·omega
     ·simpa using q
    |succ d ih=>
     intro i hi
     have h1:=ih i (by omega)
     obtain⟨_,_,_,_,_,q⟩:=hv (i+(d+1)+1) hi
     rcases q with q|q
     ·omega
     ·rw[show i+(d+1)+1-1=i+d+1 by omega]at q
      exact h1.trans q
   rw[AmJ]
   intro i j hi hj hij
   have:=key (j-i-1) i (by omega)
   rw[show i+(j-i-1)+1=j by omega]at this
   simpa only[AlH,AlK hi,AlK hj,Als]using this
 ·rintro⟨h1,h2⟩ i hi
  have hi:i<ts.length:=by simpa using hi
  have e:∀ j (hj:j<ts.length),ts.getD j zT=ts[j]:=fun j hj=>by
   simp only[AlH,AlK hj,Als]
  obtain⟨q1,q2,q3,q4,q5⟩:=h1 ts[i] (AmE hi)
  unfold L4
  rw[e i hi]
  refine⟨q1,q2,q3,q4,q5,?_⟩
  by_cases h0:i=0
  ·exact .inl h0
  ·right
   rw[e (i-1) (by omega)]
   exact(AmJ.1 h2) (i-1) i (by omega) hi (by omega)
theorem T7(l:List Tie)(t:Tie):(O4 l t).Perm (t::l):=by
 unfold O4
 refine List.perm_middle.trans ?_
 rw[Al9]
theorem AaY{l:List Tie}{t:Tie}(h:l.Pairwise ahead)(hn:∀ x∈l,¬ (x.1=t.1∧x.2.1=t.2.1)):(O4 l t).Pairwise ahead:=by
 induction l with
 |nil=>simp[O4]
 |cons a l ih=>
  rw[Al5]at h
  have hna:=hn a (by simp)
  have hnl:∀ x∈l,¬ (x.1=t.1∧x.2.1=t.2.1):=fun x hx=>hn x (by simp[hx])
  by_cases ha:ahead a t
  ·have e:O4 (a::l) t=a::O4 l t:=by
    unfold O4
    rw[Ano]
    simp[ha]
   rw[e,Al5]
   refine⟨fun x hx => ?_,ih h.2 hnl⟩
   rcases AlO.1 ((T7 l t).mem_iff.1 hx)with rfl|hx
   ·exact ha
   ·exact h.1 x hx
  ·have e:O4 (a::l) t=t::a::l:=by
    unfold O4
    rw[Ano]
    simp[ha]
   have hta:ahead t a:=by unfold ahead at *;omega
   rw[e,Al5,Al5]
   refine⟨fun x hx => ?_,h.1,h.2⟩
   rcases AlO.1 hx with rfl|hx
   ·exact hta
   ·exact hta.trans (h.1 x hx)
end Go.Pev.Pl
end
section
namespace Go.Pev.Pl
theorem Py(N:Nat)(l:List Edge)(x:Edge):x∈Cs N l↔0≤x.1∧x.1<x.2.1∧x.2.1<(N:Int)∧Yq l x.1 x.2.1:=by
 unfold Cs Ye
 simp only[AoR,Alb,Alz,AmI,AlI]
 constructor
 ·rintro⟨u,hu,i,⟨hi,he⟩,rfl⟩
  exact⟨by show(0:Int)≤(u:Int);omega,by show(u:Int)<((u+1+i:Nat):Int);omega,by show((u+1+i:Nat):Int)<(N:Int);omega,he⟩
 ·obtain⟨a,b,⟨⟩⟩:=x
  rintro⟨h1,h2,h3,h4⟩
  simp only at h1 h2 h3 h4
  obtain⟨u,rfl⟩:=AlR h1
  obtain⟨v,rfl⟩:=AlR (show 0≤b by omega)
  refine⟨u,by omega,v-(u+1),⟨by omega,?_⟩,?_⟩
  ·rw[show u+1+(v-(u+1))=v by omega];exact h4
  ·rw[show u+1+(v-(u+1))=v by omega]
def Co(p x:Edge):Prop:=p.1<x.1∨(p.1=x.1∧p.2.1<x.2.1)
theorem XX(N:Nat)(l:List Edge):(Cs N l).Pairwise Co:=by
 unfold Cs
 rw[List.pairwise_flatMap]
 refine⟨fun u _ => ?_,?_⟩
 ·unfold Ye
  rw[Amf]
  refine AnY _ ?_
  refine List.pairwise_lt_range.imp fun h => ?_
  exact .inr ⟨rfl,by show((u+1+_:Nat):Int)<((u+1+_:Nat):Int);omega⟩
 ·refine List.pairwise_lt_range.imp fun h x hx y hy => ?_
  unfold Ye at hx hy
  simp only[Alb]at hx hy
  obtain⟨i,_,rfl⟩:=hx
  obtain⟨j,_,rfl⟩:=hy
  exact .inl (by simp only;omega)
theorem VL(N:Nat)(ts:List Tie)(l:List Edge)(x:Edge):x∈CQ N ts l↔(0≤x.1∧x.1<x.2.1∧x.2.1<(N:Int)∧Yq l x.1 x.2.1)∧¬ x∈ts.map ed:=by
 unfold CQ
 rw[Alz,Py]
 simp
theorem AEL(N:Nat)(ts:List Tie)(l:List Edge):(CQ N ts l).Pairwise Co:=(XX N l).filter _
end Go.Pev.Pl
end
section
namespace Go.Pev.Pl
open Tok
instance (n v:Int):Decidable (In n v):=inferInstanceAs (Decidable (_∧_))
instance (n:Int):Decidable (Sz n):=inferInstanceAs (Decidable (_∧_))
theorem J5(n v:Int):AGK (n,v,())=some (decide (In n v),()):=by
 rw[AY4,ALm]
 simp only[Ap,Al]
 by_cases h1:1≤n<;>by_cases h2:n≤64<;>by_cases h3:0≤v<;>simp[In,h1,h2,h3]
theorem AIT(n u v:Int):AEg (n,u,v,())=some (EG n u v,()):=by
 rw[AST,Zg]
 simp only[J5,EG,Ak]
 by_cases h1:In n u
 ·by_cases h2:In n v
  ·by_cases h3:u=v
   ·simp[h1,h2,h3]
   ·obtain⟨a1,a2,a3,a4⟩:=h1
    obtain⟨b1,b2,b3,b4⟩:=h2
    have hb:=F9 a1 a2 a3 (by omega)
    have e1:u*n=n*u:=Int.mul_comm _ _
    have e2:n*(u+1)=n*u+n:=by rw[AoI,AoJ]
    rw[e1,Aj (n:=n*u) (by omega),Aj (n:=n+n*u) (by omega),Aj (n:=n+n*u+v) (by omega),e2]
    have e3:n+n*u+v=n*u+n+v:=by omega
    simp[In,a1,a2,a3,a4,b3,b4,h3,e3]
  ·simp[h1,h2]
 ·simp[h1]
theorem XN(n t:Int)(ht:-9223372036854775808≤t∧t≤9223372036854775807):Nr (n,t,())=some (O3 (CC n t)):=by
 rw[AAM,Nq]
 simp only[J5,Al,Ap]
 by_cases hi:In n t
 ·simp only[hi,AlT,CC,Alm,O3]
 ·simp only[hi,AlX]
  by_cases h1:n<1
  ·have hs:¬ Sz n:=fun h=>by have:=h.1;omega
   simp only[h1,AlT,CC,hi,AlW,hs,Amr,O3]
  ·simp only[h1,AlX]
   by_cases h2:64<n
   ·have hs:¬ Sz n:=fun h=>by have:=h.2;omega
    simp only[h2,AlT,CC,hi,AlW,hs,Amr,O3]
   ·have a1:1≤n:=by omega
    have a2:n≤64:=by omega
    have hb:=F9 (u:=n) a1 a2 (by omega) (by omega)
    have e3:n*(n+1)=n*n+n:=by rw[AoI,AoJ]
    rw[Aj (n:=n*n) (by omega),Aj (n:=n+n*n) (by omega)]
    simp only[h2,AlX]
    by_cases h3:t<n
    ·have:¬ n≤t:=by omega
     simp only[h3,AlT,CC,hi,AlW,this,Amr,and_false,O3]
    ·simp only[h3,AlX]
     by_cases h4:n+n*n≤t
     ·have:¬ t<n*(n+1):=by omega
      simp only[h4,AlT,CC,hi,AlW,this,Amr,and_false,O3]
     ·obtain⟨d1,d2,d3⟩:=AMU (t:=t) ⟨a1,a2⟩ (by omega) (by omega)
      have q1:=d1.2.2.1
      have q2:=d1.2.2.2
      rw[Aj (n:=t-n) (by omega)]
      have hq:(t-n).tdiv n=t/n-1:=by
       rw[AnH (by omega)]
       have:=Int.add_mul_ediv_right t (-1) (show n≠0 by omega)
       rw[show t-n=t + -1*n by omega,this];omega
      have hm:(t-n).tmod n=t % n:=by
       rw[Anz (by omega)]
       have:=Int.add_mul_emod_self_right t (-1) n
       rw[show t-n=t + -1*n by omega,this]
      simp only[h4,AlX,T6,RM,ABE,T5]
      rw[AlQ (by omega),AlQ (by omega),hq,hm,Aj (n:=t/n-1) (by omega)]
      simp only[]
      rw[Ak,CC,AlQ hi]
      by_cases h5:t/n-1=t % n
      ·rw[AlQ (by intro h;exact h.2.2.2 h5),AlF h5];rfl
      ·rw[AlU ⟨⟨a1,a2⟩,by omega,by omega,h5⟩,AlE h5];rfl
theorem AQt(xs ys:List (List Int))(hs:xs.length<9223372036854775808)(hi:∀ x∈xs,x.length<9223372036854775808):Rp (xs,ys,())=some (decide (xs=ys),()):=by
 rw[AC8,OQ,R4]
 by_cases hl:xs.length=ys.length
 ·rw[AlF hl]
  simp only[AlM]
  rcases AAf (step:=Di) (fun i=>(xs,ys,((i:Nat):Int),())) xs.length (fun i => !decide (xs.getD i []=ys.getD i [])) (fun _=>.inl (false,())) (.inr (.inl ())) hs (fun i hii=>by
   have hm:(xs.getD i []).length<9223372036854775808:=hi _ (by simp[hii])
   rw[Di,AM,AK,AlF hii]
   simp (disch:=first|omega|exact hm) only[CJ ([]:List Int),AH,AWF]
   by_cases h:xs.getD i []=ys.getD i []
   ·rw[AlF h];simp
   ·rw[AlE h];simp) (by rw[Di,AM,AK,AlE (by omega)])with⟨k,hk,hP,_,e⟩|⟨h,e⟩
  ·have e':AS Di many (xs,ys,(0:Int),())=_:=e
   rw[e']
   have:xs≠ys:=X0 ([]:List Int) (j:=k) (by simpa using hP)
   simp[this]
  ·have e':AS Di many (xs,ys,(0:Int),())=_:=e
   rw[e']
   have:xs=ys:=Fc ([]:List Int) hl fun j hj=>by simpa using h j hj
   simp[this]
 ·rw[AlE hl]
  have:xs≠ys:=fun e=>hl (by rw[e])
  simp[this]
theorem AQm(N:Nat)(hN:N≤64)(c:Int):∀ (k i n:Nat),i+k=N→k<n→AQ GB n ((N:Int),c,(N:Int),A8 i,(i:Int),())=some (.inl (c,(N:Int),A8 N,())):=by
 intro k
 induction k with
 |zero=>
  intro i n hi hn
  obtain⟨n,rfl⟩:∃ k,n=k+1:=⟨n-1,by omega⟩
  have:i=N:=by omega
  subst this
  rw[AQ,GB,AK,AlE (by omega)]
 |succ k ih=>
  intro i n hi hn
  obtain⟨n,rfl⟩:∃ k,n=k+1:=⟨n-1,by omega⟩
  rw[AQ,GB,AK,AlF (by omega)]
  simp only[AM,XS,AlP,Ala]
  rw[A6 (by omega),AH (by omega)]
  simp only[CO,← RD]
  exact ih (i+1) n (by omega) (by omega)
theorem ACk(n:Int):P1 (n,())=some (Gk n):=by
 have hm:4294967296<many:=by simp only[many];omega
 rw[AHh,Rn,Gk]
 simp only[Al]
 by_cases h1:n<1
 ·have:¬ Sz n:=fun h=>by have:=h.1;omega
  simp[h1,this]
 ·by_cases h2:64<n
  ·have:¬ Sz n:=fun h=>by have:=h.2;omega
   simp[h1,h2,this]
  ·obtain⟨N,rfl⟩:=AlR (show 0≤n by omega)
   have hS:Sz (N:Int):=⟨by omega,by omega⟩
   have e:=AQm N (by omega) 0 N 0 many (by omega) (by omega)
   have e':AQ GB many ((N:Int),0,(N:Int),[],(0:Int),())=_:=e
   simp[h1,h2,hS,Ae,e']
end Go.Pev.Pl
end
section
namespace Go.Pev.Pl
theorem MT(xs:List Int)(t:Int)(hs:xs.length<9223372036854775808):I6 (xs,t,())=some (pos xs t,()):=by
 rw[ABk,N6]
 have e:=FZ (step:=Ei) (fun i=>(xs,t,(i:Int),())) xs (fun x=>decide (x=t)) (fun i=>.inl ((i:Int),())) (.inr (.inl ())) hs
  (fun i x hi hx=>by
   rw[Ei,AM,AK,AlF hi]
   simp only[Af hx,Ak]
   by_cases h:x=t
   ·simp[h]
   ·simp only[h,AlX];rw[AH (by omega)];simp)
  (by rw[Ei,AM,AK,AlE (by omega)])
 have e':AS Ei many (xs,t,(0:Int),())=_:=e
 rw[e',AM8,pos]
 by_cases h:t∈xs<;>simp[h]
instance (xs:List Int):Decidable (Rt xs):=inferInstanceAs (Decidable (_∧_∧_))
theorem MR(xs:List Int):KZ (xs,())=some (decide (Rt xs),()):=by
 rw[ABC,Nz,AM,Al]
 by_cases hl:xs.length≤1000
 ·rw[AlE (by omega)]
  simp only[]
  rcases AAf (step:=De) (fun i=>(xs,((i:Nat):Int),())) xs.length (fun i=>decide (xs.getD i 0<0)||decide (10000<xs.getD i 0)||decide (xs.getD i 0∈xs.take i)) (fun _=>.inl (false,())) (.inr (.inl ())) (by omega) (fun i hi=>by
   rw[De,AM,AK,AlF hi]
   have hpl:I6 (xs.take i,xs.getD i 0,())=some (pos (xs.take i) (xs.getD i 0),()):=MT _ _ (by simp;omega)
   simp (disch:=omega) only[CJ (0:Int),Jb,hpl,AH,Al,Ap]
   by_cases h1:xs.getD i 0<0
   ·simp only[h1,AlT];simp
   ·by_cases h2:10000<xs.getD i 0
    ·simp only[h1,h2,AlT,AlX];simp
    ·by_cases h3:xs.getD i 0∈xs.take i
     ·obtain⟨k,e,_⟩:=AKD h3
      rw[e]
      simp only[h1,h2,h3,AlT,AlX];simp
     ·rw[RQ h3]
      simp only[h1,h2,h3,AlX];simp) (by rw[De,AM,AK,AlE (by omega)])with⟨k,hk,hP,_,e⟩|⟨h,e⟩
  ·have e':AS De many (xs,(0:Int),())=_:=e
   rw[e']
   have:¬ Rt xs:=by
    rintro⟨_,h1,h2⟩
    have hm:xs.getD k 0∈xs:=by
     rw[AlH,AlK hk,Als];exact AmE hk
    have:=h1 _ hm
    have h3:=(Ri xs).1 h2 k hk
    have c1:¬ xs.getD k 0<0:=by omega
    have c2:¬ 10000<xs.getD k 0:=by omega
    rw[AlE c1,AlE c2,AlE h3]at hP
    cases hP
   simp[this]
  ·have e':AS De many (xs,(0:Int),())=_:=e
   rw[e']
   have:Rt xs:=by
    have key:∀ j,j<xs.length→¬ xs.getD j 0<0∧¬ 10000<xs.getD j 0∧xs.getD j 0∉xs.take j:=fun j hj=>by
     have:=h j hj
     rw[AnX,AnX,Al7,Al7,Al7]at this
     exact⟨this.1.1,this.1.2,this.2⟩
    refine⟨hl,fun x hx => ?_,(Ri xs).2 fun j hj=>(key j hj).2.2⟩
    obtain⟨j,hj,rfl⟩:=AmN hx
    obtain⟨k1,k2,_⟩:=key j hj
    rw[AlH,AlK hj,Als]at k1 k2
    omega
   simp[this]
 ·rw[AlF (by omega)]
  have:¬ Rt xs:=fun h=>hl h.1
  simp[this]
theorem QM(xs:List Int)(t:Int)(hs:xs.length<9223372036854775808):QN (xs,t,())=some (JL xs t):=by
 rw[AIA,SJ,JL]
 simp only[MT xs t hs,MR]
 by_cases hr:Rt xs
 ·have hl:=hr.1
  simp only[hr,AlT,AlM,Am5]
  by_cases h:t∈xs
  ·have hk:xs.findIdx (fun x=>decide (x=t))<xs.length:=Ami.2 ⟨t,h,by simp⟩
   rw[pos,AlU h,AlU h,A7,rot]
   generalize xs.findIdx (fun x=>decide (x=t))=k at *
   rw[Al,AlE (by omega)]
   simp only[DV (AnQ hk),Jb (AnQ hk)]
   rw[A6 (by simp only[AM,Ala,Alr];omega)]
   simp only[]
   rw[A6 (by simp only[AM,CO,Alp,AlZ,Alr];omega)]
   simp only[CO,Alp]
  ·rw[RQ h,AlQ h,Al]
   simp
 ·simp[hr]
theorem XZ(xs:List Int):N4 (xs,())=some (plain xs,()):=by
 rw[ABa,N3,plain]
 simp only[MR]
 by_cases hr:Rt xs
 ·have hl:=hr.1
  simp only[hr,AlT,AlM,Am5]
  cases xs with
  |nil=>simp[AM,ED]
  |cons x xs=>
   rw[AM,Ak,AlE (by simp only[AlP];omega)]
   have i0:idx (x::xs) (0:Int)=some x:=by rw[FU];rfl
   simp only[i0]
   have e:=CX (step:=Eg) (fun i (a:Int)=>(x::xs,a,(i:Int),())) (x::xs) (fun y a=>.inl (B1 a y)) (fun a=>.inl (x::xs,a,())) (fun _ _=>True) (by omega)
    (fun i y a hi hy _=>by
     refine⟨fun m' h' => ?_,fun r h'=>by cases h'⟩
     cases h'
     rw[Eg,AM,AK,AlF hi]
     simp only[Af hy]
     rw[AH (by omega)]
     exact⟨rfl,trivial⟩)
    (fun a _=>by rw[Eg,AM,AK,AlE (by omega)]) x trivial
   have e':AS Eg many (x::xs,x,(0:Int),())=_:=e
   rw[e',BC]
   have hmin:(x::xs).foldl (fun a y=>B1 a y) x=G1 (x::xs):=by
    rw[AmF,G1]
    have:B1 x x=x:=by rw[B1];split<;>rfl
    rw[this]
   rw[hmin]
   have hm:=(E8 (xs:=x::xs) (by simp)).1
   simp only[QM (x::xs) _ (by omega),JL,hr,hm,An8,Alm]
   simp
 ·simp[hr]
end Go.Pev.Pl
end
section
namespace Go.Pev.Pl
open Tok
noncomputable instance (n:Int) (xs:List Int):Decidable (TI n xs):=Classical.propDecidable _
end Go.Pev.Pl
end
section
namespace Go.Pev.Pl
open Tok
theorem AJN(n t u:Int)(ht:-9223372036854775808≤t∧t≤9223372036854775807):MK (n,t,u,())=some (KW n t u,()):=by
 rw[XQ,KX,KW]
 simp only[XN n t ht,Ak]
 cases CC n t with
 |none=>rfl
 |some x=>cases x with
  |ver v=>
   by_cases h:v=u<;>simp[O3,st,h]
  |arc p q=>
   by_cases h:q=u<;>simp[O3,st,h]
end Go.Pev.Pl
end
section
namespace Go.Pev.Pl
open Tok
theorem Ahr(n:Int)(l:List Int)(i:Nat)(hi:i<l.length)(hl:l.length<1073741824)(d5 d6 d7 d8:Bool)(d9 d10:Int)(d11:Bool)(d12 d13 d14 d15 d16:Int)(d17:Bool)(d18 d19 d20 d21 d22 d23 d24 d25 d26:Int)(d27:Bool):
  ∀ (m k cnt:Nat) (acc:List Int),k+m=l.length→acc.length≤k→m<cnt →
  AQ Fw cnt (n,l,(i:Int),acc,(k:Int),d5,d6,d7,d8,d9,d10,d11,d12,d13,d14,d15,d16,d17,d18,d19,d20,d21,d22,d23,d24,d25,d26,d27,()) =
   some (.inl (n,(i:Int),acc++(List.range' k m).map (fun k=>l.getD ((i+k) % l.length) 0),d5,d6,d7,d8,d9,d10,d11,d12,d13,d14,d15,d16,d17,d18,l,d19,d20,d21,d22,d23,d24,d25,d26,d27,())):=by
 intro m
 induction m with
 |zero=>
  intro k cnt acc hk ha hc
  obtain⟨cnt,rfl⟩:∃ c,cnt=c+1:=⟨cnt-1,by omega⟩
  rw[AQ,Fw,AM,AK,AlE (by omega)]
  simp
 |succ m ih=>
  intro k cnt acc hk ha hc
  obtain⟨cnt,rfl⟩:∃ c,cnt=c+1:=⟨cnt-1,by omega⟩
  have hm:(i+k) % l.length<l.length:=Nat.mod_lt _ (by omega)
  rw[AQ,Fw,AM,AK,AlF (by omega)]
  simp only[]
  rw[wrap_add (by omega),ZI (by omega)]
  simp only[CJ (0:Int) hm,EF]
  rw[A6 (by simp only[AM,AlP,Ala];omega),AH (by omega)]
  simp only[CO]
  rw[ih (k+1) cnt _ (by omega) (by simp;omega) (by omega)]
  simp[AoQ]
theorem ASz(n:Int)(l:List Int)(i:Nat)(hi:i<l.length)(h1:1<l.length)(hl:l.length<1073741824)(hr:∀ x∈l, -9223372036854775808≤x∧x≤9223372036854775807):
  Cq (n,l,false,(i:Int),())=if Ky n l i then some (.inl (n,Fz l i,true,((i+1:Nat):Int),()))else some (.inl (n,l,false,((i+1:Nat):Int),())):=by
 have hmany:4294967296<many:=by simp only[many];omega
 have m1:(i+1) % l.length<l.length:=Nat.mod_lt _ (by omega)
 have m2:(i+2) % l.length<l.length:=Nat.mod_lt _ (by omega)
 have m0:(i+l.length-1) % l.length<l.length:=Nat.mod_lt _ (by omega)
 have hin:∀ {k:Nat},k<l.length→l.getD k 0∈l:=fun {k} hk=>by
  rw[AlH,AlK hk,Als];exact AmE hk
 have w2:IntKind.wrap .i64 ((i:Int)+2)=((i+2:Nat):Int):=by rw[Aj (by omega)];omega
 have w3:IntKind.wrap .i64 ((i:Int)+(l.length:Int))=((i+l.length:Nat):Int):=wrap_add (by omega)
 have w4:IntKind.wrap .i64 (((i+l.length:Nat):Int)-1)=((i+l.length-1:Nat):Int):=Ao (by omega)
 have f4:ile (4:Int) (l.length:Int)=decide (4≤l.length):=by
  rw[Ap]
  by_cases h:4≤l.length
  ·rw[AlF h,AlF (by omega)]
  ·rw[AlE h,AlE (by omega)]
 rw[Cq,AM,AK,AlF hi]
 simp only[Alk,CJ (0:Int) hi]
 rw[AH (by omega),w2,ZI (by omega),ZI (by omega)]
 simp only[CJ (0:Int) m1,CJ (0:Int) m2,EF,XN n _ (hr _ (hin hi)),f4,Ky]
 by_cases h4:4≤l.length
 ·simp only[h4,AlT,Ani]
  cases ht:CC n (l.getD i 0)with
  |none=>rfl
  |some t=>
   cases t with
   |ver v=>rfl
   |arc u v=>
    simp only[O3,Ak,AIT]
    by_cases c1:l.getD ((i+1) % l.length) 0=v
    ·simp only[c1,AlT,Ani]
     by_cases c2:l.getD ((i+2) % l.length) 0=EG n v u
     ·simp only[c2,AlT,Ani,w3,w4]
      rw[ZI (by omega)]
      simp only[CJ (0:Int) m0,EF,AJN n _ u (hr _ (hin m0))]
      cases KW n (l.getD ((i+l.length-1) % l.length) 0) u
      ·rfl
      ·simp only[Alm,Ae]
       have e:=Ahr n l i hi hl false true true true v v true (EG n v u) n v u (EG n v u) true n (i:Int) (l.length:Int) ((i+l.length:Nat):Int) ((i+l.length-1:Nat):Int) (l.length:Int) (((i+l.length-1) % l.length:Nat):Int) (l.getD ((i+l.length-1) % l.length) 0) u true (l.length-3) 3 many [] (by omega) (by simp) (by omega)
       have e':AQ Fw many (n,l,(i:Int),[],(3:Int),_)=_:=e
       simp only[e',AH (show i+1<9223372036854775808 by omega)]
       rfl
     ·simp only[c2,AlX,Amm,AlV,AlW]
    ·simp only[c1,AlX,Amm,AlV,AlW]
 ·simp only[h4,AlX,Amm,AlV,AlW]
theorem Ahs(n:Int)(l:List Int)(h1:1<l.length)(hl:l.length<1073741824)(hr:∀ x∈l, -9223372036854775808≤x∧x≤9223372036854775807):
  ∀ (m i cnt:Nat),i+m=l.length→m+1<cnt →
  (∃ k,k<l.length∧Ky n l k=true∧AQ Cq cnt (n,l,false,(i:Int),())=some (.inl (n,Fz l k,true,()))) ∨
  ((∀ k,i≤k→k<l.length→Ky n l k=false)∧AQ Cq cnt (n,l,false,(i:Int),())=some (.inl (n,l,false,()))):=by
 intro m
 induction m with
 |zero=>
  intro i cnt hi hc
  obtain⟨cnt,rfl⟩:∃ c,cnt=c+1:=⟨cnt-1,by omega⟩
  right
  refine⟨fun k q1 q2=>by omega,?_⟩
  rw[AQ,Cq,AM,AK,AlE (by omega)]
 |succ m ih=>
  intro i cnt hi hc
  obtain⟨cnt,rfl⟩:∃ c,cnt=c+1:=⟨cnt-1,by omega⟩
  rw[AQ,ASz n l i (by omega) h1 hl hr]
  cases hlf:Ky n l i
  ·simp only[AlV,AlW]
   rcases ih (i+1) cnt (by omega) (by omega)with h|⟨h,e⟩
   ·exact .inl h
   ·refine .inr ⟨fun k q1 q2 => ?_,e⟩
    by_cases ek:k=i
    ·rw[ek];exact hlf
    ·exact h k (by omega) q2
  ·simp only[Alm]
   obtain⟨cnt,rfl⟩:∃ c,cnt=c+1:=⟨cnt-1,by omega⟩
   refine .inl ⟨i,by omega,hlf,?_⟩
   rw[AQ,Cq]
   cases ilt ((i+1:Nat):Int) (AO (Fz l i))<;>rfl
theorem Aht(n:Int):∀ (m:Nat) (l:List Int) (cnt:Nat),l.length=m→l.length<1073741824→(∀ x∈l, -9223372036854775808≤x∧x≤9223372036854775807)→l.Nodup→m<cnt →
  (¬ TI n l∧AQ Hk cnt (n,l,())=some (.inl (false,()))) ∨
  ∃ l',AQ Hk cnt (n,l,())=some (.inr (.inl (n,l',())))∧l'.length≤1∧(TI n l↔TI n l'):=by
 intro m
 induction m using Nat.strongRecOn with
 |_ m ih=>
 intro l cnt hm hl hr hn hc
 have hmany:4294967296<many:=by simp only[many];omega
 obtain⟨cnt,rfl⟩:∃ c,cnt=c+1:=⟨cnt-1,by omega⟩
 rw[AQ,Hk,AM,Al]
 by_cases h1:1<l.length
 ·rw[AlF (by omega)]
  simp only[Ae]
  rcases Ahs n l h1 hl hr l.length 0 many (by omega) (by omega)with⟨k,k1,k2,e⟩|⟨k1,e⟩
  ·have e':AQ Cq many (n,l,false,(0:Int),())=_:=e
   simp only[e',AlM]
   have hred:=AV9 k1 k2
   have hiff:=Aj9 hred hn
   have hlen:(Fz l k).length=l.length-3:=by simp[Fz]
   rcases ih (l.length-3) (by omega) (Fz l k) cnt hlen (by omega) (fun x hx=>hr x (AT5 k1 x hx)) (AaX hred hn) (by omega)with⟨q1,q2⟩|⟨l',q1,q2,q3⟩
   ·exact .inl ⟨fun h=>q1 (hiff.1 h),q2⟩
   ·exact .inr ⟨l',q1,q2,hiff.trans q3⟩
  ·have e':AQ Cq many (n,l,false,(0:Int),())=_:=e
   simp only[e',Alk]
   refine .inl ⟨fun h => ?_,by trivial⟩
   obtain⟨l',hl'⟩:=Ako h h1
   obtain⟨i,i1,i2⟩:=AT9 hl'
   rw[k1 i (by omega) i1]at i2
   cases i2
 ·rw[AlE (by omega)]
  exact .inr ⟨l,rfl,by omega,Iff.rfl⟩
theorem AS0(n:Int)(l:List Int)(hl:l.length<1073741824)(hr:∀ x∈l, -9223372036854775808≤x∧x≤9223372036854775807)(hn:l.Nodup):AAH (n,l,())=some (decide (TI n l),()):=by
 have hmany:4294967296<many:=by simp only[many];omega
 rw[AG4,Q9,A6 (by simp only[AM,Ala];omega)]
 simp only[CO,Alp,Ae]
 rcases Aht n l.length l many rfl hl hr hn (by omega)with⟨q1,q2⟩|⟨l',q1,q2,q3⟩
 ·rw[q2,AlE q1]
 ·rw[q1]
  simp only[AM,Ak]
  match l',q2,q3 with
  |[],_,q3=>
   have:¬ TI n l:=fun h=>Ahj n (q3.1 h)
   simp[this]
  |[t],_,q3=>
   rw[Ahi]at q3
   have i0:idx [t] (0:Int)=some t:=by rw[FU];rfl
   have d0:AP [t] 0 (0:Int)=t:=rfl
   rw[AlF (by simp)]
   simp only[i0,d0,J5]
   by_cases h:In n t
   ·rw[AlF h,AlF (q3.2 h)]
   ·rw[AlE h,AlE (fun h2=>h (q3.1 h2))]
end Go.Pev.Pl
end
section
namespace Go.Pev.Pl
open Tok
noncomputable instance (n:Int) (rings:List (List Int)):Decidable (RF n rings):=Classical.propDecidable _
noncomputable instance (n:Int) (xs:List Int):Decidable (RG n xs):=Classical.propDecidable _
end Go.Pev.Pl
end
end
section
section
namespace Go.Pev.Pl
open Tok
theorem AFd(N:Nat)(hN:N≤64)(l:List Int)(hl:l.length<1073741824)(h0:∀ t∈l,0≤t)(d1:List (List Int))(d3 d5:Int)(d8:List Int)(d9:Int)(d10:Bool)(d11:Int)(d12:List Int)(d13 d14:Bool)(d15 d16:List Int)(d17:List (List Int))(d18:List Int)(d19:List (List Int))(d20 d21:Bool)(d22:List Int)(d23 d24:Int)(d25:Bool):
  ∀ (m k cnt:Nat) (met:List Bool) (seen:List Int),k+m=l.length→MB N met seen→(l.drop k).Nodup→seen.length+m<4611686018427387904→m<cnt →
  ((∀ t∈l.drop k,t<(N:Int)→t∉seen)∧∃ met',AQ C3 cnt ((N:Int),d1,met,d3,(seen.length:Int),d5,l,(k:Int),d8,d9,d10,d11,d12,d13,d14,d15,d16,d17,d18,d19,d20,d21,d22,d23,d24,d25,()) =
    some (.inr (.inl ((N:Int),d1,met',d3,((seen++(l.drop k).filter (fun t=>decide (t<(N:Int)))).length:Int),d5,d8,d9,d10,d11,d12,d13,d14,d15,d16,d17,d18,d19,d20,d21,d22,d23,d24,d25,())))∧MB N met' (seen++(l.drop k).filter (fun t=>decide (t<(N:Int))))) ∨
  (¬ (∀ t∈l.drop k,t<(N:Int)→t∉seen)∧AQ C3 cnt ((N:Int),d1,met,d3,(seen.length:Int),d5,l,(k:Int),d8,d9,d10,d11,d12,d13,d14,d15,d16,d17,d18,d19,d20,d21,d22,d23,d24,d25,())=some (.inl (false,()))):=by
 intro m
 induction m with
 |zero=>
  intro k cnt met seen hk hm hn hsl hc
  obtain⟨cnt,rfl⟩:∃ c,cnt=c+1:=⟨cnt-1,by omega⟩
  have e:l.drop k=[]:=AmX (by omega)
  rw[e]
  refine .inl ⟨by simp,met,?_,by simpa using hm⟩
  rw[AQ,C3,AM,AK,AlE (by omega)]
  simp
 |succ m ih=>
  intro k cnt met seen hk hm hn hsl hc
  obtain⟨cnt,rfl⟩:∃ c,cnt=c+1:=⟨cnt-1,by omega⟩
  have hk':k<l.length:=by omega
  have e:l.drop k=l.getD k 0::l.drop (k+1):=by
   rw[Al2 hk',AlH,AlK hk',Als]
  have hpos:0≤l.getD k 0:=h0 _ (by rw[AlH,AlK hk',Als];exact AmE hk')
  rw[AQ,C3,AM,AK,AlF hk']
  simp only[CJ (0:Int) hk']
  rw[e]at hn ⊢
  generalize l.getD k 0=t at *
  rw[Alq]at hn
  rw[AH (show k+1<9223372036854775808 by omega),Al]
  by_cases ht:t<(N:Int)
  ·rw[AlF ht]
   obtain⟨q,rfl⟩:=AlR hpos
   have hq:q<met.length:=by rw[hm.1];omega
   have hmq:=hm.2 q (by omega)
   simp only[CJ false hq,EF,AD1,hmq]
   by_cases hs:(q:Int)∈seen
   ·rw[AlF hs]
    exact .inr ⟨fun h=>h (q:Int) (by simp) ht hs,rfl⟩
   ·rw[AlE hs]
    simp only[]
    have hm':MB N (met.set q true) (seen++[(q:Int)]):=by
     refine⟨by simp[hm.1],fun y hy => ?_⟩
     by_cases e2:y=q
     ·subst e2
      simp[AlH,hq]
     ·have h3:=hm.2 y hy
      have e3:¬ (y:Int)=(q:Int):=by omega
      rw[AlH,AmG (AmD e2),← AlH,h3]
      simp[e3]
    have hlen:(((seen.length:Nat):Int))=((seen.length:Nat):Int):=rfl
    have hw:IntKind.wrap .i64 ((seen.length:Int)+1)=((seen++[(q:Int)]).length:Int):=by
     rw[Aj (by omega)];simp
    rw[hw]
    have hiff:(∀ y∈(q:Int)::l.drop (k+1),y<(N:Int)→y∉seen)↔∀ y∈l.drop (k+1),y<(N:Int)→y∉seen++[(q:Int)]:=by
     constructor
     ·intro h y hy hyn hm2
      simp only[AlJ,Alh]at hm2
      rcases hm2 with h2|rfl
      ·exact h y (Alg _ hy) hyn h2
      ·exact hn.1 hy
     ·intro h y hy hyn hm2
      rcases AlO.1 hy with rfl|hy
      ·exact hs hm2
      ·exact h y hy hyn (by simp[hm2])
    rcases ih (k+1) cnt _ _ (by omega) hm' hn.2 (by simp;omega) (by omega)with⟨q1,met',q2,q3⟩|⟨q1,q2⟩
    ·refine .inl ⟨hiff.2 q1,met',?_,?_⟩
     ·rw[AoE (by simpa using ht)]
      rw[q2,Alv]
      rfl
     ·rw[AoE (by simpa using ht)]
      simpa using q3
    ·exact .inr ⟨fun h=>q1 (hiff.1 h),q2⟩
  ·rw[AlE ht]
   simp only[]
   have hiff:(∀ y∈t::l.drop (k+1),y<(N:Int)→y∉seen)↔∀ y∈l.drop (k+1),y<(N:Int)→y∉seen:=by
    constructor
    ·intro h y hy;exact h y (Alg _ hy)
    ·intro h y hy hyn
     rcases AlO.1 hy with rfl|hy
     ·exact absurd hyn ht
     ·exact h y hy hyn
   rcases ih (k+1) cnt _ _ (by omega) hm hn.2 (by omega) (by omega)with⟨q1,met',q2,q3⟩|⟨q1,q2⟩
   ·refine .inl ⟨hiff.2 q1,met',?_,?_⟩
    ·rw[AoF (by simpa using ht)]
     exact q2
    ·rw[AoF (by simpa using ht)]
     exact q3
   ·exact .inr ⟨fun h=>q1 (hiff.1 h),q2⟩
theorem Yf(N:Nat)(hN1:1≤N)(hN:N≤64)(rings:List (List Int))(hlen:rings.length≤64)(hr:∀ l∈rings,l.length<9223372036854775808∧∀ x∈l, -9223372036854775808≤x∧x≤9223372036854775807):
  ∀ (ls:List (List Int)) (i cnt:Nat) (met:List Bool) (last:Int) (seen:List Int),rings.drop i=ls→i≤rings.length→MB N met seen→seen.length≤i*1073741824→ls.length<cnt →
  (okR (N:Int) seen last ls∧∃ met' seen',AQ C4 cnt ((N:Int),rings,met,last,(seen.length:Int),(i:Int),())=some (.inr (.inl ((N:Int),rings,(seen'.length:Int),())))∧MB N met' seen'∧seen'=seen++ls.flatten.filter (fun t=>decide (t<(N:Int)))) ∨
  (¬ okR (N:Int) seen last ls∧AQ C4 cnt ((N:Int),rings,met,last,(seen.length:Int),(i:Int),())=some (.inl (false,()))):=by
 have hmany:4294967296<many:=by simp only[many];omega
 intro ls
 induction ls with
 |nil=>
  intro i cnt met last seen hd hi hm hsl hc
  obtain⟨cnt,rfl⟩:∃ c,cnt=c+1:=⟨cnt-1,by simp at hc;omega⟩
  have:rings.length≤i:=by simpa using hd
  refine .inl ⟨trivial,met,seen,?_,hm,by simp⟩
  rw[AQ,C4,AM,AK,AlE (by omega)]
 |cons l ls ih=>
  intro i cnt met last seen hd hi hm hsl hc
  simp only[AlP]at hc
  obtain⟨cnt,rfl⟩:∃ c,cnt=c+1:=⟨cnt-1,by omega⟩
  have hi':i<rings.length:=by
   refine Alw fun h => ?_
   rw[AmX (by omega)]at hd
   cases hd
  rw[Al2 hi']at hd
  simp only[Alj]at hd
  obtain⟨hd1,hd2⟩:=hd
  have hx:rings[i]? = some l:=by rw[AlK hi',hd1]
  have hmem:l∈rings:=AlY hx
  obtain⟨hl,hlr⟩:=hr l hmem
  rw[AQ,C4,AM,AK,AlF hi',okR]
  simp only[Af hx,MR]
  by_cases c2:Rt l
  ·rw[AlF c2]
   have hl:l.length<1073741824:=by have:=c2.1;omega
   simp only[AlM]
   cases l with
   |nil=>
    rw[AM,Ak,AlF (by simp)]
    exact .inr ⟨fun h=>h.1.2.1 rfl,rfl⟩
   |cons x tl=>
    rw[AM,Ak,AlE (by simp only[AlP];omega)]
    simp only[AS0 (N:Int) (x::tl) hl hlr c2.2.2]
    by_cases c4:TI (N:Int) (x::tl)
    ·rw[AlF c4]
     simp only[AlM,XZ]
     rw[AQt _ _ (by simp) (by
      intro y hy
      simp only[Alh]at hy
      subst hy
      obtain⟨a,b,q1,q2⟩:=IC c2 (by simp)
      have:=Amq List.length q1
      rw[q2]
      simp only[AlP,AlN]at this hl ⊢
      omega)]
     have hps:=ABS c2 (by simp)
     have hps2:([plain (x::tl)]=[x::tl])↔G1 (x::tl)=x:=by simpa using hps
     by_cases c3:G1 (x::tl)=x
     ·rw[AlF (hps2.2 c3)]
      have i0:idx (x::tl) (0:Int)=some x:=by rw[FU];rfl
      simp only[AlM,i0,An5,Ap]
      by_cases c1:x≤last
      ·rw[AlF c1]
       exact .inr ⟨fun h=>by omega,rfl⟩
      ·rw[AlE c1]
       simp only[Ae]
       have hRG:RG (N:Int) (x::tl):=⟨c2,by simp,c3,c4⟩
       rcases AFd N hN (x::tl) hl (fun t ht=>(c2.2.1 t ht).1) rings x (i:Int) (x::tl) ((x::tl).length:Int) false (N:Int) (x::tl) true false (x::tl) (plain (x::tl)) [plain (x::tl)] (x::tl) [x::tl] true false (x::tl) x last false (x::tl).length 0 many met seen (by omega) hm (by rw[AnK];exact c2.2.2) (by omega) (by omega)with⟨q1,met',q2,q3⟩|⟨q1,q2⟩
       ·rw[AnK]at q1 q3 q2
        have q2':AQ C3 many ((N:Int),rings,met,x,(seen.length:Int),(i:Int),x::tl,(0:Int),x::tl,((x::tl).length:Int),false,(N:Int),x::tl,true,false,x::tl,plain (x::tl),[plain (x::tl)],x::tl,[x::tl],true,false,x::tl,x,last,false,())=_:=q2
        simp only[q2',AH (show i+1<9223372036854775808 by omega)]
        have hfl:((x::tl).filter (fun t=>decide (t<(N:Int)))).length≤(x::tl).length:=Amu _ _
        rcases ih (i+1) cnt met' x (seen++(x::tl).filter (fun t=>decide (t<(N:Int)))) hd2 (by omega) q3 (by rw[AlN];omega) (by omega)with⟨p1,met2,seen2,p2,p3,p4⟩|⟨p1,p2⟩
        ·refine .inl ⟨⟨hRG,by omega,q1,p1⟩,met2,seen2,p2,p3,?_⟩
         rw[p4,Amz,Amh,Alv]
        ·exact .inr ⟨fun h=>p1 h.2.2.2,p2⟩
       ·rw[AnK]at q1
        have q2':AQ C3 many ((N:Int),rings,met,x,(seen.length:Int),(i:Int),x::tl,(0:Int),x::tl,((x::tl).length:Int),false,(N:Int),x::tl,true,false,x::tl,plain (x::tl),[plain (x::tl)],x::tl,[x::tl],true,false,x::tl,x,last,false,())=_:=q2
        simp only[q2']
        exact .inr ⟨fun h=>q1 h.2.2.1,by trivial⟩
     ·rw[AlE (fun h=>c3 (hps2.1 h))]
      exact .inr ⟨fun h=>c3 h.1.2.2.1,rfl⟩
    ·rw[AlE c4]
     exact .inr ⟨fun h=>c4 h.1.2.2.2,rfl⟩
  ·rw[AlE c2]
   exact .inr ⟨fun h=>c2 h.1.1,rfl⟩
theorem Gs(n:Int)(rings:List (List Int))(hlen:rings.length<1073741824)(hr:∀ l∈rings,l.length<9223372036854775808∧∀ x∈l, -9223372036854775808≤x∧x≤9223372036854775807):
  Ny ((n,(rings,())),())=some (decide (RF n rings),()):=by
 have hmany:4294967296<many:=by simp only[many];omega
 rw[AA9,Nx]
 simp only[Al,AM]
 by_cases h1:n<1
 ·rw[AlF h1,AlE (show ¬ RF n rings from fun h=>by have:=h.1.1;omega)]
 ·rw[AlE h1]
  simp only[]
  by_cases h2:64<n
  ·rw[AlF h2,AlE (show ¬ RF n rings from fun h=>by have:=h.1.2;omega)]
  ·rw[AlE h2]
   simp only[]
   by_cases h3:n<(rings.length:Int)
   ·rw[AlF h3,AlE (show ¬ RF n rings from fun h=>by
     have:=AYh (by omega) h.2.1 (by omega) (by omega)
     omega)]
   ·rw[AlE h3]
    obtain⟨N,rfl⟩:=AlR (show 0≤n by omega)
    have f1:Lx (N:Int)=true:=(KB _).2 (by omega)
    have f2:ile (N:Int) (N:Int)=true:=by rw[Ap];simp
    simp only[f1,f2,Anh,An0,Ae]
    have hMB:MB N (KE (AF (N:Int)) false) []:=by
     refine⟨by simp[KE,Ii],fun k hk => ?_⟩
     simp[KE,Ii,hk]
    rcases Yf N (by omega) (by omega) rings (by omega) hr rings 0 many _ (-1) [] (by simp) (by omega) hMB (by simp) (by omega)with⟨p1,met,seen,p2,p3,p4⟩|⟨p1,p2⟩
    ·have p2':AQ C4 many ((N:Int),rings,KE (AF (N:Int)) false, -1,(0:Int),(0:Int),())=_:=p2
     simp only[p2',Ak]
     obtain⟨q1,q2⟩:=AbH p1 (by simp)
     rw[← p4]at q1
     have hsub:∀ x∈seen,x∈(List.range N).map (fun(k:Nat)=>(k:Int)):=by
      intro x hx
      rw[p4]at hx
      simp only[Alp,Alz,AoP,AlI]at hx
      obtain⟨⟨l,hl,hxl⟩,hxn⟩:=hx
      have:=((q2 l hl).1.2.1 x hxl).1
      rw[Alb]
      exact⟨x.toNat,by rw[AmI];omega,by omega⟩
     have hv:∀ v,v∈seen↔(v<(N:Int)∧v∈rings.flatten):=fun v=>by rw[p4,Alp,Alz,AlI,and_comm]
     have hS:Sz (N:Int):=⟨by omega,by omega⟩
     by_cases hc:(seen.length:Int)=(N:Int)
     ·rw[AlF hc,AlF]
      refine⟨hS,p1,fun v v1 v2 => ?_⟩
      have:=Rh q1 hsub (by simp;omega) v (by rw[Alb];exact⟨v.toNat,by rw[AmI];omega,by omega⟩)
      exact((hv v).1 this).2
     ·rw[AlE hc,AlE]
      rintro⟨_,_,h⟩
      have a1:=DL q1 hsub
      have hrn:((List.range N).map (fun(k:Nat)=>(k:Int))).Nodup:=by
       rw[List.Nodup,Amf]
       exact List.nodup_range.imp fun h e=>h (by omega)
      have a2:=DL (a:=(List.range N).map (fun(k:Nat)=>(k:Int))) (b:=seen) hrn fun x hx=>by
       rw[Alb]at hx
       obtain⟨k,hk,rfl⟩:=hx
       rw[AmI]at hk
       exact(hv _).2 ⟨by omega,h (k:Int) (by omega) (by omega)⟩
      simp only[Aly,Ali]at a1 a2
      omega
    ·have p2':AQ C4 many ((N:Int),rings,KE (AF (N:Int)) false, -1,(0:Int),(0:Int),())=_:=p2
     simp only[p2']
     rw[AlE (fun h=>p1 h.2.1)]
end Go.Pev.Pl
end
section
namespace Go.Pev.Pl
open Tok
theorem Xa(n:Int)(rings:List (List Int))(v:Int)(hlen:rings.length<1073741824)(hr:∀ l∈rings,l.length<9223372036854775808):I5 ((n,(rings,())),v,())=some (plc rings v,()):=by
 rw[ABh,N5]
 have e:=FZ (step:=Eh) (fun i=>(v,n,rings,(i:Int),())) rings (fun l=>decide (v∈l)) (fun i=>.inl ((i:Int),())) (.inr (.inl ())) (by omega)
  (fun i l hi hx=>by
   have hl:=hr l (AlY hx)
   rw[Eh,AM,AK,AlF hi]
   simp only[Af hx,MT l v (by omega)]
   rw[AH (by omega),Ap]
   by_cases h:v∈l
   ·obtain⟨k,e,_⟩:=AKD h
    rw[e,AlF (by omega),AlF h];rfl
   ·rw[RQ h,AlE (by omega),AlE h];rfl)
  (by rw[Eh,AM,AK,AlE (by omega)])
 have e':AS Eh many (v,n,rings,(0:Int),())=_:=e
 simp only[e',plc]
 cases rings.any (fun l=>decide (v∈l))<;>rfl
end Go.Pev.Pl
end
section
namespace Go.Pev.Pl
open Tok
theorem Aab(rest:List (List Int))(r:List Int)(hlen:rest.length<1073741824)(hne:∀ l∈rest,l≠[])(hp:plain r≠[]):AHP (rest,r,())=some (ABH rest (plain r),()):=by
 rw[AO0,ZK]
 simp only[XZ]
 generalize plain r=p at *
 have e:=FZ (step:=IB) (fun i=>(rest,p,(i:Int),())) rest (fun x => !decide (hd x<hd p)) (fun i=>.inl (rest,p,(i:Int),())) (.inl (rest,p,(rest.length:Int),())) (by omega)
  (fun i x hi hx=>by
   rw[IB,AM,AK,AlF hi]
   simp only[Af hx,AY5 (hne x (AlY hx)),AY5 hp,AhD,Al]
   rw[AH (by omega)]
   by_cases h:hd x<hd p
   ·rw[AlF h];rfl
   ·rw[AlE h];rfl)
  (by rw[IB,AM,AK,AlE (by omega)])
 have e':AS IB many (rest,p,(0:Int),())=_:=e
 have hk:(if rest.any (fun x => !decide (hd x<hd p))then(.inl (rest,p,((rest.findIdx fun x => !decide (hd x<hd p):Nat):Int),()):(List (List Int)×List Int×Int×Unit)⊕Unit)else .inl (rest,p,(rest.length:Int),())) = .inl (rest,p,((rest.findIdx fun x => !decide (hd x<hd p):Nat):Int),()):=by
  split
  ·rfl
  ·rename_i h
   rw[List.findIdx_eq_length.2 fun x hx=>by
    refine Alw fun hc=>h (AmK.2 ⟨x,hx,by simpa using hc⟩)]
 rw[e',hk]
 have hle:(rest.findIdx fun x => !decide (hd x<hd p))≤rest.length:=List.findIdx_le_length
 rw[ABH]
 generalize (rest.findIdx fun x => !decide (hd x<hd p))=k at *
 simp only[Jb hle,DV hle]
 rw[A6 (by simp only[AM,Ala,AlZ];omega)]
 simp only[]
 rw[A6 (by simp only[AM,CO,AlN,AlP,Ala,AlZ];omega)]
 simp only[]
 rw[A6 (by simp only[AM,CO,AlN,AlP,Ala,AlZ,Alr];omega)]
 simp only[CO,Alp,Alv,Ama]
theorem O9(l:List (List Int))(i:Nat)(hi:i<l.length)(hlen:l.length<1073741824):Ex (l,(i:Int),())=some (l.eraseIdx i,()):=by
 rw[Qz,I3]
 rw[AH (by omega)]
 simp only[Jb (AnQ hi),DV (show i+1≤l.length by omega)]
 rw[A6 (by simp only[AM,Ala,AlZ];omega)]
 simp only[]
 rw[A6 (by simp only[AM,CO,AlN,Ala,AlZ,Alr];omega)]
 simp only[CO,Alp,List.eraseIdx_eq_take_drop_succ]
end Go.Pev.Pl
end
section
namespace Go.Pev.Pl
open Tok
theorem Ahw(n:Int)(rings:List (List Int))(v:Int)(hD:Dom rings):tof ((n,(rings,())),v,())=some (if RF n rings∧In n v then plc rings v else -1,()):=by
 rw[Adv,AYB]
 simp only[ZA,PY n rings hD.1 hD.2,H0 n rings v hD.1 (fun l hl=>(hD.2 l hl).1)]
 by_cases h1:In n v
 ·by_cases h2:RF n rings<;>simp[h1,h2]
 ·simp[h1]
end Go.Pev.Pl
end
section
namespace Go.Pev.Pl
open Go.RowKit Tok
end Go.Pev.Pl
end
section
namespace Go.Pev.Pl
open Tok
end Go.Pev.Pl
end
section
namespace Go.Pev.Pl
open Tok
theorem AQx{n:Int}{rings:List (List Int)}{u v:Int}(h:FR n rings)(iu:In n u)(iv:In n v)(hp:plc rings u=plc rings v):
  Lo ((n,(rings,())),u,v,())=some (n,rings,5,())∧Mu ((n,(rings,())),u,v,())=some (n,rings,5,()):=by
 have hD:=h.dom
 have hRF:=Iu.2 h
 constructor
 ·rw[H6,HR]
  simp only[Hr n rings u v hD,hRF,iu,iv,An8,Alm,Ak,H0 n rings _ hD.1 (fun l hl=>(hD.2 l hl).1),hp,AlT,AlM]
 ·rw[J2,IM]
  simp only[Gs n rings hD.1 hD.2,hRF,J5,iu,iv,AlT,AlM,Xa n rings _ hD.1 (fun l hl=>(hD.2 l hl).1),Ak,hp]
theorem AgC{n:Int}{rings:List (List Int)}{u v:Int}{i j:Nat}{A B:List Int}(h:FR n rings)(iu:In n u)(iv:In n v)(hi:rings[i]? = some A)(hj:rings[j]? = some B)(hu:u∈A)(hv:v∈B)(hij:i≠j):
  ∃ zs rest,Lo ((n,(rings,())),u,v,())=some (n,zs,0,())∧Mu ((n,(rings,())),u,v,())=some (n,zs,0,())∧FR n zs∧rings.Perm (A::B::rest)∧zs.Perm (plain (BA n A B u v)::rest)∧Dis n A B:=by
 have hD:=h.dom
 have hRF:=Iu.2 h
 have rA:=h.rg A (AlY hi)
 have rB:=h.rg B (AlY hj)
 have hil:=(Aln.1 hi).1
 have hjl:=(Aln.1 hj).1
 have pu:plc rings u=(i:Int):=h.ABR hi iu.2.2.2 hu
 have pv:plc rings v=(j:Int):=h.ABR hj iv.2.2.2 hv
 have hperm:rings.Perm (A::B::(rings.eraseIdx (max i j)).eraseIdx (min i j)):=by
  rcases AoA hij with g|g
  ·rw[Anc (by omega),AmP (by omega)]
   exact JN g hi hj
  ·rw[Ank (by omega),Anx (by omega)]
   exact(JN g hj hi).trans (List.Perm.swap _ _ _)
 have hdis:Dis n A B:=by
  have:=KF hperm h.dis
  rw[Al5]at this
  exact this.1 B (by simp)
 obtain⟨l1,l2,l3,huv,ho⟩:=OR rA.2.2.2 rB.2.2.2 hu hv iu iv hdis
 obtain⟨hRG,hrot⟩:=AEl l1
 have hall:BA n A B u v=u::EG n u v::(A7 B v++EG n v u::(A7 A u).tail):=rfl
 have lA:(A7 A u).length≤1000:=by rw[← (Ch hu).perm.length_eq];exact rA.1.1
 have lB:(A7 B v).length≤1000:=by rw[← (Ch hv).perm.length_eq];exact rB.1.1
 have hsub:((rings.eraseIdx (max i j)).eraseIdx (min i j)).Sublist rings:=(Ans _ _).trans (Ans _ _)
 have hw1:Ex (rings,((max i j:Nat):Int),())=some (rings.eraseIdx (max i j),()):=O9 _ _ (by omega) hD.1
 have hel:(rings.eraseIdx (max i j)).length=rings.length-1:=by rw[List.length_eraseIdx];rw[AlU (by omega)]
 have hw2:Ex (rings.eraseIdx (max i j),((min i j:Nat):Int),())=some ((rings.eraseIdx (max i j)).eraseIdx (min i j),()):=O9 _ _ (by omega) (by have:=hD.1;omega)
 have hdrop:Cv (fun k=>decide ((k:Int)∈[(i:Int),(j:Int)])) 0 rings=(rings.eraseIdx (max i j)).eraseIdx (min i j):=by
  rcases AoA hij with g|g
  ·rw[Anc (by omega),AmP (by omega)]
   exact LG _ i j g rings 0 (by omega) fun k _=>Amd.2 (by simp only[AlO,AnJ,Anv];omega)
  ·rw[Ank (by omega),Anx (by omega)]
   exact LG _ j i g rings 0 (by omega) fun k _=>Amd.2 (by simp only[AlO,AnJ,Anv];omega)
 have hrl:((rings.eraseIdx (max i j)).eraseIdx (min i j)).length≤rings.length:=hsub.length_le
 generalize (rings.eraseIdx (max i j)).eraseIdx (min i j)=rest at *
 have hupr:rest.Pairwise (fun a b=>hd a<hd b):=h.up.sublist hsub
 have hner:∀ l∈rest,l≠[]:=fun l hl=>(h.rg l (hsub.subset hl)).2.1
 have hdd:=KF hperm h.dis
 rw[Al5,Al5]at hdd
 have hheads:∀ x∈rest,hd x≠hd (plain (BA n A B u v)):=by
  intro x hx e
  have g1:=Ol hRG
  have g2:=(l3 _ g1.2.2.2).1 (hrot.perm.mem_iff.2 (WK hRG.2.1))
  have g3:hd (plain (BA n A B u v))∈x:=e▸WK (hner x hx)
  rcases g2 with g|g
  ·exact hdd.1 x (by simp[hx]) _ g g1.2.2.2 g3
  ·exact hdd.2.1 x hx _ g g1.2.2.2 g3
 have hup:=AYR hupr hheads
 have hpz:=AHO rest (plain (BA n A B u v))
 refine⟨ABH rest (plain (BA n A B u v)),rest,?_,?_,AZU h hperm hRG (fun t ht=>by rw[← hrot.perm.mem_iff];exact l3 t ht) hpz hup,hperm,hpz,hdis⟩
 ·obtain⟨ys,y1,y2,y3⟩:=AGn n rings [(i:Int),(j:Int)] [BA n A B u v] hD.1 (by simp) (by simp) (fun l hl=>(h.rg l hl).2.1) (by simp;exact hRG.2.1)
  have hys:ys=ABH rest (plain (BA n A B u v)):=by
   refine XR hup (y2.trans ?_) y3
   rw[hdrop]
   exact(Amt (l₁:=rest) (l₂:=[plain (BA n A B u v)])).trans hpz.symm
  rw[hys]at y1
  rw[H6,HR]
  have s1:Bv (A7 A u) (0:Int) (1:Int)=some [u]:=by
   have:=Tj (xs:=A7 A u) (l:=0) (h:=1) (by omega) (by rw[l2];simp)
   rw[l2]at this ⊢
   exact this
  have s2:Bv (A7 A u) (1:Int) (AO (A7 A u))=some (A7 A u).tail:=by
   have:=DV (xs:=A7 A u) (l:=1) (by rw[l2];simp)
   rw[AnG]at this
   exact this
  have d1:Dp 0 (AF (AO [u])) (A7 A u)=[u]:=by rw[l2];rfl
  have d2:Dp 1 (AF (AO (A7 A u).tail)) (A7 A u)=(A7 A u).tail:=by
   rw[Dp,AM,Ii,AnG,AmU]
  have hcat:JP ([[u],[EG n u v],A7 B v,[EG n v u],(A7 A u).tail],())=some (BA n A B u v,()):=by
   rw[NL _ (by simp) (by simp;omega)]
   simp[BA]
  have ne:((i:Int))≠(j:Int):=by omega
  simp only[Hr n rings u v hD,hRF,iu,iv,An8,Alm,Ak,H0 n rings _ hD.1 (fun l hl=>(hD.2 l hl).1),pu,pv,ne,AlT,AlX,AlM,Af hi,Af hj,AHL,JL,rA.1,rB.1,hu,hv,s1,s2,AOE,d1,d2,hcat,y1]
 ·rw[J2,IM]
  have s2:Bv (A7 A u) (1:Int) (AO (A7 A u))=some (A7 A u).tail:=by
   have:=DV (xs:=A7 A u) (l:=1) (by rw[l2];simp)
   rw[AnG]at this
   exact this
  have d2:Dp 1 (AF (AO (A7 A u).tail)) (A7 A u)=(A7 A u).tail:=by
   rw[Dp,AM,Ii,AnG,AmU]
  have ne:((i:Int))≠(j:Int):=by omega
  have f1:fits (AO [u,EG n u v]+AO (A7 B v))=true:=A6 (by simp only[AM,AlP,Ala];omega)
  have f2:fits (AO (A1 [u,EG n u v] (A7 B v))+AO [EG n v u])=true:=A6 (by simp only[AM,CO,AlN,AlP,Ala];omega)
  have f3:fits (AO (A1 (A1 [u,EG n u v] (A7 B v)) [EG n v u])+AO (A7 A u).tail)=true:=A6 (by simp only[AM,CO,AlN,AlP,Ala,List.length_tail];omega)
  have hcat:A1 (A1 (A1 [u,EG n u v] (A7 B v)) [EG n v u]) (A7 A u).tail=BA n A B u v:=by simp[CO,BA]
  have hput:AHP (rest,BA n A B u v,())=some (ABH rest (plain (BA n A B u v)),()):=Aab rest _ (by have:=hD.1;omega) hner hRG.2.1
  simp only[Gs n rings hD.1 hD.2,hRF,J5,iu,iv,AlT,AlM,Xa n rings _ hD.1 (fun l hl=>(hD.2 l hl).1),pu,pv,Ak,ne,AlX,Af hi,Af hj,QM A u (by have:=rA.1.1;omega),QM B v (by have:=rB.1.1;omega),JL,rA.1,rB.1,hu,hv,An8,Alm,AIT,f1,f2,s2,d2,f3,AgW,AgV,hw1,hw2,hcat,hput]
theorem AGH{n:Int}{rings:List (List Int)}{u v:Int}(hD:Dom rings)(h:¬ (RF n rings∧In n u∧In n v)):
  ∃ e,e≠0∧(∃ b,e=b∧(b=1∨b=10))∧Lo ((n,(rings,())),u,v,())=some (n,rings,e,())∧Mu ((n,(rings,())),u,v,())=some (n,rings,e,()):=by
 by_cases h1:RF n rings
 ·have h2:¬ (In n u∧In n v):=fun h2=>h ⟨h1,h2⟩
  refine⟨10,by omega,⟨10,rfl,.inr rfl⟩,?_,?_⟩
  ·rw[H6,HR]
   simp only[Hr n rings u v hD,h1,h2,Alm,AlW,Ak]
   rfl
  ·rw[J2,IM]
   simp only[Gs n rings hD.1 hD.2,h1,J5,AlT,AlM]
   by_cases hu:In n u
   ·have hv:¬ In n v:=fun hv=>h2 ⟨hu,hv⟩
    simp[hu,hv]
   ·simp[hu]
 ·refine⟨1,by omega,⟨1,rfl,.inl rfl⟩,?_,?_⟩
  ·rw[H6,HR]
   simp only[Hr n rings u v hD,h1,AlW,Ak]
   rfl
  ·rw[J2,IM]
   simp only[Gs n rings hD.1 hD.2,h1,AlX,Alk]
theorem Qj{n:Int}{rings:List (List Int)}(u v:Int)(hD:Dom rings):∃ zs e,Lo ((n,(rings,())),u,v,())=some (n,zs,e,())∧Mu ((n,(rings,())),u,v,())=some (n,zs,e,())∧Dom zs:=by
 by_cases h:RF n rings∧In n u∧In n v
 ·obtain⟨h1,iu,iv⟩:=h
  have hF:=Iu.1 h1
  obtain⟨i,A,pu,hi,hu,_⟩:=MS (hF.cov u iu)
  obtain⟨j,B,pv,hj,hv,_⟩:=MS (hF.cov v iv)
  by_cases hij:i=j
  ·obtain⟨q1,q2⟩:=AQx hF iu iv (by rw[pu,pv,hij])
   exact⟨_,_,q1,q2,hD⟩
  ·obtain⟨zs,rest,q1,q2,q3,_⟩:=AgC hF iu iv hi hj hu hv hij
   exact⟨_,_,q1,q2,q3.dom⟩
 ·obtain⟨e,_,_,q1,q2⟩:=AGH hD h
  exact⟨_,_,q1,q2,hD⟩
end Go.Pev.Pl
end
section
namespace Go.Pev.Pl
open Tok
def sel(l:List Edge)(bs:List Bool):List Edge:=((l.zip bs).filter fun p=>p.2).map fun p=>p.1
end Go.Pev.Pl
end
section
namespace Go.Pev.Pl
open Tok
instance (n v:Int):Decidable (In n v):=inferInstanceAs (Decidable (_∧_))
instance (n:Int):Decidable (Sz n):=inferInstanceAs (Decidable (_∧_))
end Go.Pev.Pl
end
section
namespace Go.Pev.Pl
instance (xs:List Int):Decidable (Rt xs):=inferInstanceAs (Decidable (_∧_∧_))
end Go.Pev.Pl
end
section
namespace Go.Pev.Pl
open Tok
noncomputable instance (n:Int) (xs:List Int):Decidable (TI n xs):=Classical.propDecidable _
end Go.Pev.Pl
end
section
namespace Go.Pev.Pl
open Tok
noncomputable instance (n:Int) (rings:List (List Int)):Decidable (RF n rings):=Classical.propDecidable _
noncomputable instance (n:Int) (xs:List Int):Decidable (RG n xs):=Classical.propDecidable _
end Go.Pev.Pl
end
section
namespace Go.Pev.Pl
open Tok
theorem MH(n:Int)(rings:List (List Int))(l:List (Int×Int×Unit))(hD:Dom rings)(hs:l.length<9223372036854775808):RB ((n,(rings,())),l,())=some (Wt n rings (l.all fun e=>decide (In n e.1)&&decide (In n e.2.1)),()):=by
 rw[AAP,Ns]
 simp only[Gs n rings hD.1 hD.2,Wt]
 by_cases h:RF n rings
 ·simp only[h,AlT,AlM,Alm]
  have e:=FZ (step:=Ea) (fun i=>(l,n,rings,(i:Int),())) l (fun e => !(decide (In n e.1)&&decide (In n e.2.1))) (fun _=>.inl ((10:Int),())) (.inr (.inl ())) hs
   (fun i x hi hx=>by
    rw[Ea,AM,AK,AlF hi]
    simp only[Af hx,Al,Ap]
    rw[AH (by omega)]
    have q1:=AXw (v:=x.1) h.1
    have q2:=AXw (v:=x.2.1) h.1
    by_cases c1:x.1<0
    ·rw[AlF c1,Bool.true_or]at q1
     have:decide (In n x.1)=false:=by simpa using q1.symm
     simp[c1,this]
    ·by_cases c2:n≤x.1
     ·rw[AlF c2,Bool.or_true]at q1
      have:decide (In n x.1)=false:=by simpa using q1.symm
      simp[c1,c2,this]
     ·rw[AlE c1,AlE c2]at q1
      have g1:decide (In n x.1)=true:=by simpa using q1.symm
      by_cases c3:x.2.1<0
      ·rw[AlF c3,Bool.true_or]at q2
       have:decide (In n x.2.1)=false:=by simpa using q2.symm
       simp[c1,c2,c3,this]
      ·by_cases c4:n≤x.2.1
       ·rw[AlF c4,Bool.or_true]at q2
        have:decide (In n x.2.1)=false:=by simpa using q2.symm
        simp[c1,c2,c3,c4,this]
       ·rw[AlE c3,AlE c4]at q2
        have g2:decide (In n x.2.1)=true:=by simpa using q2.symm
        simp[c1,c2,c3,c4,g1,g2])
   (by rw[Ea,AM,AK,AlE (by omega)])
  have e':AS Ea many (l,n,rings,(0:Int),())=_:=e
  rw[e',List.any_eq_not_all_not]
  simp only[Bool.not_not]
  cases l.all fun e=>decide (In n e.1)&&decide (In n e.2.1)<;>rfl
 ·simp[h]
end Go.Pev.Pl
end
section
namespace Go.Pev.Pl
open Tok
end Go.Pev.Pl
end
section
namespace Go.Pev.Pl
open Tok
theorem AGG{n:Int}(l:List Edge)(base:List Edge)(hs:l.length<1073741824)(ha:∀ e∈l,In n e.1∧In n e.2.1):
  ∀ (m i cnt:Nat) (rings:List (List Int)) (taken:List Bool),i+m=l.length→taken.length=i→FC n rings (base++l.take i)→m<cnt →
  ∃ zs taken',AQ Bg cnt (l,n,rings,(0:Int),taken,(i:Int),())=some (.inl (n,zs,(0:Int),taken',()))∧FC n zs (base++l):=by
 intro m
 induction m with
 |zero=>
  intro i cnt rings taken hi ht h hc
  obtain⟨cnt,rfl⟩:∃ c,cnt=c+1:=⟨cnt-1,by omega⟩
  rw[AmC (by omega)]at h
  refine⟨rings,taken,?_,h⟩
  rw[AQ,Bg,AM,AK,AlE (by omega)]
 |succ m ih=>
  intro i cnt rings taken hi ht h hc
  obtain⟨cnt,rfl⟩:∃ c,cnt=c+1:=⟨cnt-1,by omega⟩
  have hi':i<l.length:=by omega
  have hx:l[i]? = some l[i]:=AlK hi'
  obtain⟨iu,iv⟩:=ha _ (AmE hi')
  obtain⟨zs,q,e1,e2,e3⟩:=Zi h iu iv
  obtain⟨zs',q',f1,f2,_⟩:=Qj (n:=n) (rings:=rings) l[i].1 l[i].2.1 h.fr.dom
  rw[e1]at f1
  cases f1
  rw[AQ,Bg,AM,AK,AlF hi']
  simp only[Af hx,f2]
  rw[AH (by omega),A6 (by simp only[AM,AlP,Ala];omega)]
  have htk:l.take (i+1)=l.take i++[l[i]]:=Al1 hi'
  refine ih (i+1) cnt zs _ (by omega) (by simp[CO,ht]) ?_ (by omega)
  rw[htk,← Alv];exact e2
theorem Aft{N:Nat}(h1:1≤N)(hN:N≤64)(l:List Edge)(hs:l.length<1073741824)(ha:∀ e∈l,In (N:Int) e.1∧In (N:Int) e.2.1):
  ∃ zs,AbJ ((N:Int),l,())=some (((N:Int),(zs,())),0,())∧FC (N:Int) zs l:=by
 have hF:=Ql h1 hN
 have hall:(l.all fun e=>decide (In (N:Int) e.1)&&decide (In (N:Int) e.2.1))=true:=by
  rw[Ale]
  intro e he
  obtain⟨h1,h2⟩:=ha e he
  simp[h1,h2]
 obtain⟨zs,bs,e,h2⟩:=AGG l [] hs ha l.length 0 many (A8 N) [] (by omega) rfl (by simpa using hF) (by simp only[many];omega)
 have e':AS Bg many (l,(N:Int),A8 N,(0:Int),[],(0:Int),())=_:=(Ae _ _ _).trans e
 have hE:Wt (N:Int) (A8 N) true=0:=by
  unfold Wt
  simp[Iu.2 hF.fr]
 have hL:JC (((N:Int),(A8 N,())),l,())=some (((N:Int),(zs,())),bs,0,()):=by
  rw[Kx,Hn]
  simp only[MH (N:Int) (A8 N) l hF.fr.dom (by omega),hall]
  rw[hE]
  simp only[BS,AlM,e']
 refine⟨zs,?_,by simpa using h2⟩
 have hm:P1 ((N:Int),())=some ((N:Int),A8 N,0,()):=by
  rw[ACk]
  unfold Gk
  rw[AlU (show Sz (N:Int)from⟨by omega,by omega⟩),AmA]
 rw[AK2,ACd]
 simp only[hm,BS,AlM,hL]
end Go.Pev.Pl
end
section
namespace Go.Pev.Pl
open Tok
theorem ANz{N:Nat}(ts:List Tie)(hs:ts.length≤400)(h:oks N ts):HQ (((N:Int),(ts,())),(0:Int),())=some (trs ts ts.length,()):=by
 rw[Pa,Jo]
 have e:=CX (step:=CM) (fun i (a:List Edge)=>((0:Int),(N:Int),ts,a,(i:Int),())) (List.range ts.length) (fun i a=>.inl (if(ts.getD i zT).2.2.2.1=true then a++[ed (ts.getD i zT)]else a)) (fun a=>.inl (a,())) (fun i a=>a.length≤i) (by simp;omega)
  (fun i x a hi hx ha=>by
   refine⟨fun m' h' => ?_,fun r h'=>(by cases h')⟩
   cases h'
   have:=CA hx
   subst this
   rw[Ali]at hi
   have hlv:=(h x (by simp[hi])).2.2.2.1
   constructor
   ·rw[CM,AM,AK,AlF hi]
    simp only[CJ zT hi,AM]
    have hfit:fits ((a.length:Int)+(([((ts.getD x zT).1,(ts.getD x zT).2.1,())]:List Edge).length:Int))=true:=A6 (by simp;omega)
    rw[AH (by omega),Ap,AlF hlv]
    cases ht4:(ts.getD x zT).2.2.2.1
    ·simp
    ·simp only[hfit]
     simp[ed,A1]
   ·split
    ·rw[AlN];simp;omega
    ·omega)
  (fun a _=>by rw[CM,Ali,AM,AK,AlE (by omega)]) [] (AlS _)
 have e':AS CM many ((0:Int),(N:Int),ts,[],(0:Int),())=_:=e
 simp only[e']
 rw[BC (fun i a=>if(ts.getD i zT).2.2.2.1=true then a++[ed (ts.getD i zT)]else a)]
 rfl
theorem AMF{N:Nat}(h1:1≤N)(hN:N≤64)(ts:List Tie)(hs:ts.length≤400)(h:oks N ts)(hr:B5 (((N:Int),(ts,())),())=some (true,())):
  ∃ zs,J9 (((N:Int),(ts,())),(0:Int),())=some (((N:Int),(zs,())),0,())∧FC (N:Int) zs (trs ts ts.length):=by
 have hl:=Q6 ts ts.length
 obtain⟨zs,e,hF⟩:=Aft h1 hN (trs ts ts.length) (by omega) (Z5 hN h)
 refine⟨zs,?_,hF⟩
 rw[M8,Ia]
 simp only[hr,AlM,ANz ts hs h,e]
end Go.Pev.Pl
end
section
namespace Go.Pev.Pl
open Tok
theorem AOm{N:Nat}(h1:1≤N)(hN:N≤64){ts:List Tie}(hs:ts.length≤400)(ho:oks N ts){out:List Int}(hc:L6 (N:Int) (trs ts ts.length) out):
  B5 (((N:Int),(ts,())),())=some (decide ((cnt out N:Int)=(N:Int)-(trs ts ts.length).length),()):=by
 have R:=RJ N hN ts hs
 rw[AlU ho]at R
 have hin:=Z5 hN ho
 have hlen:=Q6 ts ts.length
 obtain⟨o2,e2,c2⟩:=Ck (N:Int) (trs ts ts.length) ⟨by omega,by omega⟩ (by omega) hin
 have:=L6.unique h1 hN hc c2
 subst this
 have hol:out.length=N:=by have:=hc.len;omega
 rw[Fy,E1]
 simp only[Al,AM]
 rw[AlE (show ¬ (N:Int)<1 by omega),AlE (show ¬ 64<(N:Int) by omega),AlE (show ¬ 400<(ts.length:Int) by omega)]
 simp only[R,e2,PB N hN _ _ out hol,Ak]
 rw[Aj (by omega)]
end Go.Pev.Pl
end
section
namespace Go.Pev.Pl
open Tok
theorem Con.perm{l l':List Edge}(h:∀ e,e∈l↔e∈l'){a b:Int}:Con l a b↔Con l' a b:=
 ⟨fun c=>c.mono fun e he=>⟨e,(h e).1 he,.inl ⟨rfl,rfl⟩⟩,fun c=>c.mono fun e he=>⟨e,(h e).2 he,.inl ⟨rfl,rfl⟩⟩⟩
theorem L6.congr{n:Int}{l l':List Edge}{out:List Int}(h:∀ a b,Con l a b↔Con l' a b)(hc:L6 n l out):L6 n l' out:=
 ⟨hc.len,fun a b ia ib=>(hc.same a b ia ib).trans (h a b),hc.isin,fun a ia=>(h a _).1 (hc.con a ia),fun a b ia ib c=>hc.least a b ia ib ((h a b).2 c)⟩
end Go.Pev.Pl
end
section
namespace Go.Pev.Pl
open Tok
def MG(x:Edge)(b:Bool):Tie:=(x.1,x.2.1,0,b,())
def Wy(ts:List Tie)(xs:List Edge)(bs:List Bool)(k:Nat):List Tie:=(List.range k).foldl (fun a i=>O4 a (MG (xs.getD i (0,0,())) (bs.getD i false))) ts
theorem Aee(l:List Tie)(t:Tie):(O4 l t).length=l.length+1:=by
 have:=(T7 l t).length_eq
 simpa using this
theorem AXu(n:Int)(ts:List Tie)(xs:List Edge)(bs:List Bool)(hx:xs.length≤4096)(ht:ts.length≤400)(hb:bs.length=xs.length):
  AS G4 many ((0:Int),xs,bs,n,ts,(0:Int),())=some (.inl ((0:Int),xs,n,Wy ts xs bs xs.length,())):=by
 have e:=CX (step:=G4) (fun i (a:List Tie)=>((0:Int),xs,bs,n,a,(i:Int),())) (List.range xs.length) (fun i a=>.inl (O4 a (MG (xs.getD i (0,0,())) (bs.getD i false)))) (fun a=>.inl ((0:Int),xs,n,a,())) (fun i a=>a.length=ts.length+i) (by simp;omega)
  (fun i x a hi hxx ha=>by
   refine⟨fun m' h' => ?_,fun r h'=>(by cases h')⟩
   cases h'
   have:=CA hxx
   subst this
   rw[Ali]at hi
   constructor
   ·rw[G4,AM,AK,AlF hi]
    simp only[CJ ((0:Int),((0:Int),())) hi,CJ false (show x<bs.length by omega),EF]
    have hp:=AaZ a (MG (xs.getD x (0,0,())) (bs.getD x false)) (by omega)
    unfold MG at hp ⊢
    simp only[hp]
    rw[AH (by omega)]
   ·rw[Aee,ha];omega)
  (fun a _=>by rw[G4,Ali,AM,AK,AlE (by omega)]) ts rfl
 have e':AS G4 many ((0:Int),xs,bs,n,ts,(0:Int),())=_:=e
 rw[e',BC (fun i a=>O4 a (MG (xs.getD i (0,0,())) (bs.getD i false)))]
 rfl
end Go.Pev.Pl
end
section
namespace Go.Pev.Pl
open Tok
def AK5(xs:List Edge)(bs:List Bool)(k:Nat):List Tie:=(List.range k).map fun i=>MG (xs.getD i (0,0,())) (bs.getD i false)
theorem AIV(ts:List Tie)(xs:List Edge)(bs:List Bool)(k:Nat):Wy ts xs bs (k+1)=O4 (Wy ts xs bs k) (MG (xs.getD k (0,0,())) (bs.getD k false)):=by
 unfold Wy
 rw[Amc,List.foldl_append]
 rfl
theorem Oi(ts:List Tie)(xs:List Edge)(bs:List Bool):∀ k,(Wy ts xs bs k).Perm (ts++AK5 xs bs k):=by
 intro k
 induction k with
 |zero=>simp[Wy,AK5]
 |succ k ih=>
  rw[AIV]
  refine(T7 _ _).trans ?_
  unfold AK5 at *
  rw[Amc,AmZ,← Alv]
  refine(List.Perm.cons _ ih).trans ?_
  exact(List.perm_append_singleton _ _).symm
end Go.Pev.Pl
end
section
namespace Go.Pev.Pl
open Tok
theorem Ahc{N:Nat}{ts:List Tie}(h:oks N ts)(hv0:0≤H4 N){xs:List Edge}(bs:List Bool)(hp:xs.Pairwise Co)(hx:∀ e∈xs,0≤e.1∧e.1<e.2.1∧e.2.1<(N:Int))(hn:∀ e∈xs,¬ e∈ts.map ed):oks N (Wy ts xs bs xs.length):=by
 rw[Kp]at h ⊢
 obtain⟨h1,h2⟩:=h
 have hget:∀ i (hi:i<xs.length),xs.getD i (0,0,())=xs[i]:=fun i hi=>by
  simp only[AlH,AlK hi,Als]
 have hmem:∀ k,k≤xs.length→∀ t∈Wy ts xs bs k,t∈ts∨∃ i,i<k∧t=MG (xs.getD i (0,0,())) (bs.getD i false):=by
  intro k hk t ht
  rcases AlJ.1 ((Oi ts xs bs k).mem_iff.1 ht)with h|h
  ·exact .inl h
  ·unfold AK5 at h
   obtain⟨i,hi,rfl⟩:=Alb.1 h
   exact .inr ⟨i,by simpa using hi,rfl⟩
 refine⟨fun t ht => ?_,?_⟩
 ·rcases hmem _ (AlS _) t ht with h|⟨i,hi,rfl⟩
  ·exact h1 t h
  ·rw[hget i hi]
   obtain⟨q1,q2,q3⟩:=hx xs[i] (AmE hi)
   exact⟨q1,q2,q3,by show(0:Int)≤0;omega,hv0⟩
 ·have key:∀ k,k≤xs.length→(Wy ts xs bs k).Pairwise ahead:=by
   intro k
   induction k with
   |zero=>intro _;exact h2
   |succ k ih=>
    intro hk
    rw[AIV]
    refine AaY (ih (by omega)) fun t ht => ?_
    rw[hget k (by omega)]
    rintro⟨e1,e2⟩
    rcases hmem k (by omega) t ht with h|⟨i,hi,rfl⟩
    ·refine hn xs[k] (AmE (by omega)) (Alb.2 ⟨t,h,?_⟩)
     unfold ed
     rw[e1,e2]
     rfl
    ·rw[hget i (by omega)]at e1 e2
     have:=(AmJ.1 hp) i k (by omega) (by omega) hi
     unfold Co at this
     simp only[MG]at e1 e2
     omega
  exact key _ (AlS _)
end Go.Pev.Pl
end
section
namespace Go.Pev.Pl
open Tok
theorem Adh(ts:List Tie):∀ k,k≤ts.length→trs ts k=((ts.take k).filter fun t=>t.2.2.2.1).map ed:=by
 intro k
 induction k with
 |zero=>intro _;simp[trs]
 |succ k ih=>
  intro hk
  have hk':k<ts.length:=by omega
  rw[Z4,ih (by omega),Al1 hk',Amh,AmZ]
  simp only[AlH,AlK hk',Als]
  cases h:ts[k].2.2.2.1
  ·simp[h]
  ·simp[h]
theorem AIu(ts:List Tie):trs ts ts.length=(ts.filter fun t=>t.2.2.2.1).map ed:=by
 rw[Adh ts _ (AlS _),AmU]
end Go.Pev.Pl
end
section
namespace Go.Pev.Pl
open Tok
theorem Afx{xs:List Edge}{bs:List Bool}(h:bs.length=xs.length):AK5 xs bs xs.length=(xs.zip bs).map fun p=>MG p.1 p.2:=by
 unfold AK5
 apply AoN
 ·simp[h]
 ·intro i h1 h2
  have hi:i<xs.length:=by simpa using h1
  simp[hi,show i<bs.length by omega]
theorem Aj0(x:Edge)(b:Bool):ed (MG x b)=x:=rfl
theorem Ahb(ts:List Tie){xs:List Edge}{bs:List Bool}(h:bs.length=xs.length):(trs (Wy ts xs bs xs.length) (Wy ts xs bs xs.length).length).Perm (trs ts ts.length++sel xs bs):=by
 rw[AIu,AIu]
 refine(((Oi ts xs bs xs.length).filter _).map ed).trans ?_
 rw[Amh,AmZ,Afx h,List.filter_map,List.map_map]
 exact List.Perm.refl _
theorem Ahd(ts:List Tie)(xs:List Edge)(bs:List Bool):∀ k,(Wy ts xs bs k).length=ts.length+k:=by
 intro k
 rw[(Oi ts xs bs k).length_eq]
 simp[AK5]
end Go.Pev.Pl
end
end
section
section
namespace Go.Pev.Pl
open Tok
def ASW(N:Nat)(l:List Edge):Prop:=∀ e∈l,In (N:Int) e.1∧In (N:Int) e.2.1
theorem Acz(N:Nat)(hN:N≤64)(ts:List Tie)(l:List Edge):(CQ N ts l).length≤4096:=by
 unfold CQ
 exact AmO (Amu _ _) (Kg N hN l)
theorem AR9{N:Nat}(hN:N≤64)(ts:List Tie)(l:List Edge):∀ e∈CQ N ts l,In (N:Int) e.1∧In (N:Int) e.2.1:=by
 intro e he
 obtain⟨⟨a,b,c,_⟩,_⟩:=(VL N ts l e).1 he
 exact⟨⟨by omega,by omega,a,by omega⟩,⟨by omega,by omega,by omega,c⟩⟩
end Go.Pev.Pl
end
section
namespace Go.Pev.Pl
open Tok
theorem AgR{N:Nat}(h1:1≤N)(hN:N≤64){a:Int}(h:0≤a∧a<(N:Int)):In (N:Int) a:=⟨by omega,by omega,h.1,h.2⟩
theorem AgS{N:Nat}{e:Edge}(h:In (N:Int) e.1∧In (N:Int) e.2.1):InE N e:=⟨⟨h.1.2.2.1,h.1.2.2.2⟩,⟨h.2.2.2.1,h.2.2.2.2⟩⟩
theorem AhN{N:Nat}(h1:1≤N)(hN:N≤64){l:List Edge}{out:List Int}(hc:L6 (N:Int) l out):cnt out N=cc N l:=by
 unfold cnt cc
 rw[List.countP_eq_length_filter]
 congr 1
 refine Am2 fun k hk => ?_
 have hk:k<N:=by simpa using hk
 have ik:=AgR h1 hN (a:=(k:Int)) ⟨by omega,by omega⟩
 have hg:out.getD k 0=cl out (k:Int):=by unfold cl;rw[AmA]
 rw[hg,AmL,Alo,IL]
 constructor
 ·intro h j hj hcn
  have:=hc.least (k:Int) (j:Int) ik (AgR h1 hN ⟨by omega,by omega⟩) hcn.symm
  omega
 ·intro h
  have a1:=hc.isin _ ik
  have a2:=hc.con _ ik
  have a3:=hc.least (k:Int) (k:Int) ik ik (.refl _)
  obtain⟨m,hm⟩:=AlR a1.2.2.1
  rw[hm]at a2 a3 ⊢
  by_cases hlt:m<k
  ·exact absurd a2.symm (h m hlt)
  ·omega
theorem FC.count{N:Nat}(h1:1≤N)(hN:N≤64){rings:List (List Int)}{l:List Edge}(h:FC (N:Int) rings l)(hs:l.length<1073741824)(ha:∀ e∈l,In (N:Int) e.1∧In (N:Int) e.2.1):rings.length=cc N l:=by
 obtain⟨o,_,c⟩:=Ck (N:Int) l ⟨by omega,by omega⟩ hs ha
 rw[XT h c,AhN h1 hN c]
theorem FC.congr{n:Int}{rings:List (List Int)}{l l':List Edge}(h:FC n rings l)(hm:∀ e∈l,e∈l')(hc:∀ e∈l',Con l e.1 e.2.1):FC n rings l':=
 ⟨h.fr,fun a b ia ib=>(h.sam a b ia ib).trans ⟨fun c=>c.sub hm,fun c=>c.cut hc⟩,fun A hA u v ho hu=>by
  obtain⟨e,he,q⟩:=h.arcs A hA u v ho hu
  exact⟨e,hm e he,q⟩⟩
theorem AOl{N:Nat}(h1:1≤N)(hN:N≤64){ts:List Tie}(hs:ts.length≤400)(ho:oks N ts):B5 (((N:Int),(ts,())),())=some (true,())↔Fo N (trs ts ts.length):=by
 have hlen:=Q6 ts ts.length
 obtain⟨o,_,c⟩:=Ck (N:Int) (trs ts ts.length) ⟨by omega,by omega⟩ (by omega) (Z5 hN ho)
 rw[AOm h1 hN hs ho c,AhN h1 hN c]
 unfold Fo
 constructor
 ·intro h
  have:decide ((cc N (trs ts ts.length):Int)=(N:Int)-(trs ts ts.length).length)=true:=by injection h with h;injection h
  have:=AnE this
  omega
 ·intro h
  rw[AlF (by omega)]
theorem ASk{N:Nat}(h1:1≤N)(hN:N≤64){rings:List (List Int)}{l:List Edge}{e:Edge}(h:FC (N:Int) rings l)(hs:l.length+1<1073741824)(ha:∀ e∈l,In (N:Int) e.1∧In (N:Int) e.2.1)(iu:In (N:Int) e.1)(iv:In (N:Int) e.2.1):
  ∃ zs,Lo (((N:Int),(rings,())),e.1,e.2.1,())=some ((N:Int),zs,(if DH l e.1 e.2.1=true then 5 else 0),())∧FC (N:Int) zs (l++[e]):=by
 obtain⟨zs,q,e1,e2,e3⟩:=Zi h iu iv
 have c1:=h.count h1 hN (by omega) ha
 have c2:=e2.count h1 hN (by rw[AlN];simp;omega) (fun x hx=>by
  rcases AlJ.1 hx with hx|hx
  ·exact ha x hx
  ·rw[Alh]at hx;subst hx;exact⟨iu,iv⟩)
 have c3:=AMs (l:=l) (AgS ⟨iu,iv⟩)
 refine⟨zs,?_,e2⟩
 rw[e1]
 by_cases hc:DH l e.1 e.2.1=true
 ·rw[AlU hc]at c3 ⊢
  rcases e3 with⟨rfl,e4⟩|⟨rfl,rfl⟩
  ·omega
  ·rfl
 ·rw[AlQ hc]at c3 ⊢
  rcases e3 with⟨rfl,e4⟩|⟨rfl,rfl⟩
  ·rfl
  ·omega
theorem Vy{N:Nat}(h1:1≤N)(hN:N≤64)(l base:List Edge)(hs:base.length+l.length<1073741824)(hb:∀ e∈base,In (N:Int) e.1∧In (N:Int) e.2.1)(ha:∀ e∈l,In (N:Int) e.1∧In (N:Int) e.2.1):
  ∀ (m i cnt:Nat) (rings:List (List Int)),i+m=l.length→FC (N:Int) rings (base++l.take i)→m<cnt →
  ∃ zs,AQ Bg cnt (l,(N:Int),rings,(0:Int),gfl base (l.take i),(i:Int),())=some (.inl ((N:Int),zs,(0:Int),gfl base l,()))∧FC (N:Int) zs (base++l):=by
 intro m
 induction m with
 |zero=>
  intro i cnt rings hi h hc
  obtain⟨cnt,rfl⟩:∃ c,cnt=c+1:=⟨cnt-1,by omega⟩
  rw[AmC (by omega)]at h ⊢
  refine⟨rings,?_,h⟩
  rw[AQ,Bg,AM,AK,AlE (by omega)]
 |succ m ih=>
  intro i cnt rings hi h hc
  obtain⟨cnt,rfl⟩:∃ c,cnt=c+1:=⟨cnt-1,by omega⟩
  have hi':i<l.length:=by omega
  have hx:l[i]? = some l[i]:=AlK hi'
  obtain⟨iu,iv⟩:=ha _ (AmE hi')
  have hba:∀ e∈base++l.take i,In (N:Int) e.1∧In (N:Int) e.2.1:=fun e he=>by
   rcases AlJ.1 he with he|he
   ·exact hb e he
   ·exact ha e (List.take_subset _ _ he)
  have hlt:(l.take i).length=i:=by rw[AlZ];omega
  obtain⟨zs,e1,e2⟩:=ASk h1 hN h (by rw[AlN];omega) hba iu iv
  obtain⟨zs',q',f1,f2,_⟩:=Qj (n:=(N:Int)) (rings:=rings) l[i].1 l[i].2.1 h.fr.dom
  rw[e1]at f1
  cases f1
  have htk:l.take (i+1)=l.take i++[l[i]]:=Al1 hi'
  rw[AQ,Bg,AM,AK,AlF hi']
  simp only[Af hx,f2]
  rw[AH (by omega),A6 (by simp only[AM,AlP,Ala,AMC,hlt];omega)]
  obtain⟨zs2,e3,e4⟩:=ih (i+1) cnt zs (by omega) (by rw[htk,← Alv];exact e2) (by omega)
  refine⟨zs2,?_,e4⟩
  rw[← e3,htk,Agr,CO]
  congr 5
  by_cases hcn:DH (base++l.take i) l[i].1 l[i].2.1=true
  ·rw[AlU hcn,hcn,Ak]
   rfl
  ·rw[AlQ hcn,Ak]
   simp[hcn]
theorem AQw{N:Nat}(h1:1≤N)(hN:N≤64){rings:List (List Int)}{base:List Edge}(h:FC (N:Int) rings base)(l:List Edge)(hs:base.length+l.length<1073741824)(hb:∀ e∈base,In (N:Int) e.1∧In (N:Int) e.2.1)(ha:∀ e∈l,In (N:Int) e.1∧In (N:Int) e.2.1):
  ∃ zs,JC (((N:Int),(rings,())),l,())=some (((N:Int),(zs,())),gfl base l,0,())∧FC (N:Int) zs (base++l):=by
 have hall:(l.all fun e=>decide (In (N:Int) e.1)&&decide (In (N:Int) e.2.1))=true:=by
  rw[Ale]
  intro e he
  obtain⟨h1,h2⟩:=ha e he
  simp[h1,h2]
 obtain⟨zs,e,h2⟩:=Vy h1 hN l base hs hb ha l.length 0 many rings (by omega) (by simpa using h) (by simp only[many];omega)
 have e':AS Bg many (l,(N:Int),rings,(0:Int),[],(0:Int),())=_:=(Ae _ _ _).trans e
 refine⟨zs,?_,h2⟩
 rw[Kx,Hn]
 simp only[MH (N:Int) rings l h.fr.dom (by omega),hall]
 have hE:Wt (N:Int) rings true=0:=by
  unfold Wt
  simp[Iu.2 h.fr]
 rw[hE]
 simp only[BS,AlM,e']
theorem AMp{N:Nat}(h1:1≤N)(hN:N≤64){rings:List (List Int)}{base:List Edge}(h:FC (N:Int) rings base)(l:List Edge)(hs:base.length+l.length<1073741824)(hb:∀ e∈base,In (N:Int) e.1∧In (N:Int) e.2.1)(ha:∀ e∈l,In (N:Int) e.1∧In (N:Int) e.2.1):
  NQ (((N:Int),(rings,())),l,())=some (gfl base l,0,()):=by
 obtain⟨zs,e,_⟩:=AQw h1 hN h l hs hb ha
 rw[YE,LM]
 simp only[e]
end Go.Pev.Pl
end
section
namespace Go.Pev.Pl
open Tok
end Go.Pev.Pl
end
section
namespace Go.Pev.Pl.SE
open Go.Sort
def ok(_:Int×Int×Unit):Prop:=True
def okz:Int×Int×Unit:=(0,0,())
theorem ACc:ok okz:=trivial
def lt(x y:Int×Int×Unit):Bool:=decide (x.1<y.1∨(x.1=y.1∧x.2.1<y.2.1))
theorem swo:SWO lt:=⟨fun x=>by simp[lt],fun x y z h1 h2=>by simp only[lt,AlI]at *;omega,fun x y z h1 h2=>by simp only[lt,Al7]at *;omega⟩
end Go.Pev.Pl.SE
end
section
namespace Go.Pev.Pl.ST
open Go.Sort
def ok(_:Int×Int×Int×Bool×Unit):Prop:=True
def okz:Int×Int×Int×Bool×Unit:=(0,0,0,false,())
theorem ACc:ok okz:=trivial
def lt(x y:Int×Int×Int×Bool×Unit):Bool:=decide (x.1<y.1∨(x.1=y.1∧x.2.1<y.2.1))
theorem swo:SWO lt:=⟨fun x=>by simp[lt],fun x y z h1 h2=>by simp only[lt,AlI]at *;omega,fun x y z h1 h2=>by simp only[lt,Al7]at *;omega⟩
end Go.Pev.Pl.ST
end
section
namespace Go.Pev.Pl
open Tok
section
variable {α β:Type} [DecidableEq α]
end
end Go.Pev.Pl
end
section
namespace Go.Pev.Pl
open Tok
theorem AiA:∀ (xs b:List Edge),sel xs (gfl b xs)=L5 b xs:=by
 intro xs
 induction xs with
 |nil=>intro b;rfl
 |cons x xs ih=>
  intro b
  have:=ih (b++[x])
  unfold sel at *
  rw[gfl,L5,List.zip_cons_cons,AmQ]
  by_cases h:DH b x.1 x.2.1=true
  ·simp[h,this]
  ·simp[h,this]
theorem Ajn{N:Nat}{b xs:List Edge}(h:Fo N b)(hx:∀ e∈xs,InE N e):Fo N (b++L5 b xs):=by
 have h1:=Od xs b hx
 have h2:cc N (b++xs)=cc N (b++L5 b xs):=AEQ fun a c=>AEK xs b
 unfold Fo at *
 rw[AlN]
 omega
theorem MF{N:Nat}(hN:N≤64):0≤H4 N:=by
 have:((List.range 65).all fun k=>decide (0≤H4 k))=true:=by kernel_rfl
 exact AnE (Ale.1 this N (by simp;omega))
noncomputable def grown(N:Nat)(ts:List Tie)(l:List Edge):List Tie:=Wy ts (CQ N ts l) (gfl (trs ts ts.length) (CQ N ts l)) (CQ N ts l).length
theorem AcQ(N:Nat)(ts:List Tie)(l:List Edge):(grown N ts l).length=ts.length+(CQ N ts l).length:=Ahd ..
theorem AWd(N:Nat)(ts:List Tie)(l:List Edge):(grown N ts l).Perm (ts++AK5 (CQ N ts l) (gfl (trs ts ts.length) (CQ N ts l)) (CQ N ts l).length):=Oi ..
theorem AH1(N:Nat)(ts:List Tie)(l:List Edge):(trs (grown N ts l) (grown N ts l).length).Perm (trs ts ts.length++L5 (trs ts ts.length) (CQ N ts l)):=by
 have:=Ahb ts (xs:=CQ N ts l) (bs:=gfl (trs ts ts.length) (CQ N ts l)) (AMC _ _)
 rw[AiA]at this
 exact this
theorem AH2{N:Nat}(hN:N≤64){ts:List Tie}(ho:oks N ts)(l:List Edge):oks N (grown N ts l):=
 Ahc ho (MF hN) _ (AEL N ts l) (fun e he=>by
  obtain⟨⟨a,b,c,_⟩,_⟩:=(VL N ts l e).1 he
  exact⟨a,b,c⟩) (fun e he=>((VL N ts l e).1 he).2)
theorem Wh{N:Nat}(hN:N≤64)(ts:List Tie)(l:List Edge):∀ e∈CQ N ts l,InE N e:=fun e he=>AgS (AR9 hN ts l e he)
theorem Agl{N:Nat}(hN:N≤64){ts:List Tie}(h:Fo N (trs ts ts.length))(l:List Edge):Fo N (trs (grown N ts l) (grown N ts l).length):=
 (Ajn h (Wh hN ts l)).perm (AH1 N ts l).symm
structure RG2(N:Nat)(ts:List Tie):Prop where
 h1:1≤N
 hN:N≤64
 ht:ts.length≤400
 oks:oks N ts
 fo:Fo N (trs ts ts.length)
theorem RG2.r21{N:Nat}{ts:List Tie}(h:RG2 N ts):B5 (((N:Int),(ts,())),())=some (true,()):=(AOl h.h1 h.hN h.ht h.oks).2 h.fo
theorem RG2.lr{N:Nat}{ts:List Tie}(h:RG2 N ts):GC (((N:Int),(ts,())),())=some (true,()):=by
 obtain⟨b,h1,h2,_⟩:=AEb (N:Int) ts (by have:=h.ht;omega)
 rw[h.r21]at h1
 cases h1
 exact h2
theorem N0(n:Int)(ts:List Tie)(hl:ts.length<4611686018427387904):(B5 ((n,(ts,())),())=some (false,())∧GC ((n,(ts,())),())=some (false,()))∨∃ N:Nat,n=(N:Int)∧RG2 N ts:=by
 obtain⟨b,h1,h2,h3⟩:=AEb n ts hl
 cases b
 ·exact .inl ⟨h1,h2⟩
 ·obtain⟨N,rfl,q1,q2,q3,q4⟩:=h3 rfl
  exact .inr ⟨N,rfl,q1,q2,q3,q4,(AOl q1 q2 q3 q4).1 h1⟩
theorem RG2.inE{N:Nat}{ts:List Tie}(h:RG2 N ts):∀ e∈ts.map ed,In (N:Int) e.1∧In (N:Int) e.2.1:=Akl h.hN h.oks
theorem RG2.inT{N:Nat}{ts:List Tie}(h:RG2 N ts):∀ e∈trs ts ts.length,In (N:Int) e.1∧In (N:Int) e.2.1:=Z5 h.hN h.oks
theorem RG2.Ak8{N:Nat}{ts:List Tie}(h:RG2 N ts):(trs ts ts.length).length≤400:=by have:=Q6 ts ts.length;have:=h.ht;omega
theorem RG2.grown{N:Nat}{ts:List Tie}(h:RG2 N ts){l:List Edge}(hf:ts.length+(CQ N ts l).length≤400):RG2 N (grown N ts l):=
 ⟨h.h1,h.hN,by rw[AcQ];exact hf,AH2 h.hN h.oks l,Agl h.hN h.fo l⟩
end Go.Pev.Pl
end
section
namespace Go.Pev.Pl
open Tok
def Br(u v:Int)(t:Tie):Bool:=decide (t.1=min u v∧t.2.1=max u v)
theorem AWy{N:Nat}{ts:List Tie}(h:RG2 N ts)(u v:Int):AWz (((N:Int),(ts,())),u,v,())=some (if ts.any (Br u v)then((ts.findIdx (Br u v):Nat):Int)else -1,()):=by
 have ht:=h.ht
 rw[Acn,ADs]
 simp only[h.r21,AlM]
 have e:=FZ (step:=KC) (fun i=>(u,v,(N:Int),ts,(i:Int),())) ts (Br u v) (fun i=>.inl ((i:Int),())) (.inr (.inl ())) (by omega)
  (fun i x hi hx=>by
   rw[KC,AM,AK,AlF hi]
   simp only[Af hx,JD,R2,Ak]
   rw[AH (by omega)]
   unfold Br
   by_cases h1:x.1=min u v
   ·by_cases h2:x.2.1=max u v
    ·rw[AlF h1,AlF h2,AlF (show x.1=min u v∧x.2.1=max u v from⟨h1,h2⟩)]
     rfl
    ·rw[AlF h1,AlE h2,AlE (fun h:x.1=min u v∧x.2.1=max u v=>h2 h.2)]
     rfl
   ·rw[AlE h1,AlE (fun h:x.1=min u v∧x.2.1=max u v=>h1 h.1)]
    rfl)
  (by rw[KC,AM,AK,AlE (by omega)])
 have e':AS KC many (u,v,(N:Int),ts,(0:Int),())=_:=e
 rw[e']
 by_cases ha:ts.any (Br u v)=true
 ·rw[AlU ha,AlU ha]
 ·rw[AlQ ha,AlQ ha]
theorem Ag7{N:Nat}{ts:List Tie}(ho:oks N ts){t:Tie}(hm:t∈ts):ts.any (Br t.1 t.2.1)=true∧∃ k,ts.findIdx (Br t.1 t.2.1)=k∧k<ts.length∧ts[k]? = some t:=by
 obtain⟨hv,hp⟩:=(Kp N ts).1 ho
 obtain⟨_,hlt,_⟩:=hv t hm
 have hself:Br t.1 t.2.1 t=true:=by
  unfold Br
  rw[An6 (by omega),AoS (by omega)]
  simp
 refine⟨AmK.2 ⟨t,hm,hself⟩,_,rfl,Ami.2 ⟨t,hm,hself⟩,?_⟩
 have hk:ts.findIdx (Br t.1 t.2.1)<ts.length:=Ami.2 ⟨t,hm,hself⟩
 have hg:=Anw (xs:=ts) (p:=Br t.1 t.2.1) (w:=hk)
 rw[AlK hk]
 obtain⟨j,hj,rfl⟩:=AmN hm
 generalize ts.findIdx (Br ts[j].1 ts[j].2.1)=k at hk hg
 unfold Br at hg
 rw[An6 (by omega),AoS (by omega),Alo]at hg
 rw[AmJ]at hp
 unfold ahead at hp
 rcases AnW j k with h|h|h
 ·have:=hp j k hj hk h;omega
 ·subst h;rfl
 ·have:=hp k j hk hj h;omega
end Go.Pev.Pl
end
end
section
namespace Go.Pev.Pl
open Tok
theorem Adj(ts:List Tie)(t:Tie)(k:Int):trk (ts++[t]) k=trk ts k++if t.2.2.2.1=true∧k≤t.2.2.1 then [ed t]else []:=by
 rw[Bi]
 congr 1
 unfold trk
 rw[AmQ]
 by_cases h:t.2.2.2.1=true∧k≤t.2.2.1
 ·rw[AlU h,h.1,AlF h.2];rfl
 ·rw[AlQ h,AlQ]
  ·rfl
  ·rw[AlL,AlI];exact h
theorem ANx(k:Int):∀ (ts a:List Tie) (acc:List Edge),acc=trk a k→ts.foldl (fun acc t=>if t.2.2.2.1=true∧k≤t.2.2.1 then acc++[ed t]else acc) acc=trk (a++ts) k:=by
 intro ts
 induction ts with
 |nil=>intro a acc h;simpa using h
 |cons t ts ih=>
  intro a acc h
  rw[AmF,ih (a++[t])]
  ·simp
  ·rw[Adj,← h]
   split<;>simp
theorem AYA(ts:List Tie)(k:Int):(trk ts k).length≤ts.length:=by
 unfold trk
 rw[Aly]
 exact Amu _ _
theorem AIv(ts:List Tie)(k:Int):∀ e∈trk ts k,e∈ts.map ed:=by
 intro e he
 obtain⟨t,h1,_,_,rfl⟩:=C8.1 he
 exact Alb.2 ⟨t,h1,rfl⟩
theorem AQo(n:Int)(ts:List Tie)(hs:ts.length≤400)(k:Int):P2 ((n,(ts,())),k,())=some (trk ts k,()):=by
 rw[VY,Mr]
 have e:=CX (step:=Ct) (fun i (a:List Edge)=>(k,a,ts,AO ts,(i:Int),())) ts (fun t a=>.inl (if t.2.2.2.1=true∧k≤t.2.2.1 then a++[ed t]else a)) (fun a=>.inl (a,())) (fun i a=>a.length≤i) (by omega)
  (fun i x a hi hx ha=>by
   refine⟨fun m' h' => ?_,fun r h'=>(by cases h')⟩
   cases h'
   constructor
   ·rw[Ct,AM,AK,AlF hi]
    simp only[Af hx,AM]
    rw[AH (by omega),Ap,A6 (by simp only[AlP,Ala];omega)]
    cases h4:x.2.2.2.1
    ·simp
    ·by_cases h5:k≤x.2.2.1
     ·simp[h5,ed,A1]
     ·simp[h5]
   ·split
    ·rw[AlN];simp;omega
    ·omega)
  (fun a _=>by rw[Ct,AM,AK,AlE (by omega)]) [] (AlS _)
 have e':AS Ct many (k,[],ts,AO ts,(0:Int),())=_:=e
 simp only[e']
 rw[BC (fun(t:Tie) (a:List Edge)=>if t.2.2.2.1=true∧k≤t.2.2.1 then a++[ed t]else a),ANx k ts [] [] rfl]
 rfl
theorem No(n:Int)(ts:List Tie)(hs:ts.length≤400)(k:Int):HQ ((n,(ts,())),k,())=some (trk ts k,()):=by
 rw[Pa,Jo]
 have e:=CX (step:=CM) (fun i (a:List Edge)=>(k,n,ts,a,(i:Int),())) ts (fun t a=>.inl (if t.2.2.2.1=true∧k≤t.2.2.1 then a++[ed t]else a)) (fun a=>.inl (a,())) (fun i a=>a.length≤i) (by omega)
  (fun i x a hi hx ha=>by
   refine⟨fun m' h' => ?_,fun r h'=>(by cases h')⟩
   cases h'
   constructor
   ·rw[CM,AM,AK,AlF hi]
    simp only[Af hx,AM]
    rw[AH (by omega),Ap,A6 (by simp only[AlP,Ala];omega)]
    cases h4:x.2.2.2.1
    ·simp
    ·by_cases h5:k≤x.2.2.1
     ·simp[h5,ed,A1]
     ·simp[h5]
   ·split
    ·rw[AlN];simp;omega
    ·omega)
  (fun a _=>by rw[CM,AM,AK,AlE (by omega)]) [] (AlS _)
 have e':AS CM many (k,n,ts,[],(0:Int),())=_:=e
 simp only[e']
 rw[BC (fun(t:Tie) (a:List Edge)=>if t.2.2.2.1=true∧k≤t.2.2.1 then a++[ed t]else a),ANx k ts [] [] rfl]
 rfl
theorem Z7{N:Nat}{ts:List Tie}(h:oks N ts):trs ts ts.length=trk ts 0:=by
 rw[AIu]
 unfold trk
 congr 1
 refine Am2 fun t ht => ?_
 have:=((Kp N ts).1 h).1 t ht
 rw[AlF this.2.2.2.1,An0]
theorem RG2.inK{N:Nat}{ts:List Tie}(h:RG2 N ts)(k:Int):∀ e∈trk ts k,In (N:Int) e.1∧In (N:Int) e.2.1:=fun e he=>h.inE e (AIv ts k e he)
theorem RG2.AkZ{N:Nat}{ts:List Tie}(h:RG2 N ts)(k:Int):(trk ts k).length≤400:=AmO (AYA ts k) h.ht
theorem RG2.Aki{N:Nat}{ts:List Tie}(h:RG2 N ts)(k:Int):∃ zs,OS (((N:Int),(ts,())),k,())=some (((N:Int),(zs,())),0,())∧FC (N:Int) zs (trk ts k):=by
 have hl:=h.AkZ k
 have h1:=h.h1
 have hN:=h.hN
 rcases(AZD (N:Int) (trk ts k) ⟨by omega,by omega⟩ (by omega)).symm with⟨hno,_⟩|⟨_,zs,e,hF⟩
 ·exact absurd (h.inK k) hno
 refine⟨zs,?_,hF⟩
 rw[P5,J3]
 simp only[h.lr,AlM,AQo (N:Int) ts h.ht k,e]
theorem RG2.AZJ{N:Nat}{ts:List Tie}(h:RG2 N ts)(k:Int):∃ out,DO ((N:Int),trk ts k,())=some (out,())∧L6 (N:Int) (trk ts k) out:=by
 have:=h.AkZ k
 have h1:=h.h1
 have hN:=h.hN
 exact Ck (N:Int) (trk ts k) ⟨by omega,by omega⟩ (by omega) (h.inK k)
end Go.Pev.Pl
end
section
namespace Go.Pev.Pl
open Tok
noncomputable def Jv(p:Prop):Bool:=@decide p (Classical.propDecidable _)
theorem E3(p:Prop):Jv p=true↔p:=by
 unfold Jv
 exact @decide_eq_true_iff _ (Classical.propDecidable _)
theorem RP{p:Prop}{b:Bool}(h:b=true↔p):b=Jv p:=by rw[AmL,E3];exact h
def ASf(ts:List Tie):Prop:=∀ e∈ts.map ed,Con (trk ts 0) e.1 e.2.1
def AdR(ts:List Tie):Prop:=∀ t∈ts,t.2.2.2.1=false→Con (trk ts t.2.2.1) t.1 t.2.1
def AIY(N:Nat)(ts:List Tie):Prop:=∀ k:Nat,(k:Int)≤H4 N→∀ v:Nat,v<N→csz N (trk ts k) v≤max 1 (N/2 ^ k)
theorem Ac6{N:Nat}(h1:1≤N)(hN:N≤64){l l':List Edge}{o o':List Int}(hc:L6 (N:Int) l o)(hc':L6 (N:Int) l' o')(hl:∀ e∈l,In (N:Int) e.1∧In (N:Int) e.2.1)(hl':∀ e∈l',In (N:Int) e.1∧In (N:Int) e.2.1):
  o=o'↔(∀ e∈l,Con l' e.1 e.2.1)∧(∀ e∈l',Con l e.1 e.2.1):=by
 constructor
 ·rintro rfl
  refine⟨fun e he => ?_,fun e he => ?_⟩
  ·obtain⟨i1,i2⟩:=hl e he
   exact(hc'.same _ _ i1 i2).1 ((hc.same _ _ i1 i2).2 (.edge e he))
  ·obtain⟨i1,i2⟩:=hl' e he
   exact(hc.same _ _ i1 i2).1 ((hc'.same _ _ i1 i2).2 (.edge e he))
 ·rintro⟨q1,q2⟩
  exact L6.unique h1 hN hc (L6.congr (fun a b=>⟨fun c=>c.cut q2,fun c=>c.cut q1⟩) hc')
noncomputable def AVP(ts:List Tie)(t:Tie):Bool := !t.2.2.2.1 && !DH (trk ts t.2.2.1) t.1 t.2.1
theorem Aij(ts:List Tie):(!ts.any (AVP ts))=Jv (AdR ts):=by
 refine RP ?_
 rw[AmV,Ams]
 unfold AVP AdR
 constructor
 ·intro h t ht hf
  have:=h t ht
  rw[hf]at this
  rw[← BV]
  simpa using this
 ·intro h t ht
  cases hf:t.2.2.2.1
  ·have:=h t ht hf
   rw[← BV]at this
   simp[this]
  ·simp
theorem RG2.tie{N:Nat}{ts:List Tie}(h:RG2 N ts){t:Tie}(ht:t∈ts):In (N:Int) t.1∧In (N:Int) t.2.1∧t.1<t.2.1∧0≤t.2.2.1∧t.2.2.1≤H4 N:=by
 have h1:=((Kp N ts).1 h.oks).1 t ht
 have h2:=h.inE (ed t) (Alb.2 ⟨t,ht,rfl⟩)
 exact⟨h2.1,h2.2,h1.2.1,h1.2.2.2.1,h1.2.2.2.2⟩
end Go.Pev.Pl
end
section
namespace Go.Pev.Pl
open Tok
noncomputable def AMz(N:Nat)(ts:List Tie)(k:Nat):Bool:=(List.range N).any fun v=>decide (max 1 (N/2 ^ k)<csz N (trk ts k) (v:Int))
def Bc(N:Nat):Nat:=(H4 N).toNat
theorem FI{N:Nat}(hN:N≤64):H4 N=(Bc N:Int):=by
 have:=MF hN
 unfold Bc
 omega
theorem AI6{N:Nat}(hN:N≤64):Bc N<64:=by
 have:((List.range 65).all fun k=>decide (H4 k<64))=true:=by kernel_rfl
 have h1:=AnE (Ale.1 this N (by simp;omega))
 have:=FI hN
 omega
theorem AhZ{N:Nat}(hN:N≤64)(ts:List Tie):(!(List.range (Bc N+1)).any (AMz N ts))=Jv (AIY N ts):=by
 refine RP ?_
 rw[AmV,Ams]
 unfold AMz AIY
 constructor
 ·intro h k hk v hv
  have h1:=h k (by rw[AmI];have:=FI hN;omega)
  rw[Bool.not_eq_true,Ams]at h1
  have:=h1 v (by simpa using hv)
  rw[Alo]at this
  omega
 ·intro h k hk
  rw[AmI]at hk
  rw[Bool.not_eq_true,Ams]
  intro v hv
  have:=h k (by rw[FI hN];omega) v (by simpa using hv)
  rw[Alo]
  omega
theorem OX(N:Nat)(l:List Edge)(v:Int):csz N l v≤N:=by
 unfold csz
 have:=List.countP_le_length (p:=fun(w:Nat)=>DH l v (w:Int)) (l:=List.range N)
 rw[Ali]at this
 exact this
theorem AdT(n:Nat)(h:n<18446744073709551616):IntKind.wrap .u64 (n:Int)=(n:Int):=IntWalk.u64_in _ (by omega)
theorem Snd.parts{N:Nat}{ts:List Tie}(h:RG2 N ts)(hs:Snd N (Bc N:Int) ts):ASf ts∧AdR ts∧AIY N ts:=by
 refine⟨fun e he=>(hs.span _ _).1 (.edge e he),hs.lie,fun k hk v hv=>hs.halv k (by rw[← FI h.hN];exact hk) v hv⟩
end Go.Pev.Pl
end
section
namespace Go.Pev.Pl
open Tok
theorem Ahu{N:Nat}(hN:N≤64):N/2 ^ Bc N≤1:=by
 have:((List.range 65).all fun k=>decide (k/2 ^ Bc k≤1))=true:=by kernel_rfl
 exact AnE (Ale.1 this N (by simp;omega))
theorem RG2.below{N:Nat}{ts:List Tie}(h:RG2 N ts)(hs:Snd N (Bc N:Int) ts){t:Tie}(ht:t∈ts):t.2.2.1<(Bc N:Int):=
 hs.below (Ahu h.hN) ht (by have:=(h.tie ht).2.2.1;omega)
end Go.Pev.Pl
end
section
namespace Go.Pev.Pl
open Tok
noncomputable def Ek(N:Nat)(l:List Edge)(v:Int):List Int:=((List.range N).filter fun(w:Nat)=>DH l v (w:Int)).map fun(w:Nat)=>(w:Int)
theorem IJ(N:Nat)(l:List Edge)(v:Int):(Ek N l v).length=csz N l v:=by
 unfold Ek csz
 rw[Aly,List.countP_eq_length_filter]
theorem ACh{N:Nat}{l:List Edge}{v x:Int}:x∈Ek N l v↔(0≤x∧x<(N:Int))∧Con l v x:=by
 unfold Ek
 simp only[Alb,Alz,AmI,BV]
 constructor
 ·rintro⟨w,⟨h1,h2⟩,rfl⟩
  exact⟨by omega,h2⟩
 ·rintro⟨⟨h1,h2⟩,h3⟩
  obtain⟨w,rfl⟩:=AlR h1
  exact⟨w,⟨by omega,h3⟩,rfl⟩
theorem EJ{N:Nat}(h1:1≤N)(hN:N≤64)(ts:List Tie)(ht:ts.length≤400)(hin:∀ e∈ts.map ed,In (N:Int) e.1∧In (N:Int) e.2.1)(v:Nat)(hv:v<N)(k:Int):GA (((N:Int),(ts,())),(v:Int),k,())=some (Ek N (trk ts k) (v:Int),()):=by
 obtain⟨o,e1,c1⟩:=Ck (N:Int) (trk ts k) ⟨by omega,by omega⟩ (by have:=AYA ts k;omega) (fun e he=>hin e (AIv ts k e he))
 have ho:o.length=N:=by have:=c1.len;omega
 have hi:∀ k:Nat,k<N→In (N:Int) (k:Int):=fun k hk=>AgR h1 hN ⟨by omega,by omega⟩
 have hg:∀ k:Nat,o.getD k 0=cl o (k:Int):=fun k=>by unfold cl;rw[AmA]
 rw[Rl,JA]
 simp only[No (N:Int) ts ht,e1]
 have e:=CX (step:=C7) (fun i (a:List Int)=>((v:Int),(N:Int),ts,o,a,(i:Int),())) (List.range N) (fun(w:Nat) a=>.inl (if DH (trk ts k) (v:Int) (w:Int)=true then a++[(w:Int)]else a)) (fun a=>.inl (a,())) (fun i a=>a.length≤i) (by simp;omega)
  (fun i x a hx0 hx ha=>by
   refine⟨fun m' h' => ?_,fun r h'=>(by cases h')⟩
   cases h'
   have:=CA hx
   subst this
   rw[Ali]at hx0
   constructor
   ·rw[C7,AK,AlF hx0]
    simp only[CJ 0 (show x<o.length by omega),CJ 0 (show v<o.length by omega),EF,Ak]
    rw[A6 (by simp only[AM,AlP,Ala];omega),AH (by omega)]
    have:decide (o.getD x 0=o.getD v 0)=DH (trk ts k) (v:Int) (x:Int):=by
     rw[AmL,Alo,BV,hg,hg,c1.same _ _ (hi x hx0) (hi v hv)]
     exact⟨fun c=>c.symm,fun c=>c.symm⟩
    rw[this]
    cases DH (trk ts k) (v:Int) (x:Int)<;>simp[A1]
   ·split
    ·rw[AlN];simp;omega
    ·omega)
  (fun a _=>by rw[C7,Ali,AK,AlE (by omega)]) [] (AlS _)
 have e':AS C7 many ((v:Int),(N:Int),ts,o,[],(0:Int),())=_:=e
 simp only[e']
 rw[BC (fun(w:Nat) (a:List Int)=>if DH (trk ts k) (v:Int) (w:Int)=true then a++[(w:Int)]else a),HY (fun w:Nat=>DH (trk ts k) (v:Int) (w:Int)=true) (fun w:Nat=>(w:Int))]
 unfold Ek
 simp
theorem OV(l:List Int)(x:Int)(hs:l.length<1073741824):M5 (l,x,())=some (decide (x∈l),()):=by
 rw[Agi,ALx]
 have e:=FZ (step:=M4) (fun i=>(l,x,(i:Int),())) l (fun y=>decide (y=x)) (fun _=>.inl (true,())) (.inr (.inl ())) (by omega)
  (fun i y hi hy=>by
   rw[M4,AM,AK,AlF hi]
   simp only[Af hy,Ak]
   rw[AH (by omega)]
   by_cases h:y=x<;>simp[h])
  (by rw[M4,AM,AK,AlE (by omega)])
 have e':AS M4 many (l,x,(0:Int),())=_:=e
 simp only[e']
 rw[AM8]
 by_cases h:x∈l
 ·simp[h]
 ·simp[h]
theorem Rz(n:Int)(ts:List Tie)(v:Int):AGJ ((n,(ts,())),v,())=some (decide (0≤v∧v<n),()):=by
 rw[AY3,ALl,Ap]
 by_cases h:0≤v
 ·rw[AlF h,Al]
  by_cases h2:v<n
  ·rw[AlF h2,AlF (show 0≤v∧v<n from⟨h,h2⟩)]
  ·rw[AlE h2,AlE (fun q:0≤v∧v<n=>h2 q.2)]
 ·rw[AlE h,AlE (fun q:0≤v∧v<n=>h q.1)]
noncomputable def BP(N:Nat)(ts:List Tie)(u v k:Int):List Int:=
 if Jv (RG2 N ts)=true then
  if DH (trk ts k) u v=true then []else
  if csz N (trk ts k) u<csz N (trk ts k) v∨(csz N (trk ts k) u=csz N (trk ts k) v∧(Ek N (trk ts k) u).headD 0<(Ek N (trk ts k) v).headD 0)then Ek N (trk ts k) u else Ek N (trk ts k) v
 else []
theorem AHD(N:Nat)(ts:List Tie)(u v k:Int):(BP N ts u v k).length≤N:=by
 unfold BP
 have h1:=OX N (trk ts k) u
 have h2:=OX N (trk ts k) v
 split
 ·split
  ·simp
  ·split
   ·rw[IJ];exact h1
   ·rw[IJ];exact h2
 ·simp
theorem OJ{N:Nat}{l:List Edge}{v:Nat}(hv:v<N):idx (Ek N l (v:Int)) (0:Int)=some ((Ek N l (v:Int)).headD 0):=by
 have:(v:Int)∈Ek N l (v:Int):=ACh.2 ⟨⟨by omega,by omega⟩,.refl _⟩
 cases hm:Ek N l (v:Int)with
 |nil=>rw[hm]at this;cases this
 |cons a b=>rw[FU];rfl
theorem AAd{N:Nat}(hN:N≤64)(ts:List Tie)(ht:ts.length≤400)(u v:Nat)(hu:u<N)(hv:v<N)(k:Int):∃ e,AJf (((N:Int),(ts,())),(u:Int),(v:Int),k,())=some (BP N ts u v k,e,()):=by
 rw[To,MM]
 rcases N0 (N:Int) ts (by omega)with⟨r,_⟩|⟨N',hn,h⟩
 ·have:Jv (RG2 N ts)=false:=by
   rw[← Bool.not_eq_true,E3]
   intro h
   rw[h.r21]at r;cases r
  refine⟨1,?_⟩
  unfold BP
  rw[this]
  simp only[r,Alk]
  rfl
 ·have:N'=N:=by omega
  subst this
  have hu1:=EJ h.h1 h.hN ts ht h.inE u hu k
  have hv1:=EJ h.h1 h.hN ts ht h.inE v hv k
  have l1:=IJ N' (trk ts k) (u:Int)
  have l2:=IJ N' (trk ts k) (v:Int)
  have b1:=OX N' (trk ts k) (u:Int)
  have hh:=OV (Ek N' (trk ts k) (u:Int)) (v:Int) (by omega)
  have hd:decide ((v:Int)∈Ek N' (trk ts k) (u:Int))=DH (trk ts k) (u:Int) (v:Int):=by
   rw[AmL,Alo,BV,ACh]
   exact⟨fun q=>q.2,fun q=>⟨⟨by omega,by omega⟩,q⟩⟩
  rw[hd]at hh
  unfold BP
  rw[(E3 _).2 h,AlU rfl]
  simp only[h.r21,AlM,Rz,hu1,hv1,hh]
  rw[AlF (show 0≤(u:Int)∧(u:Int)<(N':Int) by omega),AlF (show 0≤(v:Int)∧(v:Int)<(N':Int) by omega)]
  simp only[AlM]
  cases hc:DH (trk ts k) (u:Int) (v:Int)
  ·simp only[AlV,AlW,AM,l1,l2,AK,R3]
   by_cases q1:csz N' (trk ts k) (u:Int)<csz N' (trk ts k) (v:Int)
   ·rw[AlF q1,AlU (.inl q1)]
    exact⟨0,rfl⟩
   ·rw[AlE q1]
    by_cases q2:csz N' (trk ts k) (u:Int)=csz N' (trk ts k) (v:Int)
    ·rw[AlF q2]
     have hg:∀ l:List Int,AP l 0 0=l.headD 0:=fun l=>by cases l<;>rfl
     simp only[OJ hu,OJ hv,hg,Al]
     by_cases q3:(Ek N' (trk ts k) (u:Int)).headD 0<(Ek N' (trk ts k) (v:Int)).headD 0
     ·rw[AlF q3,AlU (.inr ⟨q2,q3⟩)]
      exact⟨0,rfl⟩
     ·rw[AlE q3,AlQ (fun q=>by rcases q with q|q;exact q1 q;exact q3 q.2)]
      exact⟨0,rfl⟩
    ·rw[AlE q2,AlQ (fun q=>by rcases q with q|q;exact q1 q;exact q2 q.1)]
     exact⟨0,rfl⟩
  ·simp only[Alm]
   exact⟨5,rfl⟩
end Go.Pev.Pl
end
section
namespace Go.Pev.Pl
open Tok
abbrev W23:=Int×Bool×Bool×Int×Int×Int×Int×Int×Int×Bool
theorem Q1{α:Type}{A R:List α}{x:α}{i:Nat}(h:A.length=i):(A++x::R)[i]? = some x:=by
 rw[Al8 (by omega),h,AnA];rfl
theorem KS{α:Type}{A R:List α}{x y:α}{i:Nat}(h:A.length=i):An (A++x::R) (AF (i:Int)) y=A++y::R:=by
 rw[AD1,List.set_append_right _ _ (by omega),h,AnA];rfl
noncomputable def Ab(s:List Int)(w:Int):Bool:=decide (w∈s)
def Ft(S:Int→Bool)(i:Int)(ts:List Tie):Nat:=ts.countP fun t=>t.2.2.2.1&&(decide (t.2.2.1=i)&&both S t)
theorem AQV(w:W23)(wt wf:Bool)(bu bv top:Int)(i:Nat)(hi:i<64)(s:List Int)(hs:s.length≤64)(n:Int)(b:Bool)(O:List Tie)(hO:O.length≤400)(r:Nat)(hr:r<1073741824):
  AS Jz many (w.1,w.2.1,w.2.2.1,w.2.2.2.1,w.2.2.2.2.1,w.2.2.2.2.2.1,w.2.2.2.2.2.2.1,w.2.2.2.2.2.2.2.1,w.2.2.2.2.2.2.2.2.1,w.2.2.2.2.2.2.2.2.2,n,O,wt,wf,bu,bv,(r:Int),top,(i:Int),s,(0:Int),b,()) =
  some (.inl (w.1,w.2.1,w.2.2.1,w.2.2.2.1,w.2.2.2.2.1,w.2.2.2.2.2.1,w.2.2.2.2.2.2.1,w.2.2.2.2.2.2.2.1,w.2.2.2.2.2.2.2.2.1,w.2.2.2.2.2.2.2.2.2,n,O.map (rT (Ab s) top i),wt,wf,bu,bv,((r+Ft (Ab s) i O:Nat):Int),top,(i:Int),s,b,())):=by
 obtain⟨w0,w1,w2,w3,w4,w5,w6,w7,w8,w9⟩:=w
 simp only
 have key:∀ (R A:List Tie) (j cnt q:Nat),A.length=j→A.length+R.length=O.length→R.length<cnt→q+R.length<2147483648 →
   AQ Jz cnt (w0,w1,w2,w3,w4,w5,w6,w7,w8,w9,n,A++R,wt,wf,bu,bv,(q:Int),top,(i:Int),s,(j:Int),b,()) =
   some (.inl (w0,w1,w2,w3,w4,w5,w6,w7,w8,w9,n,A++R.map (rT (Ab s) top i),wt,wf,bu,bv,((q+Ft (Ab s) i R:Nat):Int),top,(i:Int),s,b,())):=by
  intro R
  induction R with
  |nil=>
   intro A j cnt q hA hl hc hq
   obtain⟨cnt,rfl⟩:∃ c,cnt=c+1:=⟨cnt-1,by omega⟩
   rw[AQ,Jz,AM,AK,AlE (by simp;omega)]
   simp[Ft]
  |cons x R ih=>
   intro A j cnt q hA hl hc hq
   obtain⟨cnt,rfl⟩:∃ c,cnt=c+1:=⟨cnt-1,by omega⟩
   rw[AlP]at hl hc hq
   have hg:=Q1 (R:=R) (x:=x) hA
   have next:∀ (y:Tie) (q':Nat),q'+R.length<2147483648→rT (Ab s) top i x=y→q'+Ft (Ab s) i R=q+Ft (Ab s) i (x::R) →
     AQ Jz cnt (w0,w1,w2,w3,w4,w5,w6,w7,w8,w9,n,A++y::R,wt,wf,bu,bv,(q':Int),top,(i:Int),s,((j+1:Nat):Int),b,()) =
     some (.inl (w0,w1,w2,w3,w4,w5,w6,w7,w8,w9,n,A++(x::R).map (rT (Ab s) top i),wt,wf,bu,bv,((q+Ft (Ab s) i (x::R):Nat):Int),top,(i:Int),s,b,())):=by
    intro y q' hq' hy hcnt
    have:=ih (A++[y]) (j+1) cnt q' (by simp[hA]) (by simp;omega) (by omega) hq'
    rw[Alv]at this
    rw[Ama]at this
    rw[this,hcnt,Ald,hy,Alv]
    rfl
   have hcc:Ft (Ab s) i (x::R)=Ft (Ab s) i R+if(x.2.2.2.1&&(decide (x.2.2.1=(i:Int))&&both (Ab s) x))=true then 1 else 0:=by
    unfold Ft
    rw[AnS]
   rw[AQ,Jz,AM,AK,AlF (by simp;omega)]
   simp only[Af hg,CU hg]
   rw[AH (show j+1<9223372036854775808 by omega),AH (show q+1<9223372036854775808 by omega),Ak]
   simp only[OV s _ (show s.length<1073741824 by omega)]
   cases h4:x.2.2.2.1
   ·simp only[]
    refine next x q (by omega) ?_ ?_
    ·exact E2 h4
    ·rw[hcc,h4];simp
   ·by_cases h3:x.2.2.1=(i:Int)
    ·rw[AlF h3]
     simp only[]
     by_cases h1:x.1∈s
     ·rw[AlF h1]
      simp only[]
      by_cases h2:x.2.1∈s
      ·rw[AlF h2]
       simp only[]
       have hb:both (Ab s) x=true:=by unfold both Ab;rw[AlF h1,AlF h2];rfl
       rw[KS hA,JD,AH (show i+1<9223372036854775808 by omega)]
       refine next _ (q+1) (by omega) ?_ ?_
       ·unfold rT
        rw[AlU ⟨h4,h3,hb⟩]
        unfold FL
        rw[h3,h4]
        rfl
       ·rw[hcc,h4,AlF h3,hb];simp;omega
      ·rw[AlE h2]
       simp only[]
       have hb:both (Ab s) x=false:=by unfold both Ab;rw[AlE h2,Ana]
       refine next x q (by omega) ?_ ?_
       ·unfold rT
        rw[AlQ (fun hh=>by rw[hb]at hh;exact absurd hh.2.2 (by simp))]
       ·rw[hcc,hb];simp
     ·rw[AlE h1]
      simp only[]
      have hb:both (Ab s) x=false:=by unfold both Ab;rw[AlE h1,Amm]
      refine next x q (by omega) ?_ ?_
      ·unfold rT
       rw[AlQ (fun hh=>by rw[hb]at hh;exact absurd hh.2.2 (by simp))]
      ·rw[hcc,hb];simp
    ·rw[AlE h3]
     simp only[]
     refine next x q (by omega) ?_ ?_
     ·unfold rT
      rw[AlQ (fun hh=>h3 hh.2.1)]
     ·rw[hcc,AlE h3];simp
 have:=key O [] 0 many r rfl (by simp) (by simp only[many];omega) (by omega)
 rw[Ae]
 exact this
theorem AKy(w:W23)(wt wf:Bool)(bu bv top:Int)(i:Nat)(hi:i<64)(s:List Int)(hs:s.length≤64)(n:Int)(b:Bool)(O:List Tie)(hO:O.length≤400)(r:Nat)(hr:r<1073741824):
  AS Jy many (w.1,w.2.1,w.2.2.1,w.2.2.2.1,w.2.2.2.2.1,w.2.2.2.2.2.1,w.2.2.2.2.2.2.1,w.2.2.2.2.2.2.2.1,w.2.2.2.2.2.2.2.2.1,w.2.2.2.2.2.2.2.2.2,n,O,wt,wf,bu,bv,(r:Int),top,(i:Int),s,(0:Int),b,()) =
  some (match(Aq (Ab s) top i O).2.2 with
   |some e=>.inl (n,(Aq (Ab s) top i O).1,wt,true,e.1,e.2.1,((r+(Aq (Ab s) top i O).2.1:Nat):Int),(0:Int),())
   |none=>.inr (.inl (w.1,w.2.1,w.2.2.1,w.2.2.2.1,w.2.2.2.2.1,w.2.2.2.2.2.1,w.2.2.2.2.2.2.1,w.2.2.2.2.2.2.2.1,w.2.2.2.2.2.2.2.2.1,w.2.2.2.2.2.2.2.2.2,n,(Aq (Ab s) top i O).1,wt,wf,bu,bv,((r+(Aq (Ab s) top i O).2.1:Nat):Int),top,(i:Int),b,()))):=by
 obtain⟨w0,w1,w2,w3,w4,w5,w6,w7,w8,w9⟩:=w
 simp only
 have key:∀ (R A:List Tie) (j cnt q:Nat),A.length=j→A.length+R.length=O.length→R.length<cnt→q+R.length<2147483648 →
   AQ Jy cnt (w0,w1,w2,w3,w4,w5,w6,w7,w8,w9,n,A++R,wt,wf,bu,bv,(q:Int),top,(i:Int),s,(j:Int),b,()) =
   some (match(Aq (Ab s) top i R).2.2 with
    |some e=>.inl (n,A++(Aq (Ab s) top i R).1,wt,true,e.1,e.2.1,((q+(Aq (Ab s) top i R).2.1:Nat):Int),(0:Int),())
    |none=>.inr (.inl (w0,w1,w2,w3,w4,w5,w6,w7,w8,w9,n,A++(Aq (Ab s) top i R).1,wt,wf,bu,bv,((q+(Aq (Ab s) top i R).2.1:Nat):Int),top,(i:Int),b,()))):=by
  intro R
  induction R with
  |nil=>
   intro A j cnt q hA hl hc hq
   obtain⟨cnt,rfl⟩:∃ c,cnt=c+1:=⟨cnt-1,by omega⟩
   rw[AQ,Jy,AM,AK,AlE (by simp;omega)]
   rfl
  |cons x R ih=>
   intro A j cnt q hA hl hc hq
   obtain⟨cnt,rfl⟩:∃ c,cnt=c+1:=⟨cnt-1,by omega⟩
   rw[AlP]at hl hc hq
   have hg:=Q1 (R:=R) (x:=x) hA
   have next:∀ (y:Tie) (q':Nat),q'+R.length<2147483648→Aq (Ab s) top i (x::R)=(y::(Aq (Ab s) top i R).1,(Aq (Ab s) top i R).2.1+(q'-q),(Aq (Ab s) top i R).2.2)→q≤q' →
     AQ Jy cnt (w0,w1,w2,w3,w4,w5,w6,w7,w8,w9,n,A++y::R,wt,wf,bu,bv,(q':Int),top,(i:Int),s,((j+1:Nat):Int),b,()) =
     some (match(Aq (Ab s) top i (x::R)).2.2 with
     |some e=>.inl (n,A++(Aq (Ab s) top i (x::R)).1,wt,true,e.1,e.2.1,((q+(Aq (Ab s) top i (x::R)).2.1:Nat):Int),(0:Int),())
     |none=>.inr (.inl (w0,w1,w2,w3,w4,w5,w6,w7,w8,w9,n,A++(Aq (Ab s) top i (x::R)).1,wt,wf,bu,bv,((q+(Aq (Ab s) top i (x::R)).2.1:Nat):Int),top,(i:Int),b,()))):=by
    intro y q' hq' hy hqq
    have:=ih (A++[y]) (j+1) cnt q' (by simp[hA]) (by simp;omega) (by omega) hq'
    rw[Alv,Ama]at this
    rw[this,hy]
    have e1:A++[y]++(Aq (Ab s) top i R).1=A++y::(Aq (Ab s) top i R).1:=by simp
    have e2:q'+(Aq (Ab s) top i R).2.1=q+((Aq (Ab s) top i R).2.1+(q'-q)):=by omega
    rw[e1,e2]
   rw[AQ,Jy,AM,AK,AlF (by simp;omega)]
   simp only[Af hg,CU hg]
   rw[AH (show j+1<9223372036854775808 by omega),AH (show q+1<9223372036854775808 by omega),Ak]
   simp only[OV s _ (show s.length<1073741824 by omega)]
   have skip:(x.2.2.2.1=true∨x.2.2.1≠(i:Int))→Aq (Ab s) top i (x::R)=(x::(Aq (Ab s) top i R).1,(Aq (Ab s) top i R).2.1+(q-q),(Aq (Ab s) top i R).2.2):=fun h=>by
    rw[Aq,AlU h,AnA];rfl
   cases h4:x.2.2.2.1
   ·simp only[]
    by_cases h3:x.2.2.1=(i:Int)
    ·rw[AlF h3]
     simp only[AlM]
     have hn:¬ (x.2.2.2.1=true∨x.2.2.1≠(i:Int)):=by rw[h4];simp[h3]
     have found:∀ (hne:Dl (Ab s) x) (hnb:both (Ab s) x=false),Aq (Ab s) top i (x::R)=(Cm x::R,0,some (ed x)):=fun hne hnb=>by
      rw[Aq,AlQ hn,AlQ (by rw[hnb];simp),AlU hne]
     by_cases h1:x.1∈s
     ·rw[AlF h1]
      simp only[]
      by_cases h2:x.2.1∈s
      ·rw[AlF h2]
       simp only[]
       have hb:both (Ab s) x=true:=by unfold both Ab;rw[AlF h1,AlF h2];rfl
       rw[KS hA,JD,AH (show i+1<9223372036854775808 by omega)]
       refine next _ (q+1) (by omega) ?_ (by omega)
       rw[Aq,AlQ hn,AlU hb]
       unfold FL
       rw[h3,h4,show q+1-q=1 by omega]
       rfl
      ·rw[AlE h2]
       simp only[]
       have hb:both (Ab s) x=false:=by unfold both Ab;rw[AlE h2,Ana]
       have hne:Dl (Ab s) x:=by unfold Dl Ab;rw[AlF h1,AlE h2];simp
       rw[KS hA,found hne hb]
       simp only[]
       unfold Cm ed
       rfl
     ·rw[AlE h1]
      simp only[]
      by_cases h2:x.2.1∈s
      ·rw[AlF h2]
       simp only[]
       have hb:both (Ab s) x=false:=by unfold both Ab;rw[AlE h1,Amm]
       have hne:Dl (Ab s) x:=by unfold Dl Ab;rw[AlE h1,AlF h2];simp
       rw[KS hA,found hne hb]
       simp only[]
       unfold Cm ed
       rfl
      ·rw[AlE h2]
       simp only[]
       refine next x q (by omega) ?_ (AlS _)
       have hb:both (Ab s) x=false:=by unfold both Ab;rw[AlE h1,Amm]
       have hne:¬ Dl (Ab s) x:=by unfold Dl Ab;rw[AlE h1,AlE h2];simp
       rw[Aq,AlQ hn,AlQ (by rw[hb];simp),AlQ hne,AnA]
       rfl
    ·rw[AlE h3]
     simp only[Alk]
     exact next x q (by omega) (skip (.inr h3)) (AlS _)
   ·simp only[]
    exact next x q (by omega) (skip (.inl h4)) (AlS _)
 have:=key O [] 0 many r rfl (by simp) (by simp only[many];omega) (by omega)
 rw[Ae]
 exact this
end Go.Pev.Pl
end
section
namespace Go.Pev.Pl
open Tok
noncomputable def HB(N u v:Nat)(top:Int):Nat→List Tie→Nat→List Tie×Option Edge×Nat
 |0,O,r=>(O,none,r)
 |i+1,O,r=>match(Aq (Ab (BP N O u v i)) top i (O.map (rT (Ab (BP N O u v i)) top i))).2.2 with
  |some e=>((Aq (Ab (BP N O u v i)) top i (O.map (rT (Ab (BP N O u v i)) top i))).1,some e,r+Ft (Ab (BP N O u v i)) i O+(Aq (Ab (BP N O u v i)) top i (O.map (rT (Ab (BP N O u v i)) top i))).2.1)
  |none=>HB N u v top i (Aq (Ab (BP N O u v i)) top i (O.map (rT (Ab (BP N O u v i)) top i))).1 (r+Ft (Ab (BP N O u v i)) i O+(Aq (Ab (BP N O u v i)) top i (O.map (rT (Ab (BP N O u v i)) top i))).2.1)
theorem N9(S:Int→Bool)(top i:Int):∀ ts:List Tie,(Aq S top i ts).1.length=ts.length∧(Aq S top i ts).2.1≤ts.length:=by
 intro ts
 induction ts with
 |nil=>exact⟨rfl,AlS _⟩
 |cons t ts ih=>
  rw[Aq]
  split
  ·exact⟨by simp[ih.1],by have:=ih.2;simp;omega⟩
  ·split
   ·exact⟨by simp[ih.1],by have:=ih.2;simp;omega⟩
   ·split
    ·exact⟨by simp,by simp⟩
    ·exact⟨by simp[ih.1],by have:=ih.2;simp;omega⟩
theorem AfI(S:Int→Bool)(top i:Int):∀ ts:List Tie,(Aq S top i ts).1.map ed=ts.map ed:=by
 intro ts
 induction ts with
 |nil=>rfl
 |cons t ts ih=>
  rw[Aq]
  split
  ·rw[Ald,Ald,ih]
  ·split
   ·rw[Ald,Ald,ih];rfl
   ·split
    ·rw[Ald,Ald];rfl
    ·rw[Ald,Ald,ih]
theorem AMa(S:Int→Bool)(i:Int)(ts:List Tie):Ft S i ts≤ts.length:=List.countP_le_length
theorem AKx{N:Nat}(hN:N≤64)(u v:Nat)(hu:u<N)(hv:v<N)(top w8:Int):
  ∀ (m:Nat) (O:List Tie) (r cnt:Nat),m≤64→O.length≤400→r+1000*m<1073741824→m<cnt →
  AQ IH cnt ((0:Int),false,false,(0:Int),(0:Int),(0:Int),(u:Int),(v:Int),w8,true,(N:Int),O,true,false,(0:Int),(0:Int),(r:Int),top,(m:Int)-1,()) =
  some (match(HB N u v top m O r).2.1 with
   |some e=>.inl ((N:Int),(HB N u v top m O r).1,true,true,e.1,e.2.1,((HB N u v top m O r).2.2:Int),(0:Int),())
   |none=>.inr (.inl ((0:Int),false,false,(0:Int),(0:Int),(0:Int),(N:Int),(HB N u v top m O r).1,true,false,(0:Int),(0:Int),((HB N u v top m O r).2.2:Int),()))):=by
 intro m
 induction m with
 |zero=>
  intro O r cnt hm hO hr hc
  obtain⟨cnt,rfl⟩:∃ c,cnt=c+1:=⟨cnt-1,by omega⟩
  rw[AQ,IH,Ap,AlE (by omega)]
  rfl
 |succ m ih=>
  intro O r cnt hm hO hr hc
  obtain⟨cnt,rfl⟩:∃ c,cnt=c+1:=⟨cnt-1,by omega⟩
  have em:((m+1:Nat):Int)-1=(m:Int):=by omega
  obtain⟨e,hs⟩:=AAd hN O hO u v hu hv (m:Int)
  have hsl:=AHD N O u v (m:Int)
  rw[em,AQ,IH,Ap,AlF (show(0:Int)≤(m:Int) by omega)]
  simp only[hs]
  have ht:=AQV ((0:Int),false,false,(0:Int),(0:Int),(0:Int),(u:Int),(v:Int),w8,true) true false 0 0 top m (by omega) (BP N O u v m) (by omega) (N:Int) true O hO r (by omega)
  simp only at ht
  rw[HB]
  generalize hS:BP N O u v (m:Int)=s at *
  have hcl:=AMa (Ab s) (m:Int) O
  have hml:(O.map (rT (Ab s) top m)).length≤400:=by rw[Aly];exact hO
  have ho:=AKy ((0:Int),false,false,(0:Int),(0:Int),(0:Int),(u:Int),(v:Int),w8,true) true false 0 0 top m (by omega) s (by omega) (N:Int) true (O.map (rT (Ab s) top m)) hml (r+Ft (Ab s) m O) (by omega)
  simp only at ho
  simp only[ht,ho]
  have hpl:=N9 (Ab s) top m (O.map (rT (Ab s) top m))
  cases hp:(Aq (Ab s) top m (O.map (rT (Ab s) top m))).2.2 with
  |some e=>rfl
  |none=>
   simp only[]
   rw[Aj (by omega)]
   exact ih _ _ cnt (by omega) (by omega) (by omega) (by omega)
def AdU(tree:Bool)(f:Option Edge)(r:Nat):Bool×Bool×Edge×Int×Unit:=(tree,f.isSome,((f.getD (0,0,())).1,((f.getD (0,0,())).2.1,())),(r:Int),())
def ANh:Bool×Bool×Edge×Int×Unit:=(false,(false,(((0:Int),((0:Int),())),((0:Int),()))))
noncomputable def EM(N:Nat)(ts:List Tie)(p:Nat)(t:Tie):List Tie×Option Edge×Nat:=
 if t.2.2.2.1=true then HB N t.1.toNat t.2.1.toNat (Bc N:Int) (t.2.2.1.toNat+1) (ts.take p++ts.drop (p+1)) 0 else(ts.take p++ts.drop (p+1),none,0)
theorem OG{N:Nat}{ts:List Tie}(h:RG2 N ts)(u v:Int):
  (¬ ((0≤u∧u<(N:Int))∧(0≤v∧v<(N:Int)))∧AHb (((N:Int),(ts,())),u,v,())=some ((N:Int),ts,ANh,10,())) ∨
  (((0≤u∧u<(N:Int))∧(0≤v∧v<(N:Int)))∧ts.any (Br u v)=false∧AHb (((N:Int),(ts,())),u,v,())=some ((N:Int),ts,ANh,6,())) ∨
  (((0≤u∧u<(N:Int))∧(0≤v∧v<(N:Int)))∧ts.any (Br u v)=true∧∃ t,ts[ts.findIdx (Br u v)]? = some t ∧
   AHb (((N:Int),(ts,())),u,v,())=some ((N:Int),(EM N ts (ts.findIdx (Br u v)) t).1,AdU t.2.2.2.1 (EM N ts (ts.findIdx (Br u v)) t).2.1 (EM N ts (ts.findIdx (Br u v)) t).2.2,0,())):=by
 have ht:=h.ht
 have hN:=h.hN
 rw[AQW,ZP]
 simp only[h.r21,AlM,Rz]
 by_cases hu:0≤u∧u<(N:Int)
 ·rw[AlF hu]
  by_cases hv:0≤v∧v<(N:Int)
  ·right
   rw[AlF hv]
   simp only[AlM,AWy h]
   cases ha:ts.any (Br u v)
   ·left
    refine⟨⟨hu,hv⟩,rfl,?_⟩
    simp only[AlV,AlW,Al]
    rw[AlF (by omega)]
    rfl
   ·right
    have hk:ts.findIdx (Br u v)<ts.length:=Ami.2 (AmK.1 ha)
    have hx:ts[ts.findIdx (Br u v)]? = some ts[ts.findIdx (Br u v)]:=AlK hk
    refine⟨⟨hu,hv⟩,rfl,_,hx,?_⟩
    have hm:ts[ts.findIdx (Br u v)]∈ts:=AmE hk
    generalize ts[ts.findIdx (Br u v)]=t at *
    generalize ts.findIdx (Br u v)=p at *
    obtain⟨i1,i2,hlt,l1,l2⟩:=h.tie hm
    obtain⟨a,ha'⟩:=AlR i1.2.2.1
    obtain⟨b,hb'⟩:=AlR i2.2.2.1
    obtain⟨lv,hlv⟩:=AlR l1
    have haN:a<N:=by have:=i1.2.2.2;omega
    have hbN:b<N:=by have:=i2.2.2.2;omega
    have hT:=FI hN
    have hT64:=AI6 hN
    have s1:Bv ts (0:Int) (p:Int)=some (ts.take p):=Jb (by omega)
    have s2:Bv ts ((p+1:Nat):Int) (ts.length:Int)=some (ts.drop (p+1)):=DV (by omega)
    have hfit1:fits (AO ([]:List Tie)+AO (ts.take p))=true:=A6 (by simp only[AM,Ala,AlZ];omega)
    have hfit2:fits (AO (ts.take p)+AO (ts.drop (p+1)))=true:=A6 (by simp only[AM,AlZ,Alr];omega)
    have hd0:A1 ([]:List Tie) (ts.take p)=ts.take p:=by simp[A1]
    simp only[Alm,Al]
    rw[AlE (show ¬ (p:Int)<0 by omega)]
    simp only[Af hx,s1,hfit1,hd0]
    rw[AH (by omega)]
    simp only[AM]at hfit2
    simp only[AM,s2,hfit2,Np N hN,hT,CO]
    unfold EM
    cases h4:t.2.2.2.1
    ·obtain⟨m,hmany⟩:∃ m,many=m+1:=⟨many-1,by simp only[many]⟩
     have:AS IH many ((0:Int),false,false,(0:Int),(0:Int),(0:Int),t.1,t.2.1,t.2.2.1,false,(N:Int),ts.take p++ts.drop (p+1),false,false,(0:Int),(0:Int),(0:Int),(Bc N:Int),t.2.2.1,()) =
       some (.inr (.inl ((0:Int),false,false,(0:Int),(0:Int),(0:Int),(N:Int),ts.take p++ts.drop (p+1),false,false,(0:Int),(0:Int),(0:Int),()))):=by
      rw[Ae,hmany,AQ,IH]
      cases ile (0:Int) t.2.2.1<;>rfl
     simp only[this]
     rfl
    ·simp only[Alm]
     have hlen:(ts.take p++ts.drop (p+1)).length≤400:=by rw[AlN,AlZ,Alr];omega
     have hs:=AKx hN a b haN hbN (Bc N:Int) t.2.2.1 (lv+1) (ts.take p++ts.drop (p+1)) 0 many (by omega) hlen (by omega) (by simp only[many];omega)
     rw[← ha',← hb',show((lv+1:Nat):Int)-1=t.2.2.1 by omega]at hs
     have e2:t.1.toNat=a:=by omega
     have e3:t.2.1.toNat=b:=by omega
     have e4:t.2.2.1.toNat+1=lv+1:=by omega
     rw[e2,e3,e4]
     rw[← Ae]at hs
     have hs':AS IH many ((0:Int),false,false,(0:Int),(0:Int),(0:Int),t.1,t.2.1,t.2.2.1,true,(N:Int),ts.take p++ts.drop (p+1),true,false,(0:Int),(0:Int),(0:Int),(Bc N:Int),t.2.2.1,())=_:=hs
     simp only[hs']
     cases (HB N a b (Bc N:Int) (lv+1) (ts.take p++ts.drop (p+1)) 0).2.1 with
     |some e=>rfl
     |none=>rfl
  ·left
   rw[AlE hv]
   exact⟨fun q=>hv q.2,rfl⟩
 ·left
  rw[AlE hu]
  exact⟨fun q=>hu q.1,rfl⟩
end Go.Pev.Pl
end
section
namespace Go.Pev.Pl
open Tok
theorem ATt{N:Nat}(h1:1≤N)(hN:N≤64){O:List Tie}(ht:O.length≤400)(hE:(O.map ed).Pairwise Co)(hlt:∀ e∈O.map ed,e.1<e.2.1)(hin:∀ x∈O,InE N (ed x))(hl:∀ x∈O,0≤x.2.2.1∧x.2.2.1≤(Bc N:Int))(hfo:Fo N (trk O 0)):RG2 N O:=by
 have ho:oks N O:=by
  rw[Kp]
  refine⟨fun t ht => ?_,?_⟩
  ·have a:=hlt (ed t) (Alb.2 ⟨t,ht,rfl⟩)
   obtain⟨⟨b1,b2⟩,c1,c2⟩:=hin t ht
   have d:=hl t ht
   rw[← FI hN]at d
   exact⟨b1,a,c2,d.1,d.2⟩
  ·rw[Amf]at hE
   exact hE
 exact⟨h1,hN,ht,ho,by rw[Z7 ho];exact hfo⟩
theorem RG2.edP{N:Nat}{ts:List Tie}(h:RG2 N ts):(ts.map ed).Pairwise Co:=by
 rw[Amf]
 exact((Kp N ts).1 h.oks).2
theorem RG2.Ak3{N:Nat}{ts:List Tie}(h:RG2 N ts):∀ e∈ts.map ed,e.1<e.2.1:=by
 intro e he
 obtain⟨t,ht,rfl⟩:=Alb.1 he
 exact(h.tie ht).2.2.1
theorem AJe{N:Nat}{O:List Tie}(h:RG2 N O){u v i:Nat}(hu:u<N)(hv:v<N)(hn:¬ Con (trk O i) (u:Int) (v:Int)):∃ c,NW N ((u:Int),((v:Int),())) i O (Ab (BP N O u v i)) c:=by
 unfold BP
 rw[(E3 _).2 h,AlU rfl,AlQ (by rw[BV];exact hn)]
 have key:∀ c:Nat,c<N→∀ w:Nat,w<N→(Ab (Ek N (trk O i) (c:Int)) (w:Int)=true↔Con (trk O i) (c:Int) (w:Int)):=by
  intro c hc w hw
  unfold Ab
  rw[Alo,ACh]
  exact⟨fun q=>q.2,fun q=>⟨⟨by omega,by omega⟩,q⟩⟩
 split
 ·rename_i q
  exact⟨u,hu,.inl rfl,key u hu,by show 2*_≤csz N (trk O i) (u:Int)+csz N (trk O i) (v:Int);omega⟩
 ·rename_i q
  exact⟨v,hv,.inr rfl,key v hv,by show 2*_≤csz N (trk O i) (u:Int)+csz N (trk O i) (v:Int);omega⟩
theorem Ad9{N:Nat}(h1:1≤N)(hN:N≤64){u v:Nat}(hu:u<N)(hv:v<N):∀ (m:Nat) (O:List Tie) (r:Nat),m≤Bc N+1→O.length≤400→(O.map ed).Pairwise Co→(∀ e∈O.map ed,e.1<e.2.1)→JT N (Bc N:Int) ((u:Int),((v:Int),())) (m:Int) O →
  (HB N u v (Bc N:Int) m O r).1.map ed=O.map ed∧Snd N (Bc N:Int) (HB N u v (Bc N:Int) m O r).1 ∧
  ((HB N u v (Bc N:Int) m O r).2.1=none→¬ Con (trk (HB N u v (Bc N:Int) m O r).1 0) (u:Int) (v:Int)) ∧
  ((HB N u v (Bc N:Int) m O r).2.1≠none→Con (trk (HB N u v (Bc N:Int) m O r).1 0) (u:Int) (v:Int)):=by
 intro m
 induction m with
 |zero=>
  intro O r _ _ _ _ hG
  obtain⟨q1,q2⟩:=hG.end
  exact⟨rfl,q1,fun _=>q2,fun h=>absurd rfl h⟩
 |succ i ih=>
  intro O r hm hO hE hlt hG
  have hG':JT N (Bc N:Int) ((u:Int),((v:Int),())) ((i:Int)+1) O:=hG
  have hit:(i:Int)≤(Bc N:Int):=by omega
  have hR:RG2 N O:=ATt h1 hN hO hE hlt hG.ins hG.lvl (hG.fo.front (Q7 hG.ins 0) (fun e he=>by rw[Alh]at he;subst he;exact hG.it))
  obtain⟨c,hL⟩:=AJe hR hu hv (i:=i) (hG'.apart i)
  rw[HB]
  generalize Ab (BP N O u v (i:Int))=S at *
  have hme:((O.map (rT S (Bc N:Int) i)).map ed)=O.map ed:=by
   rw[List.map_map]
   exact List.map_congr_left fun t _=>ABG S _ _ t
  have hpe:=AfI S (Bc N:Int) i (O.map (rT S (Bc N:Int) i))
  have hpl:=N9 S (Bc N:Int) i (O.map (rT S (Bc N:Int) i))
  rw[hme]at hpe
  cases hp:(Aq S (Bc N:Int) i (O.map (rT S (Bc N:Int) i))).2.2 with
  |none=>
   obtain⟨q1,q2⟩:=AUw S (Bc N:Int) i _ hp
   have hN':=hG'.next hit hL q2
   rw[← q1]at hN'
   simp only[]
   have:=ih (Aq S (Bc N:Int) i (O.map (rT S (Bc N:Int) i))).1 (r+Ft S i O+(Aq S (Bc N:Int) i (O.map (rT S (Bc N:Int) i))).2.1) (by omega) (by rw[hpl.1,Aly];exact hO) (by rw[hpe];exact hE) (by rw[hpe];exact hlt) hN'
   rw[hpe]at this
   exact this
  |some e=>
   obtain⟨A,x,B,e1,e2,e3,e4,e5,e6⟩:=AUv S (Bc N:Int) i e _ hp
   obtain⟨q1,q2⟩:=hG'.found hit hL e1 e3 e4 e5
   rw[← e2]at q1 q2
   simp only[]
   exact⟨hpe,q1,fun h=>(by cases h),fun _=>q2⟩
theorem AcV{N:Nat}{ts:List Tie}(h:RG2 N ts)(hs:Snd N (Bc N:Int) ts){p:Nat}{t:Tie}(hp:ts[p]? = some t):
  RG2 N (EM N ts p t).1∧Snd N (Bc N:Int) (EM N ts p t).1∧(EM N ts p t).1.map ed=(ts.take p++ts.drop (p+1)).map ed ∧
  (t.2.2.2.1=true→((EM N ts p t).2.1≠none↔Con ((ts.take p++ts.drop (p+1)).map ed) t.1 t.2.1))∧(t.2.2.2.1=false→(EM N ts p t).2.1=none∧(EM N ts p t).2.2=0):=by
 have hpl:p<ts.length:=(Aln.1 hp).1
 have hpe:ts[p]=t:=(Aln.1 hp).2
 have hsp:ts=ts.take p++t::ts.drop (p+1):=by
  conv=>lhs;rw[← Al9 p ts,Al2 hpl,hpe]
 have hm:t∈ts:=hpe▸AmE hpl
 obtain⟨i1,i2,hlt,l1,l2⟩:=h.tie hm
 have hT:=FI h.hN
 have hsub:((ts.take p++ts.drop (p+1)).map ed).Sublist (ts.map ed):=by
  conv=>rhs;rw[hsp]
  exact(List.Sublist.append_left (List.sublist_cons_self _ _) _).map ed
 have hlen:(ts.take p++ts.drop (p+1)).length≤400:=by
  have:=h.ht
  rw[AlN,AlZ,Alr];omega
 have hE:=h.edP.sublist hsub
 have hL:∀ e∈(ts.take p++ts.drop (p+1)).map ed,e.1<e.2.1:=fun e he=>h.Ak3 e (hsub.subset he)
 have fin:∀ O':List Tie,O'.map ed=(ts.take p++ts.drop (p+1)).map ed→Snd N (Bc N:Int) O'→RG2 N O':=fun O' he hO=>ATt h.h1 h.hN (by
   have:=Amq List.length he
   rw[Aly,Aly]at this
   omega) (by rw[he];exact hE) (by rw[he];exact hL) hO.ins hO.lvl hO.fo
 unfold EM
 cases h4:t.2.2.2.1
 ·simp only[AlV,AlW]
  have hO:Snd N (Bc N:Int) (ts.take p++ts.drop (p+1)):=by
   rw[hsp]at hs
   exact hs.other h4
  exact⟨fin _ rfl hO,hO,trivial,fun q=>q.elim,fun _=>⟨trivial,trivial⟩⟩
 ·simp only[Alm]
  obtain⟨a,ha⟩:=AlR i1.2.2.1
  obtain⟨b,hb⟩:=AlR i2.2.2.1
  obtain⟨lv,hlv⟩:=AlR l1
  have haN:a<N:=by have:=i1.2.2.2;omega
  have hbN:b<N:=by have:=i2.2.2.2;omega
  have hst:JT N (Bc N:Int) ((a:Int),((b:Int),())) ((lv+1:Nat):Int) (ts.take p++ts.drop (p+1)):=by
   have hs':=hs
   rw[hsp]at hs'
   have:=hs'.Akw h4
   have e1:ed t=((a:Int),((b:Int),())):=by unfold ed;rw[ha,hb]
   rw[e1,hlv]at this
   exact this
  have e2:t.1.toNat=a:=by omega
  have e3:t.2.1.toNat=b:=by omega
  have e4:t.2.2.1.toNat+1=lv+1:=by omega
  rw[e2,e3,e4]
  obtain⟨q1,q2,q3,q4⟩:=Ad9 h.h1 h.hN haN hbN (lv+1) (ts.take p++ts.drop (p+1)) 0 (by omega) hlen hE hL hst
  refine⟨fin _ q1 q2,q2,q1,fun _ => ?_,fun q=>by cases q⟩
  rw[← q1,q2.span,ha,hb]
  constructor
  ·exact q4
  ·intro hc hn
   exact q3 hn hc
noncomputable def EN(N:Nat)(ts:List Tie)(l:List Edge):List Edge:=(Cs N l).filter fun x=>decide (x∈ts.map ed)
theorem QJ{N:Nat}{ts:List Tie}(h:RG2 N ts)(l:List Edge)(hs:l.length<1073741824):
  QK (((N:Int),(ts,())),l,())=some (if ∀ e∈l,In (N:Int) e.1∧In (N:Int) e.2.1 then(EN N ts l,0,())else([],10,())):=by
 have ht:=h.ht
 have h1:=h.h1
 have hN:=h.hN
 rw[WN,M7]
 simp only[h.r21,AlM]
 have e:=FZ (step:=GR) (fun i=>(l,(N:Int),ts,(i:Int),())) l (fun x => !decide (In (N:Int) x.1∧In (N:Int) x.2.1)) (fun _=>.inl (10,())) (.inr (.inl (l,(N:Int),ts,()))) (by omega)
  (fun i x hi hx=>by
   rw[GR,AM,AK,AlF hi]
   simp only[Af hx,Rz]
   rw[AH (by omega)]
   have d1:decide (0≤x.1∧x.1<(N:Int))=decide (In (N:Int) x.1):=Amd.2 ⟨fun q=>⟨by omega,by omega,q.1,q.2⟩,fun q=>⟨q.2.2.1,q.2.2.2⟩⟩
   have d2:decide (0≤x.2.1∧x.2.1<(N:Int))=decide (In (N:Int) x.2.1):=Amd.2 ⟨fun q=>⟨by omega,by omega,q.1,q.2⟩,fun q=>⟨q.2.2.1,q.2.2.2⟩⟩
   rw[d1,d2,Bool.decide_and]
   cases decide (In (N:Int) x.1)<;>cases decide (In (N:Int) x.2.1)<;>simp)
  (by rw[GR,AM,AK,AlE (by omega)])
 have e':AS GR many (l,(N:Int),ts,(0:Int),())=_:=e
 rw[e']
 by_cases hall:∀ e∈l,In (N:Int) e.1∧In (N:Int) e.2.1
 ·have:(l.any fun x => !decide (In (N:Int) x.1∧In (N:Int) x.2.1))=false:=by
   rw[Ams]
   intro x hx
   simp[hall x hx]
  rw[this,AlU hall]
  simp only[AlV,AlW,NF (N:Int) ts h.ht h.r21,XY N hN l hs]
  have hpl:=Kg N hN l
  unfold EN
  generalize Cs N l=p at hpl
  have e2:=CX (step:=GQ) (fun i (a:List Edge)=>(ts.map ed,p,a,(i:Int),())) p (fun x a=>.inl (if x∈ts.map ed then a++[x]else a)) (fun a=>.inl (a,())) (fun i a=>a.length≤i) (by omega)
   (fun i x a hi hx ha=>by
    refine⟨fun m' h' => ?_,fun r h'=>(by cases h')⟩
    cases h'
    constructor
    ·rw[GQ,AM,AK,AlF hi]
     obtain⟨u,v,⟨⟩⟩:=x
     simp only[Af hx,CU hx,WL (ts.map ed) u v (by rw[Aly];omega),AM]
     have hfit:fits ((a.length:Int)+(([(u,v,())]:List Edge).length:Int))=true:=A6 (by simp;omega)
     rw[hfit,AH (by omega)]
     by_cases q:((u,v,()):Edge)∈ts.map ed
     ·rw[AlF q,AlU q]
      rfl
     ·rw[AlE q,AlQ q]
    ·split
     ·rw[AlN];simp;omega
     ·omega)
   (fun a _=>by rw[GQ,AM,AK,AlE (by omega)]) [] (AlS _)
  have e2':AS GQ many (ts.map ed,p,[],(0:Int),())=_:=e2
  simp only[e2']
  rw[BC (fun(x:Edge) (a:List Edge)=>if x∈ts.map ed then a++[x]else a),HY (fun x:Edge=>x∈ts.map ed) (fun x=>x)]
  simp
 ·have:(l.any fun x => !decide (In (N:Int) x.1∧In (N:Int) x.2.1))=true:=by
   rw[AmK]
   refine Alw fun hn=>hall fun e he => ?_
   refine Alw fun hne=>hn ⟨e,he,by rw[AlE hne];rfl⟩
  rw[this,AlQ hall]
  rfl
end Go.Pev.Pl
end
section
namespace Go.Pev.Pl
open Tok
noncomputable def AQY(ts:List Tie)(k:Nat):Bool:=ts.any fun t => !t.2.2.2.1&&(decide (t.2.2.1=(k:Int)) && !DH (trk ts k) t.1 t.2.1)
theorem AOH{N:Nat}{ts:List Tie}(h:RG2 N ts)(s:Int)(k:Nat){o:List Int}(hc:L6 (N:Int) (trk ts k) o):
  AS DY many ((N:Int),ts,s,(k:Int),o,(0:Int),())=some (if AQY ts k then .inl (false,())else .inr (.inl ((N:Int),ts,s,(k:Int),()))):=by
 have ht:=h.ht
 have ho:o.length=N:=by have:=hc.len;omega
 have e:=FZ (step:=DY) (fun i=>((N:Int),ts,s,(k:Int),o,(i:Int),())) ts (fun t => !t.2.2.2.1&&(decide (t.2.2.1=(k:Int)) && !DH (trk ts k) t.1 t.2.1)) (fun _=>.inl (false,())) (.inr (.inl ((N:Int),ts,s,(k:Int),()))) (by omega)
  (fun i x hi hx=>by
   obtain⟨i1,i2,_,l1,l2⟩:=h.tie (AlY hx)
   rw[DY,AM,AK,AlF hi]
   simp only[Af hx,AhQ ho (show InV N x.1 from⟨i1.2.2.1,i1.2.2.2⟩),AhQ ho (show InV N x.2.1 from⟨i2.2.2.1,i2.2.2.2⟩)]
   have hd:∀ w:Int,AP o (AF w) 0=cl o w:=fun _=>rfl
   rw[AH (by omega),hd,hd,Ak,Ak]
   have:decide (cl o x.1=cl o x.2.1)=DH (trk ts k) x.1 x.2.1:=by
    rw[AmL,Alo,BV]
    exact hc.same _ _ i1 i2
   rw[this]
   generalize DH (trk ts (k:Int)) x.1 x.2.1=c
   generalize decide (x.2.2.1=(k:Int))=d
   generalize x.2.2.2.1=f
   cases f<;>cases d<;>cases c<;>rfl)
  (by rw[DY,AM,AK,AlE (by omega)])
 have e':AS DY many ((N:Int),ts,s,(k:Int),o,(0:Int),())=_:=e
 rw[e']
 rfl
theorem AOI{N:Nat}{ts:List Tie}(h:RG2 N ts)(k:Nat):
  AS DX many ((N:Int),ts,((N/2 ^ k:Nat):Int),(k:Int),(0:Int),())=some (if AMz N ts k then .inl (false,())else .inr (.inl ((N:Int),ts,((N/2 ^ k:Nat):Int),(k:Int),()))):=by
 have hN:=h.hN
 have e:=FZ (step:=DX) (fun i=>((N:Int),ts,((N/2 ^ k:Nat):Int),(k:Int),(i:Int),())) (List.range N) (fun v=>decide (max 1 (N/2 ^ k)<csz N (trk ts k) (v:Int))) (fun _=>.inl (false,())) (.inr (.inl ((N:Int),ts,((N/2 ^ k:Nat):Int),(k:Int),()))) (by simp;omega)
  (fun i x hi hx=>by
   have:=CA hx
   subst this
   rw[Ali]at hi
   have hle:=OX N (trk ts k) (x:Int)
   have hdl:N/2 ^ k≤N:=Nat.div_le_self _ _
   rw[DX,AK,AlF hi]
   simp only[EJ h.h1 h.hN ts h.ht h.inE x hi,AM,IJ,R2]
   rw[AH (by omega),Al]
   have:decide (max (1:Int) ((N/2 ^ k:Nat):Int)<(csz N (trk ts k) (x:Int):Int))=decide (max 1 (N/2 ^ k)<csz N (trk ts k) (x:Int)):=Amd.2 (by omega)
   rw[this]
   cases decide (max 1 (N/2 ^ k)<csz N (trk ts k) (x:Int))<;>simp)
  (by rw[DX,Ali,AK,AlE (by omega)])
 have e':AS DX many ((N:Int),ts,((N/2 ^ k:Nat):Int),(k:Int),(0:Int),())=_:=e
 rw[e']
 rfl
theorem Aik{N:Nat}{ts:List Tie}(h:RG2 N ts):((List.range (Bc N+1)).any fun k=>AQY ts k)=ts.any (AVP ts):=by
 rw[AmL,AmK,AmK]
 constructor
 ·rintro⟨k,_,hk⟩
  unfold AQY at hk
  rw[AmK]at hk
  obtain⟨t,ht,q⟩:=hk
  simp only[AlL,AlI]at q
  refine⟨t,ht,?_⟩
  unfold AVP
  rw[q.2.1,AlL]
  exact⟨q.1,q.2.2⟩
 ·rintro⟨t,ht,q⟩
  unfold AVP at q
  rw[AlL]at q
  obtain⟨_,_,_,l1,l2⟩:=h.tie ht
  obtain⟨k,hk⟩:=AlR l1
  have hT:=FI h.hN
  refine⟨k,by rw[AmI];omega,?_⟩
  unfold AQY
  rw[AmK]
  refine⟨t,ht,?_⟩
  rw[hk]at q
  simp only[AlL,AlI]
  exact⟨q.1,hk,q.2⟩
theorem AOF{N:Nat}{ts:List Tie}(h:RG2 N ts):RC (((N:Int),(ts,())),())=some (Jv (ASf ts∧AdR ts∧AIY N ts),()):=by
 have ht:=h.ht
 have h1:=h.h1
 have hN:=h.hN
 have hT:=AI6 h.hN
 have hTe:=FI h.hN
 obtain⟨o1,e1,c1⟩:=Ck (N:Int) (ts.map ed) ⟨by omega,by omega⟩ (by rw[Aly];omega) h.inE
 obtain⟨o2,e2,c2⟩:=h.AZJ 0
 have l1:o1.length=N:=by have:=c1.len;omega
 have l2:o2.length=N:=by have:=c2.len;omega
 rw[AAb,Nv]
 simp only[h.r21,AlM,NF (N:Int) ts h.ht h.r21,e1,No (N:Int) ts h.ht,e2]
 have f0:=FZ (step:=Ec) (fun i=>((N:Int),ts,o1,o2,(i:Int),())) (List.range N) (fun k => !decide (o1.getD k 0=o2.getD k 0)) (fun _=>.inl (false,())) (.inr (.inl ((N:Int),ts,()))) (by simp;omega)
  (fun i x hi hx=>by
   have:=CA hx
   subst this
   rw[Ali]at hi
   rw[Ec,AK,AlF hi]
   simp only[CJ 0 (show x<o1.length by omega),CJ 0 (show x<o2.length by omega),EF,Ak]
   rw[AH (by omega)]
   cases decide (o1.getD x 0=o2.getD x 0)<;>simp)
  (by rw[Ec,Ali,AK,AlE (by omega)])
 have f0':AS Ec many ((N:Int),ts,o1,o2,(0:Int),())=_:=f0
 have hsame:(!(List.range N).any fun k => !decide (o1.getD k 0=o2.getD k 0))=Jv (ASf ts):=by
  refine RP ?_
  have e0:(!(List.range N).any fun k => !decide (o1.getD k 0=o2.getD k 0))=true↔o1=o2:=by
   rw[AmV,Ams]
   constructor
   ·intro hh
    refine Fc 0 (by omega) fun k hk => ?_
    have:=hh k (by rw[AmI];omega)
    simpa using this
   ·rintro rfl k _
    simp
  rw[e0,Ac6 h1 hN c1 c2 h.inE (h.inK 0)]
  exact⟨fun q=>q.1,fun q=>⟨q,fun e he=>.edge e (AIv ts 0 e he)⟩⟩
 have f1:=FZ (step:=Eb) (fun i=>((N:Int),ts,((N/2 ^ i:Nat):Int),(i:Int),())) (List.range (Bc N+1)) (fun k=>AQY ts k||AMz N ts k) (fun _=>.inl (false,())) (.inr (.inl ())) (by simp;omega)
  (fun i x hi hx=>by
   have:=CA hx
   subst this
   rw[Ali]at hi
   obtain⟨o,g1,g2⟩:=h.AZJ x
   have hdl:N/2 ^ x≤N:=Nat.div_le_self _ _
   rw[Eb]
   simp only[Np N h.hN,hTe]
   rw[Bq,AlF (by omega)]
   simp only[No (N:Int) ts h.ht,g1,AOH h _ x g2]
   cases AQY ts x
   ·simp only[AlV,AlW,AOI h x,Bool.false_or]
    cases AMz N ts x
    ·simp only[AlV,AlW]
     rw[Aed (by omega),AH (by omega)]
     simp only[]
     rw[Nat.pow_succ,Nat.div_div_eq_div_mul]
    ·rfl
   ·rfl)
  (by
   rw[Eb,Ali]
   simp only[Np N h.hN,hTe]
   rw[Bq,AlE (by omega)])
 have hz:((N/2 ^ 0:Nat):Int)=(N:Int):=by simp
 have f1':AS Eb many ((N:Int),ts,((N/2 ^ 0:Nat):Int),(0:Int),())=_:=f1
 rw[hz]at f1'
 have hor:((List.range (Bc N+1)).any fun k=>AQY ts k||AMz N ts k)=(ts.any (AVP ts)||(List.range (Bc N+1)).any (AMz N ts)):=by
  rw[← Aik h]
  generalize List.range (Bc N+1)=xs
  induction xs with
  |nil=>rfl
  |cons x xs ih=>simp only[List.any_cons,ih];cases AQY ts x<;>cases AMz N ts x<;>simp
 have b1:=Aij ts
 have b2:=AhZ hN ts
 rw[hor]at f1'
 simp only[f0']
 have fin:Jv (ASf ts∧AdR ts∧AIY N ts)=(Jv (ASf ts)&&(Jv (AdR ts)&&Jv (AIY N ts))):=by
  symm
  refine RP ?_
  rw[AlL,AlL,E3,E3,E3]
 rw[fin,← hsame,← b1,← b2]
 cases (List.range N).any fun k => !decide (o1.getD k 0=o2.getD k 0)
 ·simp only[AlV,AlW,f1']
  cases ts.any (AVP ts)<;>cases (List.range (Bc N+1)).any (AMz N ts)<;>rfl
 ·rfl
theorem Acs{A B:List Edge}{x:Edge}(h:(A++x::B).Pairwise Co):A++B=(A++x::B).filter fun e=>decide (e≠x):=by
 have hA:∀ e∈A,e≠x:=fun e he=>by
  rw[AnP]at h
  have:=h.2.2 e he x (by simp)
  rintro rfl
  unfold Co at this;omega
 have hB:∀ e∈B,e≠x:=fun e he=>by
  rw[AnP,Al5]at h
  have:=h.2.1.1 e he
  rintro rfl
  unfold Co at this;omega
 rw[Amh,AmQ,AlQ (by simp),Am4.2 (fun e he=>AlF (hA e he)),Am4.2 (fun e he=>AlF (hB e he))]
theorem AcX{N:Nat}{ts:List Tie}{l:List Edge}{x:Edge}(hx:x∈EN N ts l):0≤x.1∧x.1<x.2.1∧x.2.1<(N:Int)∧x∈ts.map ed:=by
 unfold EN at hx
 rw[Alz,Py,Alo]at hx
 exact⟨hx.1.1,hx.1.2.1,hx.1.2.2.1,hx.2⟩
theorem QI(N:Nat)(ts:List Tie)(l:List Edge):(EN N ts l).Pairwise Co:=(XX N l).filter _
theorem AH3(N:Nat)(hN:N≤64)(ts:List Tie)(l:List Edge):(EN N ts l).length≤4096:=AmO (Amu _ _) (Kg N hN l)
theorem AXB{N:Nat}{ts:List Tie}(h:RG2 N ts)(hs:Snd N (Bc N:Int) ts)(l:List Edge)(hl:l.length<1073741824):
  (¬ ASW N l∧AD2 (((N:Int),(ts,())),l,())=some (((N:Int),(ts,())),[],10,())) ∨
  (ASW N l∧∃ O outs,AD2 (((N:Int),(ts,())),l,())=some (((N:Int),(O,())),outs,0,())∧RG2 N O∧Snd N (Bc N:Int) O∧O.map ed=(ts.map ed).filter (fun e=>decide (e∉EN N ts l))∧outs.length=(EN N ts l).length):=by
 have hg:=QJ h l hl
 rw[AII,SS]
 by_cases hall:∀ e∈l,In (N:Int) e.1∧In (N:Int) e.2.1
 ·right
  refine⟨hall,?_⟩
  rw[AlU hall]at hg
  simp only[hg,BS,AlM]
  have hgl:=AH3 N h.hN ts l
  have hgp:=QI N ts l
  have hgm:=fun x=>AcX (N:=N) (ts:=ts) (l:=l) (x:=x)
  generalize EN N ts l=xs at *
  have key:∀ (m i cnt:Nat) (O:List Tie) (outs:List (Bool×Bool×Edge×Int×Unit)),i+m=xs.length→m<cnt→outs.length=i→RG2 N O→Snd N (Bc N:Int) O→O.map ed=(ts.map ed).filter (fun e=>decide (e∉xs.take i)) →
    ∃ O' outs',AQ CT cnt ((N:Int),ts,(0:Int),xs,outs,(N:Int),O,(i:Int),())=some (.inr (.inl ((0:Int),outs',(N:Int),O',())))∧RG2 N O'∧Snd N (Bc N:Int) O'∧O'.map ed=(ts.map ed).filter (fun e=>decide (e∉xs))∧outs'.length=xs.length:=by
   intro m
   induction m with
   |zero=>
    intro i cnt O outs hi hc ho hR hS hE
    obtain⟨cnt,rfl⟩:∃ c,cnt=c+1:=⟨cnt-1,by omega⟩
    rw[AmC (by omega)]at hE
    refine⟨O,outs,?_,hR,hS,hE,by omega⟩
    rw[AQ,CT,AM,AK,AlE (by omega)]
   |succ m ih=>
    intro i cnt O outs hi hc ho hR hS hE
    obtain⟨cnt,rfl⟩:∃ c,cnt=c+1:=⟨cnt-1,by omega⟩
    have hi':i<xs.length:=by omega
    have hx:xs[i]? = some xs[i]:=AlK hi'
    have hxm:=hgm xs[i] (AmE hi')
    have hnt:xs[i]∉xs.take i:=fun hh=>by
     obtain⟨j,hj,e⟩:=Am7.1 hh
     have:=(AmJ.1 hgp) j i (by omega) hi' (by omega)
     rw[e]at this
     unfold Co at this;omega
    have htk:xs.take (i+1)=xs.take i++[xs[i]]:=Al1 hi'
    rw[AQ,CT,AM,AK,AlF hi']
    simp only[Af hx,CU hx]
    generalize xs[i]=x at *
    have hxO:x∈O.map ed:=by rw[hE,Alz];exact⟨hxm.2.2.2,AlF hnt⟩
    obtain⟨t,htO,hte⟩:=Alb.1 hxO
    obtain⟨f1,k,f2,f3,f4⟩:=Ag7 hR.oks htO
    have ex1:t.1=x.1:=by rw[← hte];rfl
    have ex2:t.2.1=x.2.1:=by rw[← hte];rfl
    rw[ex1,ex2]at f1 f2
    have one:=OG hR x.1 x.2.1
    rcases one with⟨q,_⟩|⟨_,q,_⟩|⟨_,_,t',g1,g2⟩
    ·exact absurd ⟨⟨by omega,by omega⟩,by omega,by omega⟩ q
    ·rw[f1]at q;cases q
    ·rw[f2,f4]at g1
     cases g1
     rw[f2]at g2
     obtain⟨r1,r2,r3,_⟩:=AcV hR hS f4
     have hspl:O=O.take k++t::O.drop (k+1):=by
      have hpe:O[k]=t:=(Aln.1 f4).2
      conv=>lhs;rw[← Al9 k O,Al2 f3,hpe]
     have hE2:(EM N O k t).1.map ed=(ts.map ed).filter (fun e=>decide (e∉xs.take (i+1))):=by
      rw[r3,AmZ]
      have hp:=hR.edP
      rw[hspl,AmZ,Ald,hte]at hp
      rw[Acs hp]
      have:(O.take k).map ed++x::(O.drop (k+1)).map ed=O.map ed:=by
       conv=>rhs;rw[hspl]
       rw[AmZ,Ald,hte]
      rw[this,hE,List.filter_filter]
      refine Am2 fun e _ => ?_
      rw[htk,AmL]
      simp only[AlL,AlI,AlJ,Alh,not_or]
      exact⟨fun q=>⟨q.2,q.1⟩,fun q=>⟨q.2,q.1⟩⟩
     have fin:=ih (i+1) cnt (EM N O k t).1 (outs++[AdU t.2.2.2.1 (EM N O k t).2.1 (EM N O k t).2.2]) (by omega) (by omega) (by rw[AlN,ho];rfl) r1 r2 hE2
     simp only[g2,BS,AlM]
     rw[A6 (by simp only[AM,AlP,Ala];omega),AH (by omega)]
     exact fin
  obtain⟨O,outs,e,r1,r2,r3,r4⟩:=key xs.length 0 many ts [] (by omega) (by simp only[many];omega) rfl h hs (by
   rw[List.take_zero]
   refine(Am4.2 fun e _ => ?_).symm
   simp)
  have e':AS CT many ((N:Int),ts,(0:Int),xs,[],(N:Int),ts,(0:Int),())=_:=(Ae _ _ _).trans e
  refine⟨O,outs,?_,r1,r2,r3,r4⟩
  simp only[e']
 ·left
  refine⟨hall,?_⟩
  rw[AlQ hall]at hg
  simp only[hg,Ak]
  rfl
end Go.Pev.Pl
end
section
namespace Go.Pev.Pl
section
variable {N top:Nat} {ts w:List Tie} (hp:w.Perm ts) (hi:∀ x∈ts,InE N (ed x)) (hl:∀ t∈ts,0≤t.2.2.1∧t.2.2.1≤(top:Int)) (hfo:Fo N (trk ts 0)) (hlie:∀ x∈ts,x.2.2.2.1=false→Con (trk ts x.2.2.1) x.1 x.2.1)
include hp hi
include hl hfo hlie
end
end Go.Pev.Pl
end
section
namespace Go.Pev.Pl
open Tok
end Go.Pev.Pl
end
section
namespace Go.Pev.Pl
open Tok
def bef(x y:Tie):Prop:=y.2.2.1<x.2.2.1∨(x.2.2.1=y.2.2.1∧ahead x y)
theorem bef.trans{x y z:Tie}(h:bef x y)(h':bef y z):bef x z:=by
 unfold bef ahead at *
 omega
def Mrg(u v w:List Tie):Prop:=w.Perm (u++v)∧w.Pairwise bef
end Go.Pev.Pl
end
section
namespace Go.Pev.Pl
open Tok
noncomputable section
end
theorem Mrg.append{u1 u2 v1 v2 w1 w2:List Tie}(h1:Mrg u1 v1 w1)(h2:Mrg u2 v2 w2)(hu:(u1++u2).Pairwise bef)(hv:(v1++v2).Pairwise bef)(c1:∀ x∈u1,∀ y∈v2,bef x y)(c2:∀ y∈v1,∀ x∈u2,bef y x):Mrg (u1++u2) (v1++v2) (w1++w2):=by
 rw[AnP]at hu hv
 refine⟨?_,?_⟩
 ·refine(h1.1.append h2.1).trans ?_
  rw[Alv,Alv]
  refine List.Perm.append_left _ ?_
  rw[← Alv,← Alv]
  exact List.Perm.append_right _ Amt
 ·rw[AnP]
  refine⟨h1.2,h2.2,fun x hx y hy => ?_⟩
  have hx:=AlJ.1 (h1.1.mem_iff.1 hx)
  have hy:=AlJ.1 (h2.1.mem_iff.1 hy)
  rcases hx with hx|hx<;>rcases hy with hy|hy
  ·exact hu.2.2 x hx y hy
  ·exact c1 x hx y hy
  ·exact c2 x hx y hy
  ·exact hv.2.2 x hx y hy
end Go.Pev.Pl
end
section
namespace Go.Pev.Pl
open Tok
end Go.Pev.Pl
end
section
namespace Go.Pev.Pl
open Tok
end Go.Pev.Pl
end
section
namespace Go.Pev.Pl
open Tok
def lvl(ts:List Tie)(k:Int):List Tie:=ts.filter fun t=>decide (t.2.2.1=k)
end Go.Pev.Pl
end
section
namespace Go.Pev.Pl
open Tok
section
variable (n:Int) (ts:List Tie)
end
end Go.Pev.Pl
end
section
namespace Go.Pev.Pl
open Tok
def mid(f:Int→Int)(xs:List Int)(i:Nat):List Int:=(xs.take i).map f++xs.drop i
def lb(at0:List Int)(v:Int):Int:=at0.getD v.toNat 0
end Go.Pev.Pl
end
section
namespace Go.Pev.Pl
open Tok
end Go.Pev.Pl
end
section
namespace Go.Pev.Pl
section
variable {α β:Type} [DecidableEq α]
theorem AC4(es:List (α×β))(k:α)(v:β)(j:α):AX (Ah es k v) j=if j=k then some v else AX es j:=by
 induction es with
 |nil=>
  simp only[Ah,AX]
  by_cases h:j=k
  ·rw[AlU h,AlU h.symm]
  ·rw[AlQ h,AlQ (AmD h)]
 |cons e es ih=>
  obtain⟨a,x⟩:=e
  by_cases h1:a=k
  ·subst h1
   simp only[Ah,AX,Alm]
   by_cases h:j=a
   ·rw[AlU h,AlU h.symm]
   ·rw[AlQ h,AlQ (AmD h),AlQ (AmD h)]
  ·simp only[Ah,AX,h1,AlW,ih]
   by_cases h:a=j
   ·subst h
    rw[AlU rfl,AlQ h1,AlU rfl]
   ·rw[AlQ h,AlQ h]
theorem AHR:∀ (es:List (α×β)) (k:α),EB es k=none→∀ v,Ah es k v=es++[(k,v)]:=by
 intro es
 induction es with
 |nil=>intro k _ v;rfl
 |cons e es ih=>
  intro k h v
  obtain⟨a,b⟩:=e
  by_cases hk:a=k
  ·simp[EB,hk]at h
  ·simp only[EB,hk,AlW,AoH]at h
   simp only[Ah,hk,AlW,ih k h v,All]
theorem AHQ:∀ (es:List (α×β)) (k:α) (n:Nat),EB es k=some n→∀ v,n<es.length∧Ah es k v=es.modify n fun e=>(e.1,v):=by
 intro es
 induction es with
 |nil=>intro k n h;simp[EB]at h
 |cons e es ih=>
  intro k n h v
  obtain⟨a,b⟩:=e
  by_cases hk:a=k
  ·simp only[EB,hk,Alm,AlG]at h
   subst h
   simp[Ah,hk]
  ·simp only[EB,hk,AlW,Alc]at h
   obtain⟨m,hm,rfl⟩:=h
   obtain⟨h1,h2⟩:=ih k m hm v
   simp only[Ah,hk,AlW,AlP]
   exact⟨by omega,by rw[h2];rfl⟩
theorem AVa(es:List (α×β))(k:α)(z v:β):(ile (0:Int) (Yi es k)&&ilt (Yi es k) (AO (Ah es k z)))=true∧AbP (Ah es k z) (Yi es k) v=Ah es k v:=by
 rw[Ap,Al]
 unfold Yi AbP
 cases h:EB es k with
 |none=>
  rw[AHR es k h,AHR es k h,Option.getD_none,AmA]
  constructor
  ·rw[AlF (by omega),AlF (by rw[AM,AlN];simp;omega)];rfl
  ·have:∀ (xs:List (α×β)),(xs++[(k,z)]).modify xs.length (fun e=>(e.1,v))=xs++[(k,v)]:=by
    intro xs
    induction xs with
    |nil=>rfl
    |cons x xs ih=>rw[All,AlP,List.modify_succ_cons,ih];rfl
   exact this es
 |some n=>
  obtain⟨h1,h2⟩:=AHQ es k n h z
  obtain⟨_,h3⟩:=AHQ es k n h v
  rw[h2,h3,Als,AmA]
  constructor
  ·rw[AlF (by omega),AlF (by rw[AM,List.length_modify];omega)];rfl
  ·apply AnV
   intro i
   simp only[List.getElem?_modify]
   cases es[i]? with
   |none=>split<;>rfl
   |some e=>split<;>rfl
end
end Go.Pev.Pl
end
section
namespace Go.Pev.Pl
open Tok
end Go.Pev.Pl
end
section
namespace Go.Pev.Pl
open Tok
theorem Rr(p x:Tie):Dj (p,x,())=some (if ahead p x then -1 else if p.1=x.1∧p.2.1=x.2.1 then 0 else 1,()):=by
 rw[Mv,IN]
 simp only[LL,AKw]
 congr 2
 unfold Qf ahead
 repeat' split
 all_goals omega
theorem AhX{ts:List Tie}(ht:ts.length≤400)(hp:ts.Pairwise ahead)(g:Tie):∃ k:Nat,k≤ts.length∧(∀ j t,ts[j]? = some t→(j<k↔ahead t g)) ∧
  AdI (ts,g,())=some ((k:Int),match ts[k]? with|some t=>decide (t.1=g.1∧t.2.1=g.2.1)|none=>false,()):=by
 have hahead:∀ (i j:Nat) (t t':Tie),i≤j→ts[i]? = some t→ts[j]? = some t'→ahead t' g→ahead t g:=by
  intro i j t t' hij h1 h2 h3
  by_cases e:i=j
  ·subst e
   rw[h1]at h2
   cases h2
   exact h3
  ·have hj:=(Aln.1 h2).1
   have hi:=(Aln.1 h1).1
   have:=AmJ.1 hp i j hi hj (by omega)
   rw[(Aln.1 h1).2,(Aln.1 h2).2]at this
   exact this.trans h3
 obtain⟨g1,g2,g3,g4,⟨⟩⟩:=g
 obtain⟨k,_,k2,k3,k4,k5⟩:=AlA (step:=LN) (fun i j=>(ts,g1,g2,g3,g4,(ts.length:Int),(i:Int),(j:Int),())) (fun i=>match ts[i]? with|some t=>decide (ahead t (g1,g2,g3,g4,()))|none=>false)
  (fun i=>.inl (ts,g1,g2,g3,g4,(ts.length:Int),(i:Int),())) 0 ts.length (Anl _) (by omega)
  (fun i j _ hij hj=>by
   have hm:(i+j)/2<ts.length:=by omega
   have hx:ts[(i+j)/2]? = some ts[(i+j)/2]:=by simp[hm]
   have hs:shr? .u64 (((i+j:Nat)):Int) (1:Int)=some (((i+j)/2:Nat):Int):=ZF (i+j) 1 (by omega)
   rw[LN,AK,AlF hij]
   simp only[]
   rw[show((i:Int)+(j:Int))=((i+j:Nat):Int) by omega,Aj (n:=((i+j:Nat):Int)) (by omega),AdT (i+j) (by omega)]
   simp only[hs,Aj (n:=(((i+j)/2:Nat):Int)) (by omega),Af hx]
   have hc:=Rr ts[(i+j)/2] (g1,g2,g3,g4,())
   have hc':Dj (((ts[(i+j)/2]).1,((ts[(i+j)/2]).2.1,((ts[(i+j)/2]).2.2.1,((ts[(i+j)/2]).2.2.2.1,())))),(g1,(g2,(g3,(g4,())))),())=_:=hc
   simp only[hc',hx]
   by_cases ha:ahead ts[(i+j)/2] (g1,g2,g3,g4,())
   ·simp only[AlU ha,AlF ha,Alm]
    rw[Al,AlF (by omega),AH (by omega)]
   ·simp only[AlQ ha,AlE ha]
    rw[Al,AlE (by split<;>omega)]
    rfl)
  (fun i _ _=>by rw[LN,AK,AlE (by omega)])
  (fun x y _ hxy hy h=>by
   have hx':x<ts.length:=by omega
   have e1:ts[x]? = some ts[x]:=by simp[hx']
   have e2:ts[y]? = some ts[y]:=by simp[hy]
   simp only[e2,Alo]at h
   simp only[e1,Alo]
   exact hahead x y _ _ hxy e1 e2 h)
 refine⟨k,k2,fun j t hj => ?_,?_⟩
 ·have hjl:=(Aln.1 hj).1
  constructor
  ·intro h
   have:=k3 j (Anl _) h
   simpa [hj]using this
  ·intro h
   refine Alw fun hn => ?_
   have:=k4 j (by omega) hjl
   simp[hj]at this
   exact this h
 ·rw[AZN,AMy]
  have k5':AS LN many (ts,g1,g2,g3,g4,AO ts,(0:Int),AO ts,())=_:=k5
  simp only[k5']
  by_cases hk:k<ts.length
  ·have hx:ts[k]? = some ts[k]:=by simp[hk]
   have hna:¬ ahead ts[k] (g1,g2,g3,g4,()):=by
    have:=k4 k (AlS _) hk
    simpa [hx]using this
   have hc:=Rr ts[k] (g1,g2,g3,g4,())
   have hc':Dj (((ts[k]).1,((ts[k]).2.1,((ts[k]).2.2.1,((ts[k]).2.2.2.1,())))),(g1,(g2,(g3,(g4,())))),())=_:=hc
   rw[AK,AlF hk]
   simp only[Af hx,hc',hx,AlQ hna,Ak]
   by_cases he:(ts[k]).1=g1∧(ts[k]).2.1=g2
   ·simp only[AlU he,AlF he,AlT]
   ·simp only[AlQ he,AlE he]
    rfl
  ·have hx:ts[k]? = none:=AmB (by omega)
   rw[AK,AlE hk]
   simp only[hx]
theorem Abs{N:Nat}{ts:List Tie}(h:RG2 N ts)(u v:Int):AQ1 (((N:Int),(ts,())),u,v,())=some (if ts.any (Br u v)then((ts.findIdx (Br u v):Nat):Int)else -1,()):=by
 have hp:=((Kp N ts).1 h.oks).2
 obtain⟨k,k1,k2,k3⟩:=AhX h.ht hp (min u v,max u v,0,false,())
 rw[AQ0,ZU]
 simp only[h.lr,AlM,AHm,Ro,JD,R2]
 have k3':AdI (ts,(min u v,(max u v,((0:Int),(false,())))),())=_:=k3
 simp only[k3']
 cases hx:ts[k]? with
 |none=>
  have hall:ts.any (Br u v)=false:=by
   rw[Ams]
   intro t ht hat
   obtain⟨j,hj,rfl⟩:=AmN ht
   have hj':ts[j]? = some ts[j]:=by simp[hj]
   have hjk:j<k:=by
    have:=List.getElem?_eq_none_iff.1 hx
    omega
   have ha:=(k2 j _ hj').1 hjk
   unfold Br at hat
   rw[Alo]at hat
   unfold ahead at ha
   simp only at ha
   omega
  rw[hall]
  rfl
 |some t=>
  by_cases he:t.1=min u v∧t.2.1=max u v
  ·have hk:=(Aln.1 hx)
   obtain⟨hkl,hke⟩:=hk
   have hat:Br u v t=true:=by unfold Br;rw[Alo];exact he
   have hany:ts.any (Br u v)=true:=AmK.2 ⟨t,AlY hx,hat⟩
   have hfi:ts.findIdx (Br u v)=k:=by
    rw[List.findIdx_eq hkl,hke]
    refine⟨hat,fun j hj => ?_⟩
    have hj':ts[j]? = some ts[j]:=by simp
    have ha:=(k2 j _ hj').1 hj
    unfold Br
    rw[Al7]
    unfold ahead at ha
    simp only at ha
    omega
   simp only[AlF he,AlM]
   rw[hany,hfi]
   rfl
  ·have hall:ts.any (Br u v)=false:=by
    rw[Ams]
    intro t' ht' hat
    obtain⟨j,hj,rfl⟩:=AmN ht'
    have hj':ts[j]? = some ts[j]:=by simp[hj]
    unfold Br at hat
    rw[Alo]at hat
    obtain⟨hkl,hke⟩:=Aln.1 hx
    rcases AnW j k with hjk|hjk|hjk
    ·have ha:=(k2 j _ hj').1 hjk
     unfold ahead at ha
     simp only at ha
     omega
    ·subst hjk
     rw[hke]at hat
     exact he hat
    ·have ha:=AmJ.1 hp k j hkl hj hjk
     rw[hke]at ha
     have hna:¬ ahead t (min u v,max u v,0,false,()):=fun hh=>by
      have:=(k2 k t hx).2 hh
      omega
     unfold ahead at ha hna
     simp only at hna
     omega
   simp only[AlE he,Alk]
   rw[hall]
   rfl
end Go.Pev.Pl
end
section
namespace Go.Pev.Pl.SI
open Go.Sort
theorem B6(x y:Int):EK (x,y,())=some (ltInt x y,()):=by
 simp only[AQ2,ZV,ZS,VK,Al,ED,ltInt]
 by_cases h:x<y<;>simp[h]
theorem Ai7(a b i:Nat):∀ (j:Nat) (d:Array Int) (n:Nat),j<d.size→d.size<4611686018427387904→j<n →
  AQ OT n (d.toList,(a:Int),(b:Int),(i:Int),(j:Int),())=some (.inl ((insInner ltInt a j d).toList,(a:Int),(b:Int),(i:Int),())):=by
 intro j
 induction j with
 |zero=>
  intro d n hj hs hn
  obtain⟨n,rfl⟩:∃ k,n=k+1:=⟨n-1,by omega⟩
  have h0:ilt (a:Int) ((0:Nat):Int)=false:=by rw[AK];simp
  simp only[AQ,OT,h0,insInner]
 |succ j ih=>
  intro d n hj hs hn
  obtain⟨n,rfl⟩:∃ k,n=k+1:=⟨n-1,by omega⟩
  have e1:IntKind.wrap .i64 (((j+1:Nat):Int)-1)=(j:Int):=by rw[Aj (by omega)];omega
  have hj':j<d.size:=by omega
  simp only[AQ,OT,AK,e1,Ai hj,Ai hj',Ar hj,Ar hj',B6,insInner,AnN]
  by_cases h1:a<j+1
  ·cases h2:ltInt d[j+1]! d[j]!
   ·simp only[h1,AlT,h2,Ana,AlV,AlW]
   ·simp only[h1,AlT,h2,An0,Alm,C9]
    rw[Ai (by simpa using hj')]
    simp only[DE]
    exact ih (swp d (j+1) j) n (by rw[size_swp];omega) (by rw[size_swp];omega) (by omega)
  ·simp only[h1,AlX,Amm,AlV,AlW]
theorem Cg(lt:Int→Int→Bool)(a j:Nat)(d:Array Int):(insInner lt a j d).size=d.size:=by
 induction j generalizing d with
 |zero=>rfl
 |succ j ih=>
  rw[insInner]
  split
  ·rw[ih,size_swp]
  ·rfl
theorem AgM(a b:Nat):∀ (k i:Nat) (d:Array Int) (n:Nat),b-i=k→b≤d.size→d.size<4611686018427387904→d.size<many→k<n →
  AQ OU n (d.toList,(a:Int),(b:Int),(i:Int),())=some (.inl ((insOuter ltInt a b i d).toList,())):=by
 intro k
 induction k with
 |zero=>
  intro i d n hk hb hs hm hn
  obtain⟨n,rfl⟩:∃ k,n=k+1:=⟨n-1,by omega⟩
  have h0:¬ i<b:=by omega
  rw[insOuter]
  simp only[AQ,OU,AK,h0,AlX,AlW]
 |succ k ih=>
  intro i d n hk hb hs hm hn
  obtain⟨n,rfl⟩:∃ k,n=k+1:=⟨n-1,by omega⟩
  have h0:i<b:=by omega
  have e1:IntKind.wrap .i64 ((i:Int)+1)=((i+1:Nat):Int):=by rw[Aj (by omega)];omega
  rw[insOuter]
  simp only[AQ,OU,AK,h0,AlT,Alm,Ae]
  rw[Ai7 a b i i d many (by omega) hs (by omega)]
  simp only[e1]
  exact ih (i+1) _ n (by omega) (by rw[Cg];omega) (by rw[Cg];omega) (by rw[Cg];omega) (by omega)
theorem AgL(d:Array Int)(a b:Nat)(hab:a≤b)(hb:b≤d.size)(hs:d.size<4294967296):Ab5 (d.toList,(a:Int),(b:Int),())=some ((insertionSort ltInt d a b).toList,()):=by
 have hm:d.size<many:=by simp only[many];omega
 have e1:IntKind.wrap .i64 ((a:Int)+1)=((a+1:Nat):Int):=by rw[Aj (by omega)];omega
 rw[AY2,ALi]
 simp only[e1,Ae]
 rw[AgM a b (b-(a+1)) (a+1) d many rfl hb (by omega) hm (by omega)]
 rfl
end Go.Pev.Pl.SI
end
section
namespace Go.Pev.Pl.SI
open Go.Sort
theorem ATW(hi first:Nat):∀ (k root:Nat) (d:Array Int) (n:Nat),hi-root=k→root≤hi→first+hi≤d.size→d.size<4294967296→(hi=0∨root<hi)→k<n →
  AQ Jq n (d.toList,(hi:Int),(first:Int),(root:Int),())=some (.inl ((siftDown ltInt hi first root d).toList,())) ∨
  AQ Jq n (d.toList,(hi:Int),(first:Int),(root:Int),())=some (.inr (.inl ((siftDown ltInt hi first root d).toList,()))):=by
 intro k
 induction k using Nat.strongRecOn with
 |_ k ih=>
 intro root d n hk hr hf hs hz hn
 obtain⟨n,rfl⟩:∃ k,n=k+1:=⟨n-1,by omega⟩
 rw[siftDown]
 simp (disch:=omega) only[AQ,Jq,AGm,AH,wrap_add,Bq,AK]
 by_cases h1:hi≤2*root+1
 ·simp only[h1,AlT,ge_iff_le,dite_true,true_or]
 ·have i0:first+root<d.size:=by omega
  have i1:first+(2*root+1)<d.size:=by omega
  simp only[h1,AlX,ge_iff_le,AlW,dite_false]
  simp (disch:=omega) only[Ai,Ar,B6]
  by_cases h2:2*root+1+1<hi
  ·have i2:first+(2*root+2)<d.size:=by omega
   have i3:2*root+1+1=2*root+2:=by omega
   have i4:first+(2*root+1)+1=first+(2*root+2):=by omega
   have h3:2*root+2<hi:=by omega
   simp only[i3,i4,h3,AlT]
   simp (disch:=omega) only[Ai,Ar,B6,C9]
   cases h4:ltInt d[first+(2*root+1)]! d[first+(2*root+2)]!
   ·simp only[Ana,AlV,AlW]
    cases h5:ltInt d[first+root]! d[first+(2*root+1)]!
    ·simp
    ·simp only[AlM,AlV,AlW]
     rw[Ai (by simpa using i1)]
     simp only[DE]
     exact ih (hi-(2*root+1)) (by omega) (2*root+1) _ n rfl (by omega) (by rw[size_swp];omega) (by rw[size_swp];omega) (by omega) (by omega)
   ·simp only[An0,Alm]
    cases h5:ltInt d[first+root]! d[first+(2*root+2)]!
    ·simp
    ·simp only[AlM,AlV,AlW,dite_true]
     rw[Ai (by simpa using i2)]
     simp only[DE]
     exact ih (hi-(2*root+2)) (by omega) (2*root+2) _ n rfl (by omega) (by rw[size_swp];omega) (by rw[size_swp];omega) (by omega) (by omega)
  ·simp only[h2,AlX,Amm,AlV,AlW,C9]
   cases h5:ltInt d[first+root]! d[first+(2*root+1)]!
   ·simp
   ·simp only[AlM,AlV,AlW]
    rw[Ai (by simpa using i1)]
    simp only[DE]
    exact ih (hi-(2*root+1)) (by omega) (2*root+1) _ n rfl (by omega) (by rw[size_swp];omega) (by rw[size_swp];omega) (by omega) (by omega)
theorem AHA(d:Array Int)(root hi first:Nat)(hf:first+hi≤d.size)(hs:d.size<4294967296)(hz:hi=0∧root=0∨root<hi):AHB (d.toList,(root:Int),(hi:Int),(first:Int),())=some ((siftDown ltInt hi first root d).toList,()):=by
 have hm:d.size<many:=by simp only[many];omega
 rw[AOV,ZD]
 simp only[Ae]
 rcases ATW hi first (hi-root) root d many rfl (by omega) hf hs (by omega) (by omega)with h|h<;>rw[h]
theorem Bd(lt:Int→Int→Bool)(hi first:Nat):∀ (k root:Nat) (d:Array Int),hi-root=k→(siftDown lt hi first root d).size=d.size:=by
 intro k
 induction k using Nat.strongRecOn with
 |_ k ih=>
 intro root d hk
 rw[siftDown]
 split
 ·rfl
 ·split
  ·split
   ·rfl
   ·split
    ·rw[ih (hi-(2*root+2)) (by omega) _ _ rfl,size_swp]
    ·rfl
  ·split
   ·rfl
   ·rw[ih (hi-(2*root+1)) (by omega) _ _ rfl,size_swp]
theorem ARP(hi first:Nat):∀ (k:Nat) (d:Array Int) (n:Nat),(hi=0∧k≤1∨k≤hi)→first+hi≤d.size→d.size<4294967296→k<n →
  AQ J7 n (d.toList,(first:Int),(0:Int),(hi:Int),(k:Int)-1,())=some (.inl ((heapBuild ltInt hi first k d).toList,(first:Int),(0:Int),(hi:Int),())):=by
 intro k
 induction k with
 |zero=>
  intro d n hk hf hs hn
  obtain⟨n,rfl⟩:∃ k,n=k+1:=⟨n-1,by omega⟩
  rw[AQ,J7,Ap,AlE (by omega)]
  rfl
 |succ k ih=>
  intro d n hk hf hs hn
  obtain⟨n,rfl⟩:∃ k,n=k+1:=⟨n-1,by omega⟩
  have e0:((k+1:Nat):Int)-1=(k:Int):=by omega
  rw[AQ,J7,e0,Ap,AlF (by omega)]
  simp only[AHA d k hi first hf hs (by omega)]
  rw[Aj (by omega)]
  exact ih _ n (by omega) (by rw[Bd _ _ _ _ _ _ rfl];omega) (by rw[Bd _ _ _ _ _ _ rfl];omega) (by omega)
theorem DZ(lt:Int→Int→Bool)(hi first:Nat):∀ (k:Nat) (d:Array Int),(heapBuild lt hi first k d).size=d.size:=by
 intro k
 induction k with
 |zero=>intro d;rfl
 |succ k ih=>intro d;rw[heapBuild,ih,Bd _ _ _ _ _ _ rfl]
theorem AcK(first:Nat):∀ (k:Nat) (d:Array Int) (n:Nat),first+k≤d.size→d.size<4294967296→k<n →
  AQ J6 n (d.toList,(first:Int),(0:Int),(k:Int)-1,())=some (.inl ((heapPop ltInt first k d).toList,())):=by
 intro k
 induction k with
 |zero=>
  intro d n hf hs hn
  obtain⟨n,rfl⟩:∃ k,n=k+1:=⟨n-1,by omega⟩
  rw[AQ,J6,Ap,AlE (by omega)]
  rfl
 |succ k ih=>
  intro d n hf hs hn
  obtain⟨n,rfl⟩:∃ k,n=k+1:=⟨n-1,by omega⟩
  have e0:((k+1:Nat):Int)-1=(k:Int):=by omega
  have i0:first<d.size:=by omega
  have i1:first+k<d.size:=by omega
  rw[AQ,J6,e0,Ap,AlF (by omega)]
  simp (disch:=omega) only[wrap_add,Ai,Ar,C9]
  rw[Ai (by simpa using i1)]
  simp only[DE]
  have:=AHA (swp d first (first+k)) 0 k first (by rw[size_swp];omega) (by rw[size_swp];omega) (by omega)
  simp only[Int.natCast_zero]at this
  simp only[this]
  rw[Aj (by omega)]
  exact ih _ n (by rw[Bd _ _ _ _ _ _ rfl,size_swp];omega) (by rw[Bd _ _ _ _ _ _ rfl,size_swp];omega) (by omega)
theorem AcJ(d:Array Int)(a b:Nat)(hab:a<b)(hb:b≤d.size)(hs:d.size<4294967296):AH0 (d.toList,(a:Int),(b:Int),())=some ((heapSort ltInt d a b).toList,()):=by
 have hm:4294967296<many:=by simp only[many];omega
 rw[ARO,ZX]
 simp (disch:=omega) only[Bh,Ao,Aed,Ae]
 have e:(((b-a-1)/2:Nat):Int)=(((b-a-1)/2+1:Nat):Int)-1:=by omega
 rw[e,ARP (b-a) a _ d many (by omega) (by omega) hs (by omega)]
 have e2:(((b-a-1:Nat)):Int)=((b-a:Nat):Int)-1:=by omega
 simp (disch:=omega) only[Ao,e2]
 rw[AcK a (b-a) _ many (by rw[DZ];omega) (by rw[DZ];omega) (by omega)]
 rfl
end Go.Pev.Pl.SI
end
section
namespace Go.Pev.Pl.SI
open Go.Sort
theorem AaT:∀ (k i j:Nat) (d:Array Int) (n:Nat),j-i=k→(j<d.size)→d.size<4294967296→k<n →
  AQ RK n (d.toList,(i:Int),(j:Int),())=some (.inl ((reverseLoop i j d).toList,())):=by
 intro k
 induction k using Nat.strongRecOn with
 |_ k ih=>
 intro i j d n hk hj hs hn
 obtain⟨n,rfl⟩:∃ k,n=k+1:=⟨n-1,by omega⟩
 rw[reverseLoop,AQ,RK]
 simp only[AK]
 by_cases h:i<j
 ·have hi:i<d.size:=by omega
  simp only[h,AlT,Alm,Ai hj,Ai hi,Ar hi,Ar hj,C9]
  rw[Ai (by simpa using hj)]
  simp (disch:=omega) only[DE,AH,Ao]
  exact ih (j-1-(i+1)) (by omega) (i+1) (j-1) _ n rfl (by rw[size_swp];omega) (by rw[size_swp];omega) (by omega)
 ·simp only[h,AlX,AlW]
theorem AeV(d:Array Int)(a b:Nat)(hab:a<b)(hb:b≤d.size)(hs:d.size<4294967296):AaU (d.toList,(a:Int),(b:Int),())=some ((reverseRange d a b).toList,()):=by
 have hm:4294967296<many:=by simp only[many];omega
 rw[AYQ,AJu]
 simp (disch:=omega) only[Ao,Ae]
 rw[AaT (b-1-a) a (b-1) d many rfl (by omega) hs (by omega)]
 rfl
theorem D9{d:Array Int}{i j:Nat}(hi:i<d.size)(hj:j<d.size):idx (An d.toList (AF (i:Int)) (AP d.toList (AF (j:Int)) 0)) (j:Int)=some (d.setIfInBounds i d[j]!)[j]! ∧
  An (An d.toList (AF (i:Int)) (AP d.toList (AF (j:Int)) 0)) (AF (j:Int)) (AP d.toList (AF (i:Int)) 0)=(swp d i j).toList:=by
 rw[Ar hi,Ar hj,C9,C9]
 exact⟨Ai (by simpa using hj),rfl⟩
theorem AJj(step:List Int×Int×Int×Int×Unit→Option ((List Int×Int×Int×Int×Unit)⊕(List Int×Int×Int×Int×Unit)⊕Unit))(p:Int→Bool)(d:Array Int)(a j:Nat)(hs:d.size<4294967296)(hj:j<d.size)
  (h:∀ i:Nat,i≤d.size→step (d.toList,(a:Int),(i:Int),(j:Int),())=if i≤j∧p d[i]! then some (.inl (d.toList,(a:Int),((i+1:Nat):Int),(j:Int),()))else some (.inr (.inl (d.toList,(a:Int),(i:Int),(j:Int),())))) :
  ∀ (k i n:Nat),j+1-i=k→i≤d.size→k<n→AQ step n (d.toList,(a:Int),(i:Int),(j:Int),())=some (.inl (d.toList,(a:Int),((scanUp p d j i:Nat):Int),(j:Int),())):=by
 intro k
 induction k using Nat.strongRecOn with
 |_ k ih=>
 intro i n hk hi hn
 obtain⟨n,rfl⟩:∃ k,n=k+1:=⟨n-1,by omega⟩
 rw[scanUp,AQ,h i hi]
 by_cases h1:i≤j∧p d[i]! = true
 ·rw[AlU h1,AlU (by simpa using h1)]
  exact ih (j+1-(i+1)) (by omega) (i+1) n rfl (by omega) (by omega)
 ·rw[AlQ h1,AlQ (by simpa using h1)]
theorem Tp(step:List Int×Int×Int×Int×Unit→Option ((List Int×Int×Int×Int×Unit)⊕(List Int×Int×Int×Int×Unit)⊕Unit))(p:Int→Bool)(d:Array Int)(a i:Nat)(hi:1≤i)
  (h:∀ j:Nat,j<d.size→step (d.toList,(a:Int),(i:Int),(j:Int),())=if i≤j∧p d[j]! then some (.inl (d.toList,(a:Int),(i:Int),((j-1:Nat):Int),()))else some (.inr (.inl (d.toList,(a:Int),(i:Int),(j:Int),())))) :
  ∀ (j n:Nat),j<d.size→j<n→AQ step n (d.toList,(a:Int),(i:Int),(j:Int),())=some (.inl (d.toList,(a:Int),(i:Int),((scanDown p d i j:Nat):Int),())):=by
 intro j
 induction j with
 |zero=>
  intro n hj hn
  obtain⟨n,rfl⟩:∃ k,n=k+1:=⟨n-1,by omega⟩
  rw[AQ,h 0 hj,AlQ (by omega)]
  rfl
 |succ j ih=>
  intro n hj hn
  obtain⟨n,rfl⟩:∃ k,n=k+1:=⟨n-1,by omega⟩
  rw[scanDown,AQ,h (j+1) hj]
  by_cases h1:i≤j+1∧p d[j+1]! = true
  ·rw[AlU h1,AlU (by simpa using h1)]
   exact ih n (by omega) (by omega)
  ·rw[AlQ h1,AlQ (by simpa using h1)]
section
variable (d:Array Int) (a i j:Nat) (hs:d.size<4294967296) (ha:a<d.size) (hj:j<d.size)
include hs ha hj
theorem AP8(hi:i≤d.size):Mf (d.toList,(a:Int),(i:Int),(j:Int),())=if i≤j∧(fun x=>ltInt x d[a]!) d[i]! = true then some (.inl (d.toList,(a:Int),((i+1:Nat):Int),(j:Int),()))else some (.inr (.inl (d.toList,(a:Int),(i:Int),(j:Int),()))):=by
 rw[Mf]
 simp only[Bq]
 by_cases h:i≤j
 ·have hi':i<d.size:=by omega
  simp (disch:=omega) only[h,AlT,Ai,Ar,B6,AH,Am5]
  cases ltInt d[i]! d[a]!<;>simp
 ·simp only[h,AlX,Amr,AlW]
theorem AP3(hi:i≤d.size):Mc (d.toList,(a:Int),(i:Int),(j:Int),())=if i≤j∧(fun x=>ltInt x d[a]!) d[i]! = true then some (.inl (d.toList,(a:Int),((i+1:Nat):Int),(j:Int),()))else some (.inr (.inl (d.toList,(a:Int),(i:Int),(j:Int),()))):=by
 rw[Mc]
 simp only[Bq]
 by_cases h:i≤j
 ·have hi':i<d.size:=by omega
  simp (disch:=omega) only[h,AlT,Ai,Ar,B6,AH,Am5]
  cases ltInt d[i]! d[a]!<;>simp
 ·simp only[h,AlX,Amr,AlW]
theorem AP6(hi:1≤i):Me (d.toList,(a:Int),(i:Int),(j:Int),())=if i≤j∧(fun x => !ltInt x d[a]!) d[j]! = true then some (.inl (d.toList,(a:Int),(i:Int),((j-1:Nat):Int),()))else some (.inr (.inl (d.toList,(a:Int),(i:Int),(j:Int),()))):=by
 rw[Me]
 simp only[Bq]
 by_cases h:i≤j
 ·simp (disch:=omega) only[h,AlT,Ai,Ar,B6,Ao,Am5]
  cases ltInt d[j]! d[a]!<;>simp
 ·simp only[h,AlX,Amr,AlW]
theorem AP1(hi:1≤i):Mb (d.toList,(a:Int),(i:Int),(j:Int),())=if i≤j∧(fun x => !ltInt x d[a]!) d[j]! = true then some (.inl (d.toList,(a:Int),(i:Int),((j-1:Nat):Int),()))else some (.inr (.inl (d.toList,(a:Int),(i:Int),(j:Int),()))):=by
 rw[Mb]
 simp only[Bq]
 by_cases h:i≤j
 ·simp (disch:=omega) only[h,AlT,Ai,Ar,B6,Ao,Am5]
  cases ltInt d[j]! d[a]!<;>simp
 ·simp only[h,AlX,Amr,AlW]
theorem AF5(hi:i≤d.size):IF (d.toList,(a:Int),(i:Int),(j:Int),())=if i≤j∧(fun x => !ltInt d[a]! x) d[i]! = true then some (.inl (d.toList,(a:Int),((i+1:Nat):Int),(j:Int),()))else some (.inr (.inl (d.toList,(a:Int),(i:Int),(j:Int),()))):=by
 rw[IF]
 simp only[Bq]
 by_cases h:i≤j
 ·have hi':i<d.size:=by omega
  simp (disch:=omega) only[h,AlT,Ai,Ar,B6,AH,Am5]
  cases ltInt d[a]! d[i]!<;>simp
 ·simp only[h,AlX,Amr,AlW]
theorem AF3(hi:1≤i):IE (d.toList,(a:Int),(i:Int),(j:Int),())=if i≤j∧(fun x=>ltInt d[a]! x) d[j]! = true then some (.inl (d.toList,(a:Int),(i:Int),((j-1:Nat):Int),()))else some (.inr (.inl (d.toList,(a:Int),(i:Int),(j:Int),()))):=by
 rw[IE]
 simp only[Bq]
 by_cases h:i≤j
 ·simp (disch:=omega) only[h,AlT,Ai,Ar,B6,Ao,Am5]
  cases ltInt d[a]! d[j]!<;>simp
 ·simp only[h,AlX,Amr,AlW]
end
theorem Da(p:Int→Bool)(d:Array Int)(j i:Nat)(hj:j<d.size)(hi:i≤d.size):scanUp p d j i≤d.size:=by
 suffices h:∀ (k i:Nat),j+1-i=k→i≤d.size→scanUp p d j i≤d.size from h _ i rfl hi
 intro k
 induction k using Nat.strongRecOn with
 |_ k ih=>
 intro i hk hi
 rw[scanUp]
 split
 ·rename_i h
  have:i≤j:=by simp at h;exact h.1
  exact ih (j+1-(i+1)) (by omega) (i+1) rfl (by omega)
 ·exact hi
theorem AU1(a:Nat):∀ (k i j:Nat) (d:Array Int) (n:Nat),j+1-i=k→a<d.size→1≤i→i≤d.size→j<d.size→d.size<4294967296→k<n →
  AQ Md n (d.toList,(a:Int),(i:Int),(j:Int),())=some (.inl ((partLoop ltInt a i j d).2.toList,(a:Int),(((partLoop ltInt a i j d).1:Nat):Int),()))∧(partLoop ltInt a i j d).1≤j∧(partLoop ltInt a i j d).2.size=d.size:=by
 intro k
 induction k using Nat.strongRecOn with
 |_ k ih=>
 intro i j d n hk ha hi hi' hj hs hn
 have hm:4294967296<many:=by simp only[many];omega
 obtain⟨n,rfl⟩:∃ k,n=k+1:=⟨n-1,by omega⟩
 rw[partLoop_eq,AQ,Md]
 have u1:=scanUp_ge (fun x=>ltInt x d[a]!) d j i
 have u2:=Da (fun x=>ltInt x d[a]!) d j i hj hi'
 rw[Ae,AJj _ (fun x=>ltInt x d[a]!) d a j hs hj (fun i h=>AP3 d a i j hs ha hj h) _ i many rfl hi' (by omega)]
 generalize scanUp (fun x=>ltInt x d[a]!) d j i=i2 at *
 have v1:=scanDown_le (fun x => !ltInt x d[a]!) d i2 j
 simp only[Ae]
 rw[Tp _ (fun x => !ltInt x d[a]!) d a i2 (by omega) (fun j h=>AP1 d a i2 j hs ha h (by omega)) j many hj (by omega)]
 generalize scanDown (fun x => !ltInt x d[a]!) d i2 j=j2 at *
 simp only[AK]
 by_cases h:j2<i2
 ·simp only[h,AlT,AnN,Alm]
  exact⟨trivial,v1,trivial⟩
 ·have hi2:i2<d.size:=by omega
  have hj2:j2<d.size:=by omega
  simp only[h,AlX,AnN,AlW,Ai hi2,Ai hj2,(D9 hi2 hj2).1,(D9 hi2 hj2).2]
  simp (disch:=omega) only[AH,Ao]
  obtain⟨q1,q2,q3⟩:=ih (j2-1+1-(i2+1)) (by omega) (i2+1) (j2-1) (swp d i2 j2) n rfl (by rw[size_swp];omega) (by omega) (by rw[size_swp];omega) (by rw[size_swp];omega) (by rw[size_swp];omega) (by omega)
  exact⟨q1,by omega,by rw[q3,size_swp]⟩
theorem Aa3(d:Array Int)(a b p:Nat)(ha:a≤p)(hp:p<b)(hb:b≤d.size)(hs:d.size<4294967296):
  Ra (d.toList,(a:Int),(b:Int),(p:Int),())=some ((partition ltInt d a b p).2.2.toList,(((partition ltInt d a b p).1:Nat):Int),(partition ltInt d a b p).2.1,()):=by
 have hm:4294967296<many:=by simp only[many];omega
 have ha':a<d.size:=by omega
 have hp':p<d.size:=by omega
 rw[AQJ,ZM,partition]
 simp only[Ai ha',Ai hp',(D9 ha' hp').1,(D9 ha' hp').2]
 have hs':=hs
 rw[← size_swp d a p]at ha' hs' hb
 generalize swp d a p=d at *
 simp (disch:=omega) only[AH,Ao,Ae]
 have u1:=scanUp_ge (fun x=>ltInt x d[a]!) d (b-1) (a+1)
 have u2:=Da (fun x=>ltInt x d[a]!) d (b-1) (a+1) (by omega) (by omega)
 rw[AJj _ (fun x=>ltInt x d[a]!) d a (b-1) hs' (by omega) (fun i h=>AP8 d a i (b-1) hs' ha' (by omega) h) _ (a+1) many rfl (by omega) (by omega)]
 generalize scanUp (fun x=>ltInt x d[a]!) d (b-1) (a+1)=i2 at *
 have v1:=scanDown_le (fun x => !ltInt x d[a]!) d i2 (b-1)
 simp only[]
 rw[Tp _ (fun x => !ltInt x d[a]!) d a i2 (by omega) (fun j h=>AP6 d a i2 j hs' ha' h (by omega)) (b-1) many (by omega) (by omega)]
 generalize scanDown (fun x => !ltInt x d[a]!) d i2 (b-1)=j2 at *
 simp only[AK]
 have hj2:j2<d.size:=by omega
 by_cases h:j2<i2
 ·simp only[h,AlT,AnN,Alm,Ai ha',Ai hj2,(D9 hj2 ha').1,(D9 hj2 ha').2]
 ·have hi2:i2<d.size:=by omega
  simp only[h,AlX,AnN,AlW,Ai hi2,Ai hj2,(D9 hi2 hj2).1,(D9 hi2 hj2).2]
  simp (disch:=omega) only[AH,Ao]
  obtain⟨q1,q2,q3⟩:=AU1 a (j2-1+1-(i2+1)) (i2+1) (j2-1) (swp d i2 j2) many rfl (by rw[size_swp];omega) (by omega) (by rw[size_swp];omega) (by rw[size_swp];omega) (by rw[size_swp];omega) (by omega)
  simp only[q1]
  rw[size_swp]at q3
  generalize partLoop ltInt a (i2+1) (j2-1) (swp d i2 j2)=r at *
  have h1:r.1<r.2.size:=by omega
  have h2:a<r.2.size:=by omega
  simp only[Ai h1,Ai h2,(D9 h1 h2).1,(D9 h1 h2).2]
theorem AKr(a:Nat):∀ (k i j:Nat) (d:Array Int) (n:Nat),j+1-i=k→a<d.size→1≤i→i≤d.size→j<d.size→d.size<4294967296→k<n →
  AQ IG n (d.toList,(a:Int),(i:Int),(j:Int),())=some (.inl ((partEqLoop ltInt a i j d).2.toList,(((partEqLoop ltInt a i j d).1:Nat):Int),())):=by
 intro k
 induction k using Nat.strongRecOn with
 |_ k ih=>
 intro i j d n hk ha hi hi' hj hs hn
 have hm:4294967296<many:=by simp only[many];omega
 obtain⟨n,rfl⟩:∃ k,n=k+1:=⟨n-1,by omega⟩
 rw[partEqLoop_eq,AQ,IG]
 have u1:=scanUp_ge (fun x => !ltInt d[a]! x) d j i
 have u2:=Da (fun x => !ltInt d[a]! x) d j i hj hi'
 rw[Ae,AJj _ (fun x => !ltInt d[a]! x) d a j hs hj (fun i h=>AF5 d a i j hs ha hj h) _ i many rfl hi' (by omega)]
 generalize scanUp (fun x => !ltInt d[a]! x) d j i=i2 at *
 have v1:=scanDown_le (fun x=>ltInt d[a]! x) d i2 j
 simp only[Ae]
 rw[Tp _ (fun x=>ltInt d[a]! x) d a i2 (by omega) (fun j h=>AF3 d a i2 j hs ha h (by omega)) j many hj (by omega)]
 generalize scanDown (fun x=>ltInt d[a]! x) d i2 j=j2 at *
 simp only[AK]
 by_cases h:j2<i2
 ·simp only[h,AlT,AnN,Alm]
 ·have hi2:i2<d.size:=by omega
  have hj2:j2<d.size:=by omega
  simp only[h,AlX,AnN,AlW,Ai hi2,Ai hj2,(D9 hi2 hj2).1,(D9 hi2 hj2).2]
  simp (disch:=omega) only[AH,Ao]
  exact ih (j2-1+1-(i2+1)) (by omega) (i2+1) (j2-1) (swp d i2 j2) n rfl (by rw[size_swp];omega) (by omega) (by rw[size_swp];omega) (by rw[size_swp];omega) (by rw[size_swp];omega) (by omega)
theorem AQP(d:Array Int)(a b p:Nat)(ha:a≤p)(hp:p<b)(hb:b≤d.size)(hs:d.size<4294967296):
  OB (d.toList,(a:Int),(b:Int),(p:Int),())=some ((partitionEqual ltInt d a b p).2.toList,(((partitionEqual ltInt d a b p).1:Nat):Int),()):=by
 have hm:4294967296<many:=by simp only[many];omega
 have ha':a<d.size:=by omega
 have hp':p<d.size:=by omega
 rw[ACX,OA,partitionEqual]
 simp only[Ai ha',Ai hp',(D9 ha' hp').1,(D9 ha' hp').2]
 have hs':=hs
 rw[← size_swp d a p]at ha' hs' hb
 generalize swp d a p=d at *
 simp (disch:=omega) only[AH,Ao,Ae]
 rw[AKr a _ (a+1) (b-1) d many rfl ha' (by omega) (by omega) (by omega) hs' (by omega)]
end Go.Pev.Pl.SI
end
section
namespace Go.Pev.Pl.SI
open Go.Sort
theorem FJ(d:Array Int)(b:Nat):∀ (k i:Nat),b-i=k→i≤b→i≤scanSorted ltInt d b i∧scanSorted ltInt d b i≤b:=by
 intro k
 induction k using Nat.strongRecOn with
 |_ k ih=>
 intro i hk hi
 rw[scanSorted]
 split
 ·rename_i h
  have:i<b:=by simp at h;exact h.1
  have:=ih (b-(i+1)) (by omega) (i+1) rfl (by omega)
  omega
 ·omega
theorem AFt(d:Array Int)(a b s:Nat)(hb:b≤d.size)(hs:d.size<4294967296):∀ (k i n:Nat),b-i=k→1≤i→i≤b→k<n →
  AQ Gv n (d.toList,(a:Int),(b:Int),(i:Int),(s:Int),())=some (.inl (d.toList,(a:Int),(b:Int),((scanSorted ltInt d b i:Nat):Int),(s:Int),())):=by
 intro k
 induction k using Nat.strongRecOn with
 |_ k ih=>
 intro i n hk h1 hi hn
 obtain⟨n,rfl⟩:∃ k,n=k+1:=⟨n-1,by omega⟩
 rw[scanSorted,AQ,Gv]
 simp only[AK]
 by_cases h:i<b
 ·have i0:i<d.size:=by omega
  have i1:i-1<d.size:=by omega
  simp (disch:=omega) only[h,AlT,Ao,AH,Ai,Ar,B6,Ani]
  cases h2:ltInt d[i]! d[i-1]!
  ·simp only[Alk,Alm]
   exact ih (b-(i+1)) (by omega) (i+1) n rfl (by omega) (by omega) (by omega)
  ·simp only[AlM,AlV,AlW]
 ·simp only[h,AlX,Amm,AlV,AlW]
theorem AFv(a b i s:Nat):∀ (j:Nat) (d:Array Int) (n:Nat),j<d.size→d.size<4294967296→j<n →
  AQ E6 n (d.toList,(a:Int),(b:Int),(i:Int),(s:Int),(j:Int),())=some (.inl ((shiftDown ltInt j d).toList,(a:Int),(b:Int),(i:Int),(s:Int),())):=by
 intro j
 induction j with
 |zero=>
  intro d n hj hs hn
  obtain⟨n,rfl⟩:∃ k,n=k+1:=⟨n-1,by omega⟩
  rw[AQ,E6,Ap,AlE (by omega)]
  rfl
 |succ j ih=>
  intro d n hj hs hn
  obtain⟨n,rfl⟩:∃ k,n=k+1:=⟨n-1,by omega⟩
  have hj':j<d.size:=by omega
  rw[shiftDown,AQ,E6,Ap,AlF (by omega)]
  simp (disch:=omega) only[Ao,Nat.add_sub_cancel,Ai,Ar,B6]
  cases h2:ltInt d[j+1]! d[j]!
  ·simp only[Alk,Alm]
  ·have e1:=D9 hj hj'
   simp only[Ar hj,Ar hj']at e1
   simp only[AlM,AlV,AlW,e1]
   exact ih _ n (by rw[size_swp];omega) (by rw[size_swp];omega) (by omega)
theorem Xo(a b i s:Nat):∀ (k j:Nat) (d:Array Int) (n:Nat),b-j=k→1≤j→b≤d.size→d.size<4294967296→k<n →
  AQ E5 n (d.toList,(a:Int),(b:Int),(i:Int),(s:Int),(j:Int),())=some (.inl ((shiftUp ltInt b j d).toList,(a:Int),(b:Int),(i:Int),(s:Int),())):=by
 intro k
 induction k using Nat.strongRecOn with
 |_ k ih=>
 intro j d n hk h1 hb hs hn
 obtain⟨n,rfl⟩:∃ k,n=k+1:=⟨n-1,by omega⟩
 rw[shiftUp,AQ,E5]
 simp only[AK]
 by_cases h:j<b
 ·have i0:j<d.size:=by omega
  have i1:j-1<d.size:=by omega
  simp (disch:=omega) only[h,AlT,Alm,Ao,AH,Ai,Ar,B6]
  cases h2:ltInt d[j]! d[j-1]!
  ·simp only[Alk,Alm]
  ·have e1:=D9 i0 i1
   simp only[Ar i0,Ar i1]at e1
   simp only[AlM,AlV,AlW,e1]
   exact ih (b-(j+1)) (by omega) (j+1) _ n rfl (by omega) (by rw[size_swp];omega) (by rw[size_swp];omega) (by omega)
 ·simp only[h,AlX,AlW]
theorem H7:∀ (j:Nat) (d:Array Int),(shiftDown ltInt j d).size=d.size:=by
 intro j
 induction j with
 |zero=>intro d;rfl
 |succ j ih=>
  intro d
  rw[shiftDown]
  split
  ·rfl
  ·rw[ih,size_swp]
theorem CF(b:Nat):∀ (k j:Nat) (d:Array Int),b-j=k→(shiftUp ltInt b j d).size=d.size:=by
 intro k
 induction k using Nat.strongRecOn with
 |_ k ih=>
 intro j d hk
 rw[shiftUp]
 split
 ·split
  ·rfl
  ·rw[ih (b-(j+1)) (by omega) (j+1) _ rfl,size_swp]
 ·rfl
theorem AFu(a b:Nat)(hab:a<b):∀ (k i s:Nat) (d:Array Int) (n:Nat),s+k=5→a+1≤i→i≤b→b≤d.size→d.size<4294967296→k<n →
  AQ CZ n (d.toList,(a:Int),(b:Int),(i:Int),(s:Int),())=some (.inl ((partialIns ltInt a b k i d).1.toList,(partialIns ltInt a b k i d).2,())) ∨
  ((partialIns ltInt a b k i d).2=false∧AQ CZ n (d.toList,(a:Int),(b:Int),(i:Int),(s:Int),())=some (.inr (.inl ((partialIns ltInt a b k i d).1.toList,())))):=by
 intro k
 induction k with
 |zero=>
  intro i s d n hk h1 hi hb hs hn
  obtain⟨n,rfl⟩:∃ k,n=k+1:=⟨n-1,by omega⟩
  rw[AQ,CZ,Al,AlE (by omega)]
  exact .inr ⟨rfl,rfl⟩
 |succ k ih=>
  intro i s d n hk h1 hi hb hs hn
  have hm:4294967296<many:=by simp only[many];omega
  have es:IntKind.wrap .i64 ((s:Int)+1)=((s+1:Nat):Int):=AH (by omega)
  obtain⟨n,rfl⟩:∃ k,n=k+1:=⟨n-1,by omega⟩
  rw[AQ,CZ,Al,AlF (by omega),partialIns]
  simp only[Ae,AFt d a b s hb hs (b-i) i many rfl (by omega) hi (by omega)]
  have hsc:=FJ d b _ i rfl hi
  generalize scanSorted ltInt d b i=i2 at *
  simp only[R3]
  by_cases h2:i2=b
  ·simp only[h2,AlT,Alm,true_or]
  ·simp (disch:=omega) only[h2,AlX,AlW,Bh,Al,Ap]
   by_cases h3:b-a<50
   ·rw[AlU h3,AlF (by omega)]
    exact .inl rfl
   ·have i0:i2<d.size:=by omega
    have i1:i2-1<d.size:=by omega
    rw[AlQ h3,AlE (by omega)]
    simp (disch:=omega) only[Ao,AH,Ai i0,Ai i1,(D9 i0 i1).1,(D9 i0 i1).2]
    have hsz:=size_swp d i2 (i2-1)
    generalize swp d i2 (i2-1)=d2 at *
    by_cases h4:i2-a≥2
    ·rw[AlU h4,AlF (show(2:Int)≤((i2-a:Nat):Int) by omega)]
     simp only[AFv a b i2 s (i2-1) d2 many (by omega) (by omega) (by omega)]
     have hsz2:=H7 (i2-1) d2
     generalize shiftDown ltInt (i2-1) d2=d3 at *
     simp (disch:=omega) only[Bh,AH]
     by_cases h5:b-i2≥2
     ·rw[AlU h5,AlF (show(2:Int)≤((b-i2:Nat):Int) by omega)]
      simp only[Xo a b i2 s _ (i2+1) d3 many rfl (by omega) (by omega) (by omega) (by omega)]
      simp only[es]
      exact ih i2 (s+1) (shiftUp ltInt b (i2+1) d3) n (by omega) (by omega) (by omega) (by rw[CF b (b-(i2+1)) (i2+1) _ rfl];omega) (by rw[CF b (b-(i2+1)) (i2+1) _ rfl];omega) (by omega)
     ·rw[AlQ h5,AlE (show ¬ (2:Int)≤((b-i2:Nat):Int) by omega)]
      simp only[es]
      exact ih i2 (s+1) d3 n (by omega) (by omega) (by omega) (by omega) (by omega) (by omega)
    ·rw[AlQ h4,AlE (show ¬ (2:Int)≤((i2-a:Nat):Int) by omega)]
     by_cases h5:b-i2≥2
     ·rw[AlU h5,AlF (show(2:Int)≤((b-i2:Nat):Int) by omega)]
      simp only[Xo a b i2 s _ (i2+1) d2 many rfl (by omega) (by omega) (by omega) (by omega)]
      simp only[es]
      exact ih i2 (s+1) (shiftUp ltInt b (i2+1) d2) n (by omega) (by omega) (by omega) (by rw[CF b (b-(i2+1)) (i2+1) _ rfl];omega) (by rw[CF b (b-(i2+1)) (i2+1) _ rfl];omega) (by omega)
     ·rw[AlQ h5,AlE (show ¬ (2:Int)≤((b-i2:Nat):Int) by omega)]
      simp only[es]
      exact ih i2 (s+1) d2 n (by omega) (by omega) (by omega) (by omega) (by omega) (by omega)
theorem AKi(d:Array Int)(a b:Nat)(hab:a<b)(hb:b≤d.size)(hs:d.size<4294967296):
  Jx (d.toList,(a:Int),(b:Int),())=some ((partialInsertionSort ltInt d a b).1.toList,(partialInsertionSort ltInt d a b).2,()):=by
 have hm:4294967296<many:=by simp only[many];omega
 rw[Xx,Kh,partialInsertionSort]
 simp (disch:=omega) only[AH,Ae]
 have h:=AFu a b hab 5 (a+1) 0 d many rfl (AlS _) (by omega) hb hs (by omega)
 rcases h with h|⟨h0,h⟩
 ·have h':AQ CZ many (d.toList,(a:Int),(b:Int),((a+1:Nat):Int),(0:Int),())=_:=h
  rw[h']
 ·have h':AQ CZ many (d.toList,(a:Int),(b:Int),((a+1:Nat):Int),(0:Int),())=_:=h
  rw[h',h0]
theorem Mg(d:Array Int)(a b:Nat)(s:Int)(ha:a<d.size)(hb:b<d.size):
  ∃ s' p q,Km (d.toList,(a:Int),(b:Int),s,())=some (d.toList,s',((p:Nat):Int),((q:Nat):Int),())∧(p=a∧q=b∨p=b∧q=a):=by
 rw[ACZ,OD]
 simp only[Ai ha,Ai hb,Ar ha,Ar hb,B6]
 cases ltInt d[b]! d[a]!
 ·exact⟨_,a,b,rfl,.inl ⟨rfl,rfl⟩⟩
 ·exact⟨_,b,a,rfl,.inr ⟨rfl,rfl⟩⟩
theorem Mm(d:Array Int)(a b c:Nat)(s:Int)(ha:a<d.size)(hb:b<d.size)(hc:c<d.size):
  ∃ s' p,Ku (d.toList,(a:Int),(b:Int),(c:Int),s,())=some (d.toList,s',((p:Nat):Int),())∧(p=a∨p=b∨p=c):=by
 rw[ACi,OK]
 obtain⟨s1,p1,q1,e1,h1⟩:=Mg d a b s ha hb
 simp only[e1]
 obtain⟨s2,p2,q2,e2,h2⟩:=Mg d q1 c s1 (by omega) hc
 simp only[e2]
 obtain⟨s3,p3,q3,e3,h3⟩:=Mg d p1 p2 s2 (by omega) (by omega)
 simp only[e3]
 exact⟨_,q3,rfl,by omega⟩
theorem Mo(d:Array Int)(a:Nat)(s:Int)(h1:1≤a)(ha:a+1<d.size)(hs:d.size<4294967296):
  ∃ s' p,Kv (d.toList,(a:Int),s,())=some (d.toList,s',((p:Nat):Int),())∧a≤p+1∧p≤a+1:=by
 rw[ACj,ON]
 simp (disch:=omega) only[Ao,AH]
 obtain⟨s1,p1,e1,h1⟩:=Mm d (a-1) a (a+1) s (by omega) (by omega) ha
 simp only[e1]
 exact⟨_,p1,rfl,by omega⟩
theorem AUe(d:Array Int)(a b:Nat)(hab:a+8≤b)(hb:b≤d.size)(hs:d.size<4294967296):
  ∃ p h,UP (d.toList,(a:Int),(b:Int),())=some (d.toList,((p:Nat):Int),h,())∧a≤p∧p<b:=by
 rw[AHV,RT]
 simp (disch:=omega) only[Bh,XU,AGl,Ew,AGk,wrap_add,Ap]
 rw[AlF (show(8:Int)≤((b-a:Nat):Int) by omega)]
 simp only[]
 by_cases h:50≤b-a
 ·rw[AlF (show(50:Int)≤((b-a:Nat):Int) by omega)]
  simp only[]
  obtain⟨s1,p1,e1,h1⟩:=Mo d (a+(b-a)/4*1) 0 (by omega) (by omega) hs
  simp only[e1]
  obtain⟨s2,p2,e2,h2⟩:=Mo d (a+(b-a)/4*2) s1 (by omega) (by omega) hs
  simp only[e2]
  obtain⟨s3,p3,e3,h3⟩:=Mo d (a+(b-a)/4*3) s2 (by omega) (by omega) hs
  simp only[e3]
  obtain⟨s4,p4,e4,h4⟩:=Mm d p1 p2 p3 s3 (by omega) (by omega) (by omega)
  simp only[e4]
  cases ieq s4 0
  ·cases ieq s4 12
   ·exact⟨p4,_,rfl,by omega,by omega⟩
   ·exact⟨p4,_,rfl,by omega,by omega⟩
  ·exact⟨p4,_,rfl,by omega,by omega⟩
 ·rw[AlE (show ¬ (50:Int)≤((b-a:Nat):Int) by omega)]
  simp only[]
  obtain⟨s4,p4,e4,h4⟩:=Mm d (a+(b-a)/4*1) (a+(b-a)/4*2) (a+(b-a)/4*3) 0 (by omega) (by omega) (by omega)
  simp only[e4]
  cases ieq s4 0
  ·cases ieq s4 12
   ·exact⟨p4,_,rfl,by omega,by omega⟩
   ·exact⟨p4,_,rfl,by omega,by omega⟩
  ·exact⟨p4,_,rfl,by omega,by omega⟩
end Go.Pev.Pl.SI
end
section
namespace Go.Pev.Pl.SI
open Go.Sort
theorem ASN(a b:Nat)(m:Nat)(h8:a+8≤b)(hm1:1≤m)(hm:m≤2*(b-a)):∀ (k t:Nat) (d:Array Int) (r:Int) (n:Nat),t+k=3→b≤d.size→d.size<4294967296→k<n →
  ∃ d':Array Int,AQ GX n (d.toList,(a:Int),((b-a:Nat):Int),r,(m:Int),((a+(b-a)/4*2-1+t:Nat):Int),())=some (.inl (d'.toList,()))∧PermIn a b d d':=by
 intro k
 induction k with
 |zero=>
  intro t d r n hk hb hs hn
  obtain⟨n,rfl⟩:∃ k,n=k+1:=⟨n-1,by omega⟩
  rw[AQ,GX]
  simp (disch:=omega) only[XU,Ew,wrap_add,AH,Bq]
  rw[AlE (by omega)]
  exact⟨d,rfl,permIn_refl d a b⟩
 |succ k ih=>
  intro t d r n hk hb hs hn
  obtain⟨n,rfl⟩:∃ k,n=k+1:=⟨n-1,by omega⟩
  rw[AQ,GX]
  simp (disch:=omega) only[XU,Ew,wrap_add,AH,Bq]
  rw[AlF (show a+(b-a)/4*2-1+t≤a+(b-a)/4*2+1 by omega)]
  obtain⟨r',y,e⟩:=XM r
  obtain⟨o,e2,ho⟩:=AQS y m hm1 (by omega)
  simp only[e,e2]
  rw[Aj (n:=(o:Int)) (by omega)]
  simp only[Bq]
  have i0:a+(b-a)/4*2-1+t<d.size:=by omega
  have fin:∀ q:Nat,a≤q→q<b→∃ d':Array Int,AQ GX n ((swp d (a+(b-a)/4*2-1+t) q).toList,(a:Int),((b-a:Nat):Int),r',(m:Int),((a+(b-a)/4*2-1+t+1:Nat):Int),())=some (.inl (d'.toList,()))∧PermIn a b d d':=by
   intro q hq1 hq2
   obtain⟨d',e',hp⟩:=ih (t+1) (swp d (a+(b-a)/4*2-1+t) q) r' n (by omega) (by rw[size_swp];omega) (by rw[size_swp];omega) (by omega)
   exact⟨d',e',permIn_trans _ _ _ a b (swp_permIn d a b _ q (by omega) (by omega) hq1 hq2 hb) hp⟩
  by_cases h:b-a≤o
  ·have i1:a+(o-(b-a))<d.size:=by omega
   simp (disch:=omega) only[h,AlT,Bh,wrap_add,AH,Ai i0,Ai i1,(D9 i0 i1).1,(D9 i0 i1).2]
   exact fin _ (by omega) (by omega)
  ·have i1:a+o<d.size:=by omega
   simp (disch:=omega) only[h,AlX,Bh,wrap_add,AH,Ai i0,Ai i1,(D9 i0 i1).1,(D9 i0 i1).2]
   exact fin _ (by omega) (by omega)
theorem AXe(d:Array Int)(a b:Nat)(hab:a≤b)(hb:b≤d.size)(hs:d.size<4294967296):
  ∃ d':Array Int,Wl (d.toList,(a:Int),(b:Int),())=some (d'.toList,())∧PermIn a b d d':=by
 have hm:4294967296<many:=by simp only[many];omega
 rw[AIQ,Sh]
 simp (disch:=omega) only[Bh,Ap]
 by_cases h:8≤b-a
 ·rw[AlF (show(8:Int)≤((b-a:Nat):Int) by omega)]
  obtain⟨m,e,h1,h2⟩:=Xz (b-a) (by omega) (by omega)
  simp only[e]
  rw[u64_in (n:=((b-a:Nat):Int)) (by omega)]
  simp (disch:=omega) only[XU,Ew,wrap_add,Ao,Ae]
  obtain⟨d',e2,hp⟩:=ASN a b m (by omega) h1 h2 3 0 d ((b-a:Nat):Int) many rfl hb hs (by omega)
  rw[Amo]at e2
  simp only[e2]
  exact⟨d',rfl,hp⟩
 ·rw[AlE (show ¬ (8:Int)≤((b-a:Nat):Int) by omega)]
  exact⟨d,rfl,permIn_refl d a b⟩
end Go.Pev.Pl.SI
end
section
namespace Go.Pev.Pl.SI
open Go.Sort
abbrev AZQ:=List Int×Int×Int×Int×Bool×Bool×Unit
abbrev Hd:=AZQ⊕(List Int×Unit)⊕Unit
noncomputable section
def N7(self:(List Int×Int×Int×Int×Unit)→Option ((List Int×Unit)))(y7:List Int)(a1 a2 p l:Int)(a4 a5:Bool):Option Hd:=
 match(ilt (0:Int) a1)with
 |true=>match idx y7 (IntKind.wrap .i64 (a1-(1:Int)))with
  |none=>none
  |some x9=>match idx y7 p with
   |none=>none
   |some x10=>match EK ((AP y7 (AF (IntKind.wrap .i64 (a1-(1:Int)))) (0:Int)),(AP y7 (AF p) (0:Int)),())with
    |none=>none
    |some (y11,_)=>match(!y11)with
     |true=>match OB (y7,a1,a2,p,())with
      |none=>none
      |some (y12,y13,_)=>some (.inl (y12,y13,a2,l,a4,a5,()))
     |false=>match Ra (y7,a1,a2,p,())with
      |none=>none
      |some (y14,y15,y16,_)=>match quo? .i64 (IntKind.wrap .i64 (a2-a1)) (8:Int)with
       |none=>none
       |some x17=>match(ilt (IntKind.wrap .i64 (y15-a1)) (IntKind.wrap .i64 (a2-y15)))with
        |true=>match self (y14,a1,y15,l,())with
         |none=>none
         |some (y18,_)=>some (.inl (y18,(IntKind.wrap .i64 (y15+(1:Int))),a2,l,(ile x17 (IntKind.wrap .i64 (y15-a1))),y16,()))
        |false=>match self (y14,(IntKind.wrap .i64 (y15+(1:Int))),a2,l,())with
         |none=>none
         |some (y19,_)=>some (.inl (y19,a1,y15,l,(ile x17 (IntKind.wrap .i64 (a2-y15))),y16,()))
 |false=>match Ra (y7,a1,a2,p,())with
  |none=>none
  |some (y20,y21,y22,_)=>match quo? .i64 (IntKind.wrap .i64 (a2-a1)) (8:Int)with
   |none=>none
   |some x23=>match(ilt (IntKind.wrap .i64 (y21-a1)) (IntKind.wrap .i64 (a2-y21)))with
    |true=>match self (y20,a1,y21,l,())with
     |none=>none
     |some (y24,_)=>some (.inl (y24,(IntKind.wrap .i64 (y21+(1:Int))),a2,l,(ile x23 (IntKind.wrap .i64 (y21-a1))),y22,()))
    |false=>match self (y20,(IntKind.wrap .i64 (y21+(1:Int))),a2,l,())with
     |none=>none
     |some (y25,_)=>some (.inl (y25,a1,y21,l,(ile x23 (IntKind.wrap .i64 (a2-y21))),y22,()))
def AKd(self:(List Int×Int×Int×Int×Unit)→Option ((List Int×Unit)))(y6:List Int)(a1 a2 p h l:Int)(a4 a5:Bool):Option Hd:=
 match a4 with
 |true=>match a5 with
  |true=>match(ieq h (1:Int))with
   |true=>match Jx (y6,a1,a2,())with
    |none=>none
    |some (y7,y8,_)=>match y8 with
     |true=>some (.inr (.inl (y7,())))
     |false=>N7 self y7 a1 a2 p l a4 a5
   |false=>N7 self y6 a1 a2 p l a4 a5
  |false=>N7 self y6 a1 a2 p l a4 a5
 |false=>N7 self y6 a1 a2 p l a4 a5
def AKV(self:(List Int×Int×Int×Int×Unit)→Option ((List Int×Unit)))(y2:List Int)(a1 a2 l:Int)(a4 a5:Bool):Option Hd:=
 match UP (y2,a1,a2,())with
 |none=>none
 |some (y3,y4,y5,_)=>match(ieq y5 (2:Int))with
  |true=>match AaU (y3,a1,a2,())with
   |none=>none
   |some (y6,_)=>AKd self y6 a1 a2 (IntKind.wrap .i64 ((IntKind.wrap .i64 (a2-(1:Int)))-(IntKind.wrap .i64 (y4-a1)))) 1 l a4 a5
  |false=>AKd self y3 a1 a2 y4 y5 l a4 a5
def APN(self:(List Int×Int×Int×Int×Unit)→Option ((List Int×Unit))):AZQ→Option Hd:=fun(a0,a1,a2,a3,a4,a5,_)=>
 match(ile (IntKind.wrap .i64 (a2-a1)) (12:Int))with
 |true=>match Ab5 (a0,a1,a2,())with
  |none=>none
  |some (y0,_)=>some (.inr (.inl (y0,())))
 |false=>match(ieq a3 (0:Int))with
  |true=>match AH0 (a0,a1,a2,())with
   |none=>none
   |some (y1,_)=>some (.inr (.inl (y1,())))
  |false=>match(!a4)with
   |true=>match Wl (a0,a1,a2,())with
    |none=>none
    |some (y2,_)=>AKV self y2 a1 a2 (IntKind.wrap .i64 (a3-(1:Int))) a4 a5
   |false=>AKV self a0 a1 a2 a3 a4 a5
theorem AFq:N8=APN:=rfl
end
def Iv(d:Array Int)(a b:Nat):Hd→Prop
 |.inl (xs,x,y,l,_,_,_)=>∃ (e:Array Int) (i j:Nat),xs=e.toList∧x=(i:Int)∧y=(j:Int)∧0≤l∧l≤100∧i≤j∧j≤e.size∧e.size=d.size∧j-i<b-a∧Below ltInt i j e ∧
   ∀ R,PermIn i j e R→SortedIn ltInt i j R→PermIn a b d R∧SortedIn ltInt a b R
 |.inr (.inl (xs,_))=>∃ R:Array Int,xs=R.toList∧PermIn a b d R∧SortedIn ltInt a b R
 |.inr (.inr _)=>False
def Bm(self:(List Int×Int×Int×Int×Unit)→Option ((List Int×Unit)))(m:Nat):Prop:=
 ∀ (d:Array Int) (a b:Nat) (l:Int),a≤b→b≤d.size→d.size<4294967296→0≤l→l≤100→Below ltInt a b d→2*(b-a)<m →
  ∃ R:Array Int,self (d.toList,(a:Int),(b:Int),l,())=some (R.toList,())∧PermIn a b d R∧SortedIn ltInt a b R
section
variable {self:(List Int×Int×Int×Int×Unit)→Option ((List Int×Unit))} {d:Array Int} {a b:Nat} {l:Int}
theorem MV(hself:Bm self (b-a))(hb:b≤d.size)(hs:d.size<4294967296)(hl:0≤l∧l≤100)
  {d3:Array Int} {p:Nat} (P3:PermIn a b d d3) (B3:Below ltInt a b d3) (hp1:a≤p) (hp2:p<b) :
  ∃ o,(match Ra (d3.toList,(a:Int),(b:Int),(p:Int),())with
  |none=>none
  |some (y20,y21,y22,_)=>match quo? .i64 (IntKind.wrap .i64 ((b:Int)-(a:Int))) (8:Int)with
   |none=>none
   |some x23=>match(ilt (IntKind.wrap .i64 (y21-(a:Int))) (IntKind.wrap .i64 ((b:Int)-y21)))with
    |true=>match self (y20,(a:Int),y21,l,())with
     |none=>none
     |some (y24,_)=>some ((.inl (y24,(IntKind.wrap .i64 (y21+(1:Int))),(b:Int),l,(ile x23 (IntKind.wrap .i64 (y21-(a:Int)))),y22,())):Hd)
    |false=>match self (y20,(IntKind.wrap .i64 (y21+(1:Int))),(b:Int),l,())with
     |none=>none
     |some (y25,_)=>some (.inl (y25,(a:Int),y21,l,(ile x23 (IntKind.wrap .i64 ((b:Int)-y21))),y22,())))=some o∧Iv d a b o:=by
 have b3:b≤d3.size:=by rw[P3.1];exact hb
 have s3:d3.size<4294967296:=by rw[P3.1];exact hs
 rw[Aa3 d3 a b p hp1 hp2 b3 s3]
 rcases hx:partition ltInt d3 a b p with⟨mid,ap,d4⟩
 obtain⟨g1,g2,hs4,hBa,hBr,hleft,hright⟩:=round_part swo_ltInt (partition_holds _) hp1 hp2 b3 B3 hx
 simp (disch:=omega) only[Bh,AH,Ajr,AK]
 have b4:b≤d4.size:=by omega
 by_cases h:mid-a<b-mid
 ·obtain⟨L,e,l1,l2⟩:=hself d4 a mid l g1 (by omega) (by omega) hl.1 hl.2 hBa (by omega)
  simp only[h,AlT,e]
  obtain⟨hBL,hfin⟩:=hleft _ l1 l2
  refine⟨_,rfl,L,mid+1,b,rfl,rfl,rfl,hl.1,hl.2,by omega,by rw[l1.1];exact b4,by rw[l1.1,hs4,P3.1],by omega,hBL,fun R r1 r2 => ?_⟩
  obtain⟨q1,q2⟩:=hfin R r1 r2
  exact⟨permIn_trans _ _ _ a b P3 q1,q2⟩
 ·obtain⟨L,e,l1,l2⟩:=hself d4 (mid+1) b l (by omega) (by omega) (by omega) hl.1 hl.2 hBr (by omega)
  simp only[h,AlX,e]
  obtain⟨hBL,hfin⟩:=hright _ l1 l2
  refine⟨_,rfl,L,a,mid,rfl,rfl,rfl,hl.1,hl.2,by omega,by rw[l1.1];omega,by rw[l1.1,hs4,P3.1],by omega,hBL,fun R r1 r2 => ?_⟩
  obtain⟨q1,q2⟩:=hfin R r1 r2
  exact⟨permIn_trans _ _ _ a b P3 q1,q2⟩
theorem FM(hself:Bm self (b-a))(hb:b≤d.size)(hs:d.size<4294967296)(hl:0≤l∧l≤100)
  {d3:Array Int} {p:Nat} (wb wp:Bool) (P3:PermIn a b d d3) (B3:Below ltInt a b d3) (hp1:a≤p) (hp2:p<b) :
  ∃ o,N7 self d3.toList (a:Int) (b:Int) (p:Int) l wb wp=some o∧Iv d a b o:=by
 have b3:b≤d3.size:=by rw[P3.1];exact hb
 have s3:d3.size<4294967296:=by rw[P3.1];exact hs
 rw[N7,Al]
 by_cases h0:0<a
 ·rw[AlF (by omega)]
  have i0:a-1<d3.size:=by omega
  have i1:p<d3.size:=by omega
  simp (disch:=omega) only[Ao,Ai,Ar,B6]
  cases hc:ltInt d3[a-1]! d3[p]!
  ·simp only[Alk]
   rw[AQP d3 a b p hp1 hp2 b3 s3]
   rcases hx:partitionEqual ltInt d3 a b p with⟨mid,d4⟩
   obtain⟨hm1,hm2,hs4,hB4,hfin⟩:=round_eq swo_ltInt (partitionEqual_holds _) h0 hp1 hp2 b3 B3 hc hx
   refine⟨_,rfl,d4,mid,b,rfl,rfl,rfl,hl.1,hl.2,by omega,by omega,by rw[hs4,P3.1],by omega,hB4,fun R r1 r2 => ?_⟩
   obtain⟨q1,q2⟩:=hfin R r1 r2
   exact⟨permIn_trans _ _ _ a b P3 q1,q2⟩
  ·simp only[AlM]
   exact MV hself hb hs hl P3 B3 hp1 hp2
 ·rw[AlE (by omega)]
  exact MV hself hb hs hl P3 B3 hp1 hp2
theorem RX(hself:Bm self (b-a))(hab:a<b)(hb:b≤d.size)(hs:d.size<4294967296)(hl:0≤l∧l≤100)
  {d3:Array Int} {p:Nat} (h:Int) (wb wp:Bool) (P3:PermIn a b d d3) (B3:Below ltInt a b d3) (hp1:a≤p) (hp2:p<b) :
  ∃ o,AKd self d3.toList (a:Int) (b:Int) (p:Int) h l wb wp=some o∧Iv d a b o:=by
 have b3:b≤d3.size:=by rw[P3.1];exact hb
 have s3:d3.size<4294967296:=by rw[P3.1];exact hs
 unfold AKd
 cases wb
 ·exact FM hself hb hs hl _ _ P3 B3 hp1 hp2
 ·cases wp
  ·exact FM hself hb hs hl _ _ P3 B3 hp1 hp2
  ·simp only[]
   cases ieq h 1
   ·exact FM hself hb hs hl _ _ P3 B3 hp1 hp2
   ·simp only[]
    rw[AKi d3 a b hab b3 s3]
    obtain⟨q1,q2⟩:=partialInsertionSort_holds (lt:=ltInt) swo_ltInt d3 a b hab b3 B3
    rcases hx:partialInsertionSort ltInt d3 a b with⟨d4,fin⟩
    rw[hx]at q1 q2
    have P4:PermIn a b d d4:=permIn_trans _ _ _ a b P3 q1
    cases fin
    ·exact FM hself hb hs hl _ _ P4 (B3.perm b3 q1) hp1 hp2
    ·exact⟨_,rfl,d4,rfl,P4,q2 rfl⟩
theorem RW(hself:Bm self (b-a))(hab:a+8≤b)(hb:b≤d.size)(hs:d.size<4294967296)(hl:0≤l∧l≤100)
  {d3:Array Int} (wb wp:Bool) (P3:PermIn a b d d3) (B3:Below ltInt a b d3) :
  ∃ o,AKV self d3.toList (a:Int) (b:Int) l wb wp=some o∧Iv d a b o:=by
 have b3:b≤d3.size:=by rw[P3.1];exact hb
 have s3:d3.size<4294967296:=by rw[P3.1];exact hs
 rw[AKV]
 obtain⟨p,h,e,hp1,hp2⟩:=AUe d3 a b hab b3 s3
 simp only[e]
 cases ieq h 2
 ·exact RX hself (by omega) hb hs hl h _ _ P3 B3 hp1 hp2
 ·simp only[AeV d3 a b (by omega) b3 s3]
  have q1:=reverseRange_holds (α:=Int) d3 a b (by omega) b3
  simp (disch:=omega) only[Ao,Bh]
  exact RX hself (by omega) hb hs hl 1 _ _ (permIn_trans _ _ _ a b P3 q1) (B3.perm b3 q1) (by omega) (by omega)
theorem UR(hself:Bm self (b-a))(hab:a≤b)(hb:b≤d.size)(hs:d.size<4294967296)(hl:0≤l∧l≤100)(wb wp:Bool)(B:Below ltInt a b d):
  ∃ o,N8 self (d.toList,(a:Int),(b:Int),l,wb,wp,())=some o∧Iv d a b o:=by
 rw[AFq,APN]
 simp (disch:=omega) only[Bh,Ap,ED]
 by_cases h12:b-a≤12
 ·rw[AlF (show((b-a:Nat):Int)≤12 by omega)]
  simp only[AgL d a b hab hb hs]
  obtain⟨q1,q2⟩:=insertionSort_holds (lt:=ltInt) swo_ltInt d a b hab hb
  exact⟨_,rfl,_,rfl,q1,q2⟩
 ·rw[AlE (show ¬ ((b-a:Nat):Int)≤12 by omega)]
  simp only[]
  by_cases h0:l=0
  ·subst h0
   simp only[BEq.rfl,AcJ d a b (by omega) hb hs]
   obtain⟨q1,q2⟩:=heapSort_holds (lt:=ltInt) swo_ltInt d a b hab hb
   exact⟨_,rfl,_,rfl,q1,q2⟩
  ·rw[show(l==0)=false by simpa using h0]
   simp only[]
   cases wb
   ·obtain⟨d',e,q1⟩:=AXe d a b hab hb hs
    simp only[Alk,e]
    rw[Aj (by omega)]
    exact RW hself (by omega) hb hs (by omega) _ _ q1 (B.perm hb q1)
   ·simp only[AlM]
    exact RW hself (by omega) hb hs hl _ _ (permIn_refl d a b) B
end
theorem MW{self:(List Int×Int×Int×Int×Unit)→Option ((List Int×Unit))}{m:Nat}(hself:Bm self m):∀ (k:Nat) (d:Array Int) (a b:Nat) (l:Int) (wb wp:Bool) (n:Nat),b-a=k→k≤m→a≤b→b≤d.size→d.size<4294967296→0≤l→l≤100→Below ltInt a b d→k<n →
  ∃ R:Array Int,AQ (N8 self) n (d.toList,(a:Int),(b:Int),l,wb,wp,())=some (.inl (R.toList,()))∧PermIn a b d R∧SortedIn ltInt a b R:=by
 intro k
 induction k using Nat.strongRecOn with
 |_ k ih=>
 intro d a b l wb wp n hk hm hab hb hs hl1 hl2 B hn
 obtain⟨n,rfl⟩:∃ k,n=k+1:=⟨n-1,by omega⟩
 have hself':Bm self (b-a):=fun d a' b' l h1 h2 h3 h4 h5 h6 h7=>hself d a' b' l h1 h2 h3 h4 h5 h6 (by omega)
 obtain⟨o,e,ho⟩:=UR hself' hab hb hs ⟨hl1,hl2⟩ wb wp B
 rw[AQ,e]
 match o,ho with
 |.inl (xs,x,y,l',wb',wp',_),ho=>
  obtain⟨e',i,j,rfl,rfl,rfl,g1,g2,g3,g4,g5,g6,g7,hfin⟩:=ho
  obtain⟨R,e2,r1,r2⟩:=ih (j-i) (by omega) e' i j l' wb' wp' n rfl (by omega) g3 g4 (by omega) g1 g2 g7 (by omega)
  exact⟨R,e2,hfin R r1 r2⟩
 |.inr (.inl (xs,_)),ho=>
  obtain⟨R,rfl,r1,r2⟩:=ho
  exact⟨R,rfl,r1,r2⟩
theorem US:∀ k:Nat,Bm (ID (k+1)) (2 ^ k):=by
 intro k
 have hmany:4294967296<many:=by simp only[many];omega
 induction k with
 |zero=>
  intro d a b l h1 h2 h3 h4 h5 h6 h7
  have:Bm (ID 0) 0:=fun _ _ _ _ _ _ _ _ _ _ h=>by omega
  obtain⟨R,e,r1,r2⟩:=MW this (b-a) d a b l true true many rfl (by omega) h1 h2 h3 h4 h5 h6 (by omega)
  refine⟨R,?_,r1,r2⟩
  rw[ID,AKY]
  simp only[Ae,e]
 |succ k ih=>
  intro d a b l h1 h2 h3 h4 h5 h6 h7
  have hp:2 ^ (k+1)=2*2 ^ k:=by rw[Nat.pow_succ];omega
  obtain⟨R,e,r1,r2⟩:=MW ih (b-a) d a b l true true many rfl (by omega) h1 h2 h3 h4 h5 h6 (by omega)
  refine⟨R,?_,r1,r2⟩
  rw[ID,AKY]
  simp only[Ae,e]
def sorted(xs:List Int):List Int:=xs.mergeSort (fun x y=>decide (x≤y))
theorem AZ7{d d':Array Int}(h1:PermIn 0 d.size d d')(h2:SortedIn ltInt 0 d.size d'):d'.toList=sorted d.toList:=by
 have h:=sorted_unique_holds (lt:=ltInt) swo_ltInt (fun x y h1 h2=>by simp[ltInt]at h1 h2;omega) d d' h1 h2
 rw[h,sorted]
 congr
 funext x y
 by_cases h:x≤y
 ·simp[ltInt,h,Int.not_lt.2 h]
 ·simp[ltInt,h,Int.not_le.1 h]
theorem AZ9(xs:List Int)(h:xs.length<4294967296):AOM (xs,())=some (sorted xs,()):=by
 obtain⟨d,rfl⟩:∃ d:Array Int,xs=d.toList:=⟨xs.toArray,rfl⟩
 rw[Alf]at h
 rw[AOL,ZB]
 rw[AMS,u64_in (by omega)]
 obtain⟨v,e,hv,_⟩:=NS d.size h
 simp only[e]
 obtain⟨R,e2,r1,r2⟩:=US 99 d 0 d.size (v:Int) (by omega) (by omega) h (by omega) (by omega) (.inl rfl) (by
  have:2 ^ 99=633825300114114700748351602688:=by decide
  omega)
 have e3:Aav (d.toList,(0:Int),(d.size:Int),(v:Int),())=some (R.toList,()):=by rw[AYZ];exact e2
 simp only[e3,AZ7 r1 r2]
end Go.Pev.Pl.SI
end
section
namespace Go.Pev.Pl
open Tok
theorem AMD{a o:List Int}{m k:Nat}(h:a.drop m=o.drop m)(hk:m≤k):a.getD k 0=o.getD k 0:=by
 have:=Amq (fun l=>l.getD (k-m) 0) h
 simp only[AlH,AmM]at this
 rw[Nat.add_sub_cancel' hk]at this
 simpa [AlH]using this
theorem MJ{xs:List Int}{i:Nat}(h:i<xs.length):xs.take (i+1)=xs.take i++[xs.getD i 0]:=by
 rw[Al1 h];simp[h]
theorem AhF(o:List Int)(n:Int)(rings:List (List Int))(hs:o.length<4294967296):∀ (k j w:Nat) (a:List Int) (cnt:Nat),j+k=o.length→a.length=o.length→w=(D0 n (o.take j)).length→a.take w=D0 n (o.take j)→w<j→a.drop j=o.drop j→k<cnt →
  ∃ a':List Int,AQ CV cnt (a,n,rings,(w:Int),(j:Int),())=some (.inl (a',n,rings,(((D0 n o).length:Nat):Int),()))∧a'.length=o.length∧a'.take (D0 n o).length=D0 n o:=by
 intro k
 induction k with
 |zero=>
  intro j w a cnt hk hl hw hq hwj hd hn
  obtain⟨cnt,rfl⟩:∃ k,cnt=k+1:=⟨cnt-1,by omega⟩
  have e:j=o.length:=by omega
  subst e
  rw[AmU]at hw hq
  rw[AQ,CV,AM,AK,AlE (by omega)]
  exact⟨a,by rw[hw],hl,by rw[← hw];exact hq⟩
 |succ k ih=>
  intro j w a cnt hk hl hw hq hwj hd hn
  obtain⟨cnt,rfl⟩:∃ k,cnt=k+1:=⟨cnt-1,by omega⟩
  have g1:a.getD j 0=o.getD j 0:=AMD hd (AlS _)
  have hdd:a.drop (j+1)=o.drop (j+1):=by
   have:=Amq (List.drop 1) hd
   simpa only[Amy]using this
  have hst:D0 n (o.take (j+1))=D0 n (o.take j)++if n≤o.getD j 0 then []else [o.getD j 0]:=by
   rw[MJ (by omega),D0,Amh]
   generalize o.getD j 0=v
   by_cases h:n≤v<;>simp[D0,h]
  rw[AQ,CV,AM,AK,AlF (by omega)]
  simp (disch:=omega) only[CJ (0:Int),EF,AD1,g1,Ap,AH]
  by_cases h:n≤o.getD j 0
  ·rw[AlF h]
   rw[AlU h,AmY]at hst
   exact ih (j+1) w a cnt (by omega) hl (by rw[hst];exact hw) (by rw[hst];exact hq) (by omega) hdd (by omega)
  ·rw[AlE h]
   rw[AlQ h]at hst
   refine ih (j+1) (w+1) (a.set w (o.getD j 0)) cnt (by omega) (by simp[hl]) (by rw[hst];simp[hw]) ?_ (by omega) ?_ (by omega)
   ·rw[hst,← hq,Al1 (by simp;omega)]
    simp[List.take_set_of_le]
   ·rw[List.drop_set_of_lt (by omega)]
    exact hdd
theorem AHn{n:Int}{o:List Int}(h:∀ j,j<o.length→decide (n≤o.getD j 0)=false):D0 n o=o:=by
 rw[D0,Am4]
 intro x hx
 obtain⟨j,hj,e⟩:=AmN hx
 have:=h j hj
 simp only[AlH,AlK hj,Als,e]at this
 simp only[this,Alk]
theorem AjU(o:List Int)(n:Int)(rings:List (List Int))(hs:o.length<4294967296):
  ∃ a:List Int,Ff (o,n,rings,())=some (a,n,rings,(((D0 n o).length:Nat):Int),())∧a.take (D0 n o).length=D0 n o:=by
 have hm:4294967296<many:=by simp only[many];omega
 rw[L0,Fe,Lw,FY]
 simp only[AM]
 rcases AAf (step:=Bn) (fun i=>(o,n,rings,(o.length:Int),(i:Int),())) o.length (fun i=>decide (n≤o.getD i 0)) (fun i=>.inl (o,n,rings,(i:Int),())) (.inr (.inl (o,n,rings,()))) (by omega)
   (fun i hi=>by
    rw[Bn]
    simp (disch:=omega) only[AK,hi,AlT,CJ (0:Int),EF,Ap,AH]
    cases decide (n≤o.getD i 0)<;>rfl) (by rw[Bn];simp only[AK,Nat.lt_irrefl,AlX])with⟨k,hk,hP,hF,e⟩|⟨hP,e⟩
 ·have e':AS Bn many (o,n,rings,(o.length:Int),(0:Int),())=_:=e
  have h0:D0 n (o.take k)=o.take k:=AHn fun j hj=>by
   rw[AlZ]at hj
   have:=hF j (by omega)
   rw[show(o.take k).getD j 0=o.getD j 0 by simp[AlH,List.getElem?_take_of_lt (show j<k by omega)]]
   exact this
  have h1:D0 n (o.take (k+1))=o.take k:=by
   rw[MJ hk,D0,Amh]
   have:(List.filter (fun t => !decide (n≤t)) [o.getD k 0])=[]:=by
    generalize o.getD k 0=v at *
    simp at hP
    simp[hP]
   rw[this,AmY]
   exact h0
  obtain⟨a',e2,e3,e4⟩:=AhF o n rings hs (o.length-(k+1)) (k+1) k o many (by omega) rfl (by rw[h1,AlZ];omega) (by rw[h1]) (by omega) rfl (by omega)
  have hle:(D0 n o).length≤o.length:=Amu _ _
  have hcl:(BY (D0 n o).length (a'.length-(D0 n o).length) 0 a').length=a'.length:=by
   simp[BY];omega
  have s0:Bv (BY (D0 n o).length (a'.length-(D0 n o).length) 0 a') (0:Int) (((D0 n o).length:Nat):Int)=some _:=Tj (l:=0) (by omega) (by omega)
  simp only[e',ED]
  rw[show((k:Int) == -1)=false from beq_false_of_ne (by omega),AH (by omega)]
  simp only[Ae,e2]
  rw[Tj (by omega) (by omega)]
  simp only[AmU,Alr,Ii,s0]
  refine⟨BY (D0 n o).length (a'.length-(D0 n o).length) 0 a',?_,?_⟩
  ·simp only[AlZ,Nat.sub_zero]
   rw[AmP (by omega)]
  ·rw[BY,List.take_append_of_le_length (by simp;omega),AnL,Nat.min_self]
   exact e4
 ·have e':AS Bn many (o,n,rings,(o.length:Int),(0:Int),())=_:=e
  have h0:=AHn hP
  simp only[e',ED]
  exact⟨o,by rw[h0];rfl,by rw[h0,AmU]⟩
theorem AOJ{n:Int}{A:List Int}(h:RG n A):SI.sorted (D0 n A)=PA n A:=by
 have hp:(SI.sorted (D0 n A)).Perm (D0 n A):=List.mergeSort_perm _ _
 have hpv:=Abk h
 have hs:(SI.sorted (D0 n A)).Pairwise (·≤·):=by
  have:=List.pairwise_mergeSort (le:=fun x y:Int=>decide (x≤y)) (fun a b c h1 h2=>by simp at *;omega) (fun a b=>by simp;omega) (D0 n A)
  exact this.imp fun h=>by simpa using h
 exact An9 (le:=fun a b:Int=>a≤b) (fun a b _ _ h1 h2=>by omega) hs ((ANj n A).imp fun h=>by omega) (hp.trans hpv)
theorem AMH{n:Int}{rings:List (List Int)}{i:Nat}{A:List Int}{v:Int}(h:FR n rings)(iv:In n v)(hi:rings[i]? = some A)(hv:v∈A):Ib ((n,(rings,())),v,())=some (PA n A,0,()):=by
 have hD:=h.dom
 have hRF:=Iu.2 h
 have gA:=h.rg A (AlY hi)
 have hl:=gA.1.1
 rw[X9,LA]
 have ht:K9 ((n,(rings,())),[v],())=some (0,()):=by
  rw[QL n rings _ hD (by simp),Wt]
  simp[hRF,iv]
 obtain⟨a,e1,e2⟩:=AjU A n rings (by omega)
 simp only[ht,Mx,AlM,Ahw n rings v hD,hRF,iv,An8,Alm,h.ABR hi iv.2.2.2 hv,Af hi,AXS (show A.length≤4294967296 by omega),e1,Bo,Ii,e2]
 have hle:(D0 n A).length≤A.length:=Amu _ _
 rw[SI.AZ9 _ (by omega),AOJ gA]
theorem ASp{N:Nat}{rings:List (List Int)}{l:List Edge}(h:FC (N:Int) rings l){i:Nat}{A:List Int}{v:Int}(iv:In (N:Int) v)(hi:rings[i]? = some A)(hv:v∈A):PA (N:Int) A=Ek N l v:=by
 have hA:=AlY hi
 obtain⟨s1,s2⟩:=h.fr.sz
 unfold PA Ek
 rw[AmA,List.filter_map]
 congr 1
 refine Am2 fun w hw => ?_
 rw[AmI]at hw
 have iw:In (N:Int) (w:Int):=⟨s1,s2,by omega,by omega⟩
 show decide ((w:Int)∈A)=DH l v (w:Int)
 rw[AmL,Alo,BV,← h.sam v (w:Int) iv iw]
 constructor
 ·intro hm
  exact⟨A,hA,hv,hm⟩
 ·rintro⟨B,hB,h1,h2⟩
  rw[h.fr.one hA hB iv.2.2.2 hv h1]
  exact h2
theorem FC.members{N:Nat}{rings:List (List Int)}{l:List Edge}(h:FC (N:Int) rings l){v:Int}(iv:In (N:Int) v):Ib (((N:Int),(rings,())),v,())=some (Ek N l v,0,()):=by
 obtain⟨i,A,_,hi,hv,_⟩:=MS (h.fr.cov v iv)
 rw[AMH h.fr iv hi hv,ASp h iv hi hv]
theorem ABx{n:Int}{ts:List Tie}(u v:Int)(hr:GC ((n,(ts,())),())=some (false,())):Pn ((n,(ts,())),u,v,())=some (0,1,()):=by
 rw[UQ,MU]
 simp only[hr,Alk]
theorem ABt{N:Nat}{ts:List Tie}(h:RG2 N ts)(u v:Int):Pn (((N:Int),(ts,())),u,v,())=some (if InV N u∧InV N v then(if ts.any (Br u v)=true then((ts.findIdx (Br u v):Nat):Int)else 0)else 0,if InV N u∧InV N v then(if ts.any (Br u v)=true then 0 else 6)else 10,()):=by
 rw[UQ,MU]
 simp only[h.lr,AlM,JD,R2,Al,Ap]
 by_cases h1:min u v<0
 ·have hc:¬ (InV N u∧InV N v):=fun q=>by unfold InV at q;omega
  simp only[AlF h1,AlQ hc]
 ·simp only[AlE h1]
  by_cases h2:(N:Int)≤max u v
  ·have hc:¬ (InV N u∧InV N v):=fun q=>by unfold InV at q;omega
   simp only[AlF h2,AlQ hc]
  ·have hc:InV N u∧InV N v:=⟨⟨by omega,by omega⟩,by omega,by omega⟩
   simp only[AlE h2,AlU hc,Abs h]
   cases hany:ts.any (Br u v)
   ·simp only[AlV,AlW]
    rw[AlF (by omega)]
   ·simp only[Alm]
    rw[AlE (by omega)]
theorem AYq:ieq (10:Int) 1=false:=by rw[Ak];rfl
theorem AUI(n:Int)(ts:List Tie)(ht:ts.length≤400)(u v k:Int):∃ s e,XV ((n,(ts,())),u,v,k,())=some (s,e,())∧AJf ((n,(ts,())),u,v,k,())=some (s,e,())∧s.length≤64:=by
 rcases N0 n ts (by omega)with⟨r1,r⟩|⟨N,rfl,h⟩
 ·refine⟨[],1,?_,?_,by simp⟩
  ·rw[ABJ,RN]
   simp only[ABx u v r,BS]
  ·rw[To,MM]
   simp only[r1,Alk]
 ·rw[ABJ,RN,To,MM]
  simp only[ABt h,h.r21,AlM,Rz]
  by_cases hu:0≤u∧u<(N:Int)
  ·by_cases hv:0≤v∧v<(N:Int)
   ·have hc:InV N u∧InV N v:=⟨hu,hv⟩
    have h1:=h.h1
    have hN:=h.hN
    have iu:In (N:Int) u:=⟨by omega,by omega,hu.1,hu.2⟩
    have iv:In (N:Int) v:=⟨by omega,by omega,hv.1,hv.2⟩
    obtain⟨zs,ef,hF⟩:=h.Aki k
    obtain⟨u,rfl⟩:=AlR hu.1
    obtain⟨v,rfl⟩:=AlR hv.1
    have hu':u<N:=by omega
    have hv':v<N:=by omega
    have hu1:=EJ h1 hN ts ht h.inE u hu' k
    have hv1:=EJ h1 hN ts ht h.inE v hv' k
    have l1:=IJ N (trk ts k) (u:Int)
    have l2:=IJ N (trk ts k) (v:Int)
    have b1:=OX N (trk ts k) (u:Int)
    have b2:=OX N (trk ts k) (v:Int)
    have hh:=OV (Ek N (trk ts k) (u:Int)) (v:Int) (by omega)
    have hg:∀ l:List Int,AP l 0 0=l.headD 0:=fun l=>by cases l<;>rfl
    have hcc:=Gp (Ek N (trk ts k) (u:Int)) (v:Int) (by omega)
    simp only[AlU hc,AlF hu,AlF hv,AlM,hu1,hv1,hh,ef,hF.members iu,hF.members iv,hcc,OJ hu',OJ hv',hg,LL,AKw]
    have e1:ieq (if(ts.any (Br (u:Int) (v:Int)))=true then(0:Int)else 6) 1=false:=by
     split<;>(rw[Ak];rfl)
    have e2:ieq (if(ts.any (Br (u:Int) (v:Int)))=true then(0:Int)else 6) 10=false:=by
     split<;>(rw[Ak];rfl)
    simp only[e1,e2]
    cases decide ((v:Int)∈Ek N (trk ts k) (u:Int))
    ·simp only[AM,l1,l2,AK,R3]
     by_cases q1:csz N (trk ts k) (u:Int)<csz N (trk ts k) (v:Int)
     ·have q2:Qf (csz N (trk ts k) (u:Int):Int) (csz N (trk ts k) (v:Int):Int) = -1:=by unfold Qf;rw[AlU (by omega)]
      simp only[AlF q1,q2,AlQ (show ¬ ((-1:Int)=0) by omega),Al,AlF (show(-1:Int)<0 by omega)]
      exact⟨_,_,rfl,rfl,by first|(simp;done)|omega⟩
     ·by_cases q2:csz N (trk ts k) (u:Int)=csz N (trk ts k) (v:Int)
      ·have q3:Qf (csz N (trk ts k) (u:Int):Int) (csz N (trk ts k) (v:Int):Int)=0:=by unfold Qf;rw[AlQ (by omega),AlQ (by omega)]
       simp only[AlE q1,AlF q2,q3,Alm]
       by_cases q4:(Ek N (trk ts k) (u:Int)).headD 0<(Ek N (trk ts k) (v:Int)).headD 0
       ·have q5:Qf ((Ek N (trk ts k) (u:Int)).headD 0) ((Ek N (trk ts k) (v:Int)).headD 0) = -1:=by unfold Qf;rw[AlU q4]
        simp only[q5,Al,AlF q4,AlF (show(-1:Int)<0 by omega)]
        exact⟨_,_,rfl,rfl,by first|(simp;done)|omega⟩
       ·have q5:¬ Qf ((Ek N (trk ts k) (u:Int)).headD 0) ((Ek N (trk ts k) (v:Int)).headD 0)<0:=by
         unfold Qf;rw[AlQ q4];split<;>omega
        simp only[Al,AlE q4,AlE q5]
        exact⟨_,_,rfl,rfl,by first|(simp;done)|omega⟩
      ·have q3:Qf (csz N (trk ts k) (u:Int):Int) (csz N (trk ts k) (v:Int):Int)=1:=by unfold Qf;rw[AlQ (by omega),AlU (by omega)]
       simp only[AlE q1,AlE q2,q3,AlQ (show ¬ ((1:Int)=0) by omega),Al,AlE (show ¬ (1:Int)<0 by omega)]
       exact⟨_,_,rfl,rfl,by first|(simp;done)|omega⟩
    ·exact⟨_,_,rfl,rfl,by first|(simp;done)|omega⟩
   ·have hc:¬ (InV N u∧InV N v):=fun q=>hv q.2
    simp only[AlQ hc,AlF hu,AlE hv,AlM,Alk,BS,AYq]
    exact⟨_,_,rfl,rfl,by first|(simp;done)|omega⟩
  ·have hc:¬ (InV N u∧InV N v):=fun q=>hu q.1
   simp only[AlQ hc,AlE hu,Alk,BS,AYq]
   exact⟨_,_,rfl,rfl,by first|(simp;done)|omega⟩
theorem AO1{N:Nat}(hN:N≤64)(ts:List Tie)(ht:ts.length≤400)(u v:Nat)(hu:u<N)(hv:v<N)(k:Int):∃ e,XV (((N:Int),(ts,())),(u:Int),(v:Int),k,())=some (BP N ts u v k,e,()):=by
 obtain⟨s,e,h1,h2,_⟩:=AUI (N:Int) ts ht u v k
 obtain⟨e',h3⟩:=AAd hN ts ht u v hu hv k
 rw[h2]at h3
 cases h3
 exact⟨_,h1⟩
end Go.Pev.Pl
end
section
namespace Go.Pev.Pl
open Tok
def ofM(s:List Int):List (Int×Int):=s.foldl (fun m w=>Ah m w 1) []
theorem Afs(w:Int):∀ (s:List Int) (m:List (Int×Int)),(AX (s.foldl (fun m w=>Ah m w 1) m) w).getD 0=if w∈s then 1 else(AX m w).getD 0:=by
 intro s
 induction s with
 |nil=>intro m;simp
 |cons x s ih=>
  intro m
  rw[AmF,ih,AC4]
  by_cases h:w∈s
  ·rw[AlU h,AlU (by simp[h])]
  ·rw[AlQ h]
   by_cases hx:w=x
   ·rw[AlU hx,AlU (by simp[hx])];rfl
   ·rw[AlQ hx,AlQ (by simp[h,hx])]
theorem AYk(s:List Int)(w:Int):(AX (ofM s) w).getD 0=if Ab s w=true then 1 else 0:=by
 unfold ofM Ab
 rw[Afs]
 simp[AX]
def YB(S:Int→Bool)(x:Tie):Int:=(if S x.1=true then 1 else 0)+(if S x.2.1=true then 1 else 0)
theorem AIE(s:List Int)(x:Tie):IntKind.wrap .i64 ((AX (ofM s) x.1).getD 0+(AX (ofM s) x.2.1).getD 0)=YB (Ab s) x:=by
 rw[AYk,AYk]
 unfold YB
 rw[Aj (by split<;>split<;>omega)]
theorem ARq(S:Int→Bool)(x:Tie):ieq (YB S x) 2=both S x:=by
 rw[Ak];unfold YB both
 cases S x.1<;>cases S x.2.1<;>rfl
theorem Acq(S:Int→Bool)(x:Tie):ieq (YB S x) 0=(!S x.1 && !S x.2.1):=by
 rw[Ak];unfold YB
 cases S x.1<;>cases S x.2.1<;>rfl
theorem Ag9(S:Int→Bool)(x:Tie):ieq (YB S x) 1=decide (Dl S x):=by
 rw[Ak]
 refine Amd.2 ?_
 unfold YB Dl
 generalize S x.1=a
 generalize S x.2.1=b
 cases a<;>cases b<;>simp
def otp(i:Int):Nat→List Tie→List Int
 |_,[]=>[]
 |j,x::R=>if x.2.2.2.1=false∧x.2.2.1=i then(j:Int)::otp i (j+1) R else otp i (j+1) R
theorem AkN(S:Int→Bool)(top i:Int):∀ (R:List Tie) (j:Nat),otp i j (R.map (rT S top i))=otp i j R:=by
 intro R
 induction R with
 |nil=>intro j;rfl
 |cons x R ih=>
  intro j
  rw[Ald,otp,otp,ih,Kb]
  by_cases h:x.2.2.2.1=false
  ·rw[E2 h]
  ·rw[AlQ (fun q=>h q.1),AlQ (fun q=>h q.1)]
section
variable (n:Int) (a2 a3:Bool) (a4 a5 top:Int)
theorem Aa1(O:List Tie)(r i:Int)(s:List Int)(hs:s.length≤400):
  AS Ma many (n,O,a2,a3,a4,a5,r,top,i,([]:List (Int×Int)),s,(s.length:Int),(0:Int),())=some (.inl (n,O,a2,a3,a4,a5,r,top,i,ofM s,())):=by
 have e:=CX (step:=Ma) (fun j (m:List (Int×Int))=>(n,O,a2,a3,a4,a5,r,top,i,m,s,(s.length:Int),(j:Int),())) s (fun w m=>.inl (Ah m w 1)) (fun m=>.inl (n,O,a2,a3,a4,a5,r,top,i,m,())) (fun _ _=>True) (by omega)
  (fun j x m hj hx _=>by
   refine⟨fun m' h' => ?_,fun r h'=>(by cases h')⟩
   cases h'
   refine⟨?_,trivial⟩
   unfold Ma
   dsimp only
   rw[AK,AlF hj]
   simp only[Af hx,CU hx]
   rw[AH (by omega)])
  (fun m _=>by unfold Ma;dsimp only;rw[AK,AlE (by omega)]) [] trivial
 have e':AS Ma many (n,O,a2,a3,a4,a5,r,top,i,([]:List (Int×Int)),s,(s.length:Int),(0:Int),())=_:=e
 rw[e',BC (fun w (m:List (Int×Int))=>Ah m w 1)]
 rfl
theorem Aa0(O:List Tie)(hO:O.length≤400)(r:Nat)(hr:r<1073741824)(i:Nat)(hi:i<64)(s:List Int):
  AS MZ many (n,O,a2,a3,a4,a5,(r:Int),top,(i:Int),ofM s,([]:List Int),(O.length:Int),(0:Int),()) =
  some (.inl (n,O.map (rT (Ab s) top i),a2,a3,a4,a5,((r+Ft (Ab s) i O:Nat):Int),top,ofM s,otp i 0 O,())):=by
 have key:∀ (R A:List Tie) (j cnt q:Nat) (ps:List Int),A.length=j→A.length+R.length=O.length→R.length<cnt→q+R.length<2147483648→ps.length≤j →
   AQ MZ cnt (n,A++R,a2,a3,a4,a5,(q:Int),top,(i:Int),ofM s,ps,(O.length:Int),(j:Int),()) =
   some (.inl (n,A++R.map (rT (Ab s) top i),a2,a3,a4,a5,((q+Ft (Ab s) i R:Nat):Int),top,ofM s,ps++otp i j R,())):=by
  intro R
  induction R with
  |nil=>
   intro A j cnt q ps hA hl hc hq hp
   obtain⟨cnt,rfl⟩:∃ c,cnt=c+1:=⟨cnt-1,by omega⟩
   unfold MZ
   rw[AQ]
   dsimp only
   rw[AK,AlE (by simp at hl;omega)]
   simp[Ft,otp]
  |cons x R ih=>
   intro A j cnt q ps hA hl hc hq hp
   obtain⟨cnt,rfl⟩:∃ c,cnt=c+1:=⟨cnt-1,by omega⟩
   rw[AlP]at hl hc hq
   have hg:=Q1 (R:=R) (x:=x) hA
   have next:∀ (y:Tie) (q':Nat) (ps':List Int),q'+R.length<2147483648→ps'.length≤j+1→rT (Ab s) top i x=y→q'+Ft (Ab s) i R=q+Ft (Ab s) i (x::R)→ps'++otp i (j+1) R=ps++otp i j (x::R) →
     AQ MZ cnt (n,A++y::R,a2,a3,a4,a5,(q':Int),top,(i:Int),ofM s,ps',(O.length:Int),((j+1:Nat):Int),()) =
     some (.inl (n,A++(x::R).map (rT (Ab s) top i),a2,a3,a4,a5,((q+Ft (Ab s) i (x::R):Nat):Int),top,ofM s,ps++otp i j (x::R),())):=by
    intro y q' ps' hq' hp' hy hcnt hps
    have:=ih (A++[y]) (j+1) cnt q' ps' (by simp[hA]) (by simp;omega) (by omega) hq' hp'
    rw[Alv]at this
    rw[Ama]at this
    rw[this,hcnt,Ald,hy,Alv,hps]
    rfl
   have hcc:Ft (Ab s) i (x::R)=Ft (Ab s) i R+if(x.2.2.2.1&&(decide (x.2.2.1=(i:Int))&&both (Ab s) x))=true then 1 else 0:=by
    unfold Ft
    rw[AnS]
   have hot:otp (i:Int) j (x::R)=if x.2.2.2.1=false∧x.2.2.1=(i:Int)then(j:Int)::otp i (j+1) R else otp i (j+1) R:=rfl
   unfold MZ at next ⊢
   rw[AQ]
   dsimp only
   rw[AK,AlF (by omega)]
   simp only[Af hg,CU hg]
   rw[AH (show j+1<9223372036854775808 by omega),AH (show q+1<9223372036854775808 by omega),Ak]
   by_cases h3:x.2.2.1=(i:Int)
   ·rw[AlF h3]
    simp only[AlM]
    cases h4:x.2.2.2.1
    ·simp only[Alk]
     rw[A6 (by simp only[AM,AlP,Ala];omega),Ii,CO]
     refine next x q _ (by omega) (by simp;omega) (E2 h4) ?_ ?_
     ·rw[hcc,h4];simp
     ·rw[hot,AlU ⟨h4,h3⟩];simp
    ·simp only[AlM]
     rw[AIE,ARq]
     cases hb:both (Ab s) x
     ·simp only[]
      refine next x q ps (by omega) (by omega) ?_ ?_ ?_
      ·unfold rT
       rw[AlQ (fun hh=>by rw[hb]at hh;exact absurd hh.2.2 (by simp))]
      ·rw[hcc,hb];simp
      ·rw[hot,AlQ (fun hh=>by rw[h4]at hh;exact absurd hh.1 (by simp))]
     ·simp only[]
      rw[KS hA,JD,h3,AH (show i+1<9223372036854775808 by omega)]
      refine next _ (q+1) ps (by omega) (by omega) ?_ ?_ ?_
      ·unfold rT
       rw[AlU ⟨h4,h3,hb⟩]
       unfold FL
       rw[h3,h4]
       rfl
      ·rw[hcc,h4,AlF h3,hb];simp;omega
      ·rw[hot,AlQ (fun hh=>by rw[h4]at hh;exact absurd hh.1 (by simp))]
   ·rw[AlE h3]
    simp only[Alk]
    refine next x q ps (by omega) (by omega) ?_ ?_ ?_
    ·unfold rT
     rw[AlQ (fun hh=>h3 hh.2.1)]
    ·rw[hcc,AlE h3];simp
    ·rw[hot,AlQ (fun hh=>h3 hh.2)]
 have:=key O [] 0 many r [] rfl (by simp) (by simp only[many];omega) (by omega) (by simp)
 rw[Ae]
 exact this
theorem Aaz(O:List Tie)(hO:O.length≤400)(r:Nat)(hr:r<1073741824)(i:Nat)(hi:i<64)(s:List Int):
  AS MY many (n,O,a2,a3,a4,a5,(r:Int),top,ofM s,otp i 0 O,((otp i 0 O).length:Int),(0:Int),()) =
  some (match(Aq (Ab s) top i O).2.2 with
   |some e=>.inr (.inl (n,(Aq (Ab s) top i O).1,a2,true,e.1,e.2.1,((r+(Aq (Ab s) top i O).2.1:Nat):Int),top,true,()))
   |none=>.inl (n,(Aq (Ab s) top i O).1,a2,a3,a4,a5,((r+(Aq (Ab s) top i O).2.1:Nat):Int),top,())):=by
 have key:∀ (R A:List Tie) (j cnt q:Nat) (pre:List Int),A.length=j→R.length<cnt→q+R.length<2147483648→pre.length≤j→j+R.length≤400 →
   AQ MY cnt (n,A++R,a2,a3,a4,a5,(q:Int),top,ofM s,pre++otp i j R,((pre++otp i j R).length:Int),(pre.length:Int),()) =
   some (match(Aq (Ab s) top i R).2.2 with
    |some e=>.inr (.inl (n,A++(Aq (Ab s) top i R).1,a2,true,e.1,e.2.1,((q+(Aq (Ab s) top i R).2.1:Nat):Int),top,true,()))
    |none=>.inl (n,A++(Aq (Ab s) top i R).1,a2,a3,a4,a5,((q+(Aq (Ab s) top i R).2.1:Nat):Int),top,())):=by
  intro R
  induction R with
  |nil=>
   intro A j cnt q pre hA hc hq hp hj
   obtain⟨cnt,rfl⟩:∃ c,cnt=c+1:=⟨cnt-1,by omega⟩
   unfold MY
   rw[AQ]
   dsimp only
   rw[AK,AlE (by simp[otp])]
   rfl
  |cons x R ih=>
   intro A j cnt q pre hA hc hq hp hj
   rw[AlP]at hc hq hj
   have hg:=Q1 (R:=R) (x:=x) hA
   rw[Aq,otp]
   by_cases hO:x.2.2.2.1=false∧x.2.2.1=(i:Int)
   ·obtain⟨h4,h3⟩:=hO
    rw[AlU ⟨h4,h3⟩,AlQ (fun hh=>by rcases hh with hh|hh;rw[h4]at hh;cases hh;exact hh h3)]
    obtain⟨cnt,rfl⟩:∃ c,cnt=c+1:=⟨cnt-1,by omega⟩
    have hlt:pre.length<(pre++(j:Int)::otp i (j+1) R).length:=by simp
    have hpx:(pre++(j:Int)::otp i (j+1) R)[pre.length]? = some (j:Int):=by simp
    have step:∀ (y:Tie) (q':Nat),q'+R.length<2147483648 →
      AQ MY cnt (n,A++y::R,a2,a3,a4,a5,(q':Int),top,ofM s,pre++(j:Int)::otp i (j+1) R,((pre++(j:Int)::otp i (j+1) R).length:Int),((pre.length+1:Nat):Int),()) =
      some (match(Aq (Ab s) top i R).2.2 with
       |some e=>.inr (.inl (n,A++y::(Aq (Ab s) top i R).1,a2,true,e.1,e.2.1,((q'+(Aq (Ab s) top i R).2.1:Nat):Int),top,true,()))
       |none=>.inl (n,A++y::(Aq (Ab s) top i R).1,a2,a3,a4,a5,((q'+(Aq (Ab s) top i R).2.1:Nat):Int),top,())):=by
     intro y q' hq'
     have:=ih (A++[y]) (j+1) cnt q' (pre++[(j:Int)]) (by simp[hA]) (by omega) hq' (by simp;omega) (by omega)
     have hpl:(pre++[(j:Int)]).length=pre.length+1:=by simp
     simp only[Alv,Ama,hpl]at this
     exact this
    unfold MY at step ⊢
    rw[AQ]
    dsimp only
    rw[AK,AlF hlt]
    simp only[Af hpx,CU hpx,CU hg]
    rw[AH (show pre.length+1<9223372036854775808 by omega),AH (show q+1<9223372036854775808 by omega),AIE,Acq,ARq,Ag9]
    cases hb:both (Ab s) x
    ·simp only[AlV,AlW]
     by_cases hx:Dl (Ab s) x
     ·have hnn:(!Ab s x.1 && !Ab s x.2.1)=false:=by
       unfold Dl at hx
       revert hx
       cases Ab s x.1<;>cases Ab s x.2.1<;>simp
      have hg2:(A++Cm x::R)[j]? = some (Cm x):=Q1 hA
      simp only[hnn,AlF hx,AlU hx]
      rw[KS hA]
      rw[show((x.1,(x.2.1,(x.2.2.1,(true,())))):Tie)=Cm x from rfl]
      simp only[CU hg2,Amo]
      rfl
     ·have hnn:(!Ab s x.1 && !Ab s x.2.1)=true:=by
       unfold Dl at hx
       unfold both at hb
       revert hx hb
       cases Ab s x.1<;>cases Ab s x.2.1<;>simp
      simp only[hnn,AlQ hx]
      exact step x q (by omega)
    ·have hnn:(!Ab s x.1 && !Ab s x.2.1)=false:=by
      unfold both at hb
      revert hb
      cases Ab s x.1<;>cases Ab s x.2.1<;>simp
     simp only[hnn,Alm]
     rw[KS hA,JD,h3,AH (show i+1<9223372036854775808 by omega)]
     have:=step (FL top x) (q+1) (by omega)
     have hr:((x.1,(x.2.1,(min top ((i+1:Nat):Int),(x.2.2.2.1,())))):Tie)=FL top x:=by
      unfold FL
      rw[h3]
      rfl
     rw[hr,this]
     rw[show q+1+(Aq (Ab s) top i R).2.1=q+((Aq (Ab s) top i R).2.1+1) by omega]
   ·have hor:x.2.2.2.1=true∨x.2.2.1≠(i:Int):=by
     cases h4:x.2.2.2.1
     ·exact .inr fun h3=>hO ⟨h4,h3⟩
     ·exact .inl rfl
    rw[AlQ hO,AlU hor]
    have:=ih (A++[x]) (j+1) cnt q pre (by simp[hA]) (by omega) (by omega) (by omega) (by omega)
    simp only[Alv,Ama]at this
    exact this
 have:=key O [] 0 many r [] rfl (by simp only[many];omega) (by omega) (by simp) (by omega)
 rw[Ae]
 exact this
end
theorem Aib{N:Nat}(hN:N≤64)(u v:Nat)(hu:u<N)(hv:v<N)(top:Int)(O:List Tie)(hO:O.length≤400)(a2 a3:Bool)(a4 a5:Int)(r:Nat)(hr:r<536870912)(i:Nat)(hi:i<64)(S:Int→Bool)(hS:S=Ab (BP N O u v i)):
  pat ((N:Int),O,a2,a3,a4,a5,(r:Int),top,(u:Int),(v:Int),(i:Int),()) =
  some (match(Aq S top i (O.map (rT S top i))).2.2 with
   |some e=>((N:Int),(Aq S top i (O.map (rT S top i))).1,a2,true,e.1,e.2.1,((r+Ft S i O+(Aq S top i (O.map (rT S top i))).2.1:Nat):Int),top,true,())
   |none=>((N:Int),(Aq S top i (O.map (rT S top i))).1,a2,a3,a4,a5,((r+Ft S i O+(Aq S top i (O.map (rT S top i))).2.1:Nat):Int),top,false,())):=by
 subst hS
 obtain⟨e,hs⟩:=AO1 hN O hO u v hu hv (i:Int)
 have hl:=AHD N O u v (i:Int)
 have hc:=AMa (Ab (BP N O u v i)) i O
 have e0:=Aa1 (N:Int) a2 a3 a4 a5 top O (r:Int) (i:Int) (BP N O u v i) (by omega)
 have e1:=Aa0 (N:Int) a2 a3 a4 a5 top O hO r (by omega) i hi (BP N O u v i)
 have e2:=Aaz (N:Int) a2 a3 a4 a5 top (O.map (rT (Ab (BP N O u v i)) top i)) (by simpa using hO) (r+Ft (Ab (BP N O u v i)) i O) (by omega) i hi (BP N O u v i)
 rw[AkN]at e2
 rw[AfH,AYa]
 simp only[hs,AM,e0,e1,e2]
 cases (Aq (Ab (BP N O u v i)) top i (O.map (rT (Ab (BP N O u v i)) top i))).2.2 with
 |none=>rfl
 |some e=>rfl
end Go.Pev.Pl
end
section
namespace Go.Pev.Pl
section
variable {α:Type} (z:α)
theorem ADd{a o:List α}{m k:Nat}(h:a.drop m=o.drop m)(hk:m≤k):a.getD k z=o.getD k z:=by
 have:=Amq (fun l=>l.getD (k-m) z) h
 simp only[AlH,AmM]at this
 rw[Nat.add_sub_cancel' hk]at this
 simpa [AlH]using this
theorem Lp{xs:List α}{i:Nat}(h:i<xs.length):xs.take (i+1)=xs.take i++[xs.getD i z]:=by
 rw[Al1 h];simp[h]
theorem AhE{σ ρ:Type}{step:σ→Option (σ⊕ρ)}(st:List α→Nat→Nat→σ)(fin:List α→Nat→ρ)(keep:α→Bool)(o:List α)
  (h:∀ a w j,a.length=o.length→j<o.length→w<j→a.getD j z=o.getD j z→step (st a w j)=some (.inl (if keep (o.getD j z)=true then st (a.set w (o.getD j z)) (w+1) (j+1)else st a w (j+1))))
  (hN:∀ a w,a.length=o.length→step (st a w o.length)=some (.inr (fin a w))) :
  ∀ (k j w:Nat) (a:List α) (cnt:Nat),j+k=o.length→a.length=o.length→w=((o.take j).filter keep).length→a.take w=(o.take j).filter keep→w<j→a.drop j=o.drop j→k<cnt →
  ∃ a':List α,AQ step cnt (st a w j)=some (fin a' (o.filter keep).length)∧a'.length=o.length∧a'.take (o.filter keep).length=o.filter keep:=by
 intro k
 induction k with
 |zero=>
  intro j w a cnt hk hl hw hq hwj hd hn
  obtain⟨cnt,rfl⟩:∃ k,cnt=k+1:=⟨cnt-1,by omega⟩
  have e:j=o.length:=by omega
  subst e
  rw[AmU]at hw hq
  rw[AQ,hN a w hl]
  exact⟨a,by rw[hw],hl,by rw[← hw];exact hq⟩
 |succ k ih=>
  intro j w a cnt hk hl hw hq hwj hd hn
  obtain⟨cnt,rfl⟩:∃ k,cnt=k+1:=⟨cnt-1,by omega⟩
  have g1:=ADd z hd (AlS j)
  have hdd:a.drop (j+1)=o.drop (j+1):=by
   have:=Amq (List.drop 1) hd
   simpa only[Amy]using this
  have hst:(o.take (j+1)).filter keep=(o.take j).filter keep++if keep (o.getD j z)=true then [o.getD j z]else []:=by
   rw[Lp z (by omega),Amh]
   generalize o.getD j z=v
   by_cases h:keep v=true<;>simp[h]
  rw[AQ,h a w j hl (by omega) hwj g1]
  by_cases hv:keep (o.getD j z)=true
  ·rw[AlU hv]at hst ⊢
   refine ih (j+1) (w+1) (a.set w (o.getD j z)) cnt (by omega) (by simp[hl]) (by rw[hst];simp[hw]) ?_ (by omega) ?_ (by omega)
   ·rw[hst,← hq,Al1 (by simp;omega)]
    simp[List.take_set_of_le]
   ·rw[List.drop_set_of_lt (by omega)]
    exact hdd
  ·rw[AlQ hv]at hst ⊢
   rw[AmY]at hst
   exact ih (j+1) w a cnt (by omega) hl (by rw[hst];exact hw) (by rw[hst];exact hq) (by omega) hdd (by omega)
theorem Acu{σ ρ σ' ρ':Type}{find:σ'→Option (σ'⊕ρ')}{step:σ→Option (σ⊕ρ)}(st:List α→Nat→Nat→σ)(fin:List α→Nat→ρ)(sf:Nat→σ')(fr:Nat→ρ')(fn:ρ')(keep:α→Bool)(o:List α)(hs:o.length<4294967296)
  (h:∀ a w j,a.length=o.length→j<o.length→w<j→a.getD j z=o.getD j z→step (st a w j)=some (.inl (if keep (o.getD j z)=true then st (a.set w (o.getD j z)) (w+1) (j+1)else st a w (j+1))))
  (hN:∀ a w,a.length=o.length→step (st a w o.length)=some (.inr (fin a w)))
  (f:∀ i,i<o.length→find (sf i)=if keep (o.getD i z)=true then some (.inl (sf (i+1)))else some (.inr (fr i))) (fN:find (sf o.length)=some (.inr fn)) :
  (o.filter keep=o∧AS find many (sf 0)=some fn) ∨
  (∃ k a',k<o.length∧AS find many (sf 0)=some (fr k)∧AS step many (st o k (k+1))=some (fin a' (o.filter keep).length)∧a'.length=o.length∧(o.filter keep).length≤o.length∧a'.take (o.filter keep).length=o.filter keep):=by
 have hm:4294967296<many:=by simp only[many];omega
 have hall:∀ n,(∀ j,j<n→j<o.length→keep (o.getD j z)=true)→(o.take n).filter keep=o.take n:=by
  intro n hj
  rw[Am4]
  intro x hx
  obtain⟨j,h1,rfl⟩:=Am7.1 hx
  have:=hj j (by omega) (by omega)
  simpa [show j<o.length by omega]using this
 rcases AAf (step:=find) sf o.length (fun i => !keep (o.getD i z)) fr fn (by omega) (fun i hi=>by rw[f i hi];cases keep (o.getD i z)<;>rfl) fN with⟨k,hk,hP,hF,e⟩|⟨hP,e⟩
 ·right
  have hkf:keep (o.getD k z)=false:=by
   cases hq:keep (o.getD k z)
   ·rfl
   ·rw[hq]at hP;cases hP
  have h1:(o.take k).filter keep=o.take k:=hall k fun j h1 _=>by
   have:=hF j h1
   cases hq:keep (o.getD j z)
   ·rw[hq]at this;cases this
   ·rfl
  have h2:(o.take (k+1)).filter keep=o.take k:=by
   rw[Lp z hk,Amh,h1,AmQ,hkf]
   simp
  obtain⟨a',e2,e3,e4⟩:=AhE z st fin keep o h hN (o.length-(k+1)) (k+1) k o many (by omega) rfl (by rw[h2,AlZ];omega) (by rw[h2]) (by omega) rfl (by omega)
  exact⟨k,a',hk,e,by rw[Ae];exact e2,e3,Amu _ _,e4⟩
 ·left
  refine⟨?_,e⟩
  have:=hall o.length fun j _ h2=>by
   have:=hP j h2
   cases hq:keep (o.getD j z)
   ·rw[hq]at this;cases this
   ·rfl
  rwa [AmU]at this
theorem AXT{a:List α}{w:Nat}(h:w≤a.length):(BY w (a.length-w) z a).take w=a.take w∧(BY w (a.length-w) z a).length=a.length:=by
 constructor
 ·rw[BY,List.take_append_of_le_length (by simp;omega),AnL,Nat.min_self]
 ·simp[BY];omega
end
end Go.Pev.Pl
end
section
namespace Go.Pev.Pl
open Tok
theorem AcR(n:Nat)(hn:n<4294967296):ARY ((n:Int),())=some ([],()):=by
 have e0:IntKind.wrap .i64 ((n:Int)-IntKind.wrap .i64 ((0:Int)-0))=(n:Int):=by rw[Aj (n:=(0:Int)-0) (by omega),Aj (by omega)];omega
 rw[ARX,Za]
 simp only[e0,Al]
 rw[AlE (by omega)]
 simp only[]
 by_cases h:0<n
 ·rw[AlF (by omega)]
  have s1:Bv ([]:List Unit) (0:Int) (0:Int)=some []:=by rw[Nu];rfl
  have s2:Bv (KE (AF (n:Int)) ((0:Int),((0:Int),((0:Int),(false,()))))) (0:Int) (0:Int)=some []:=by
   rw[Nu,Lq,AlU (by omega)]
   simp
  have s3:Lx (n:Int)=true:=(KB _).2 (by omega)
  simp only[s1,s2,s3]
  rfl
 ·rw[AlE (by omega)]
theorem AR4(xss:List (List Tie))(hs:xss.length<4294967296)(h:xss.flatten.length<4294967296):OZ (xss,())=some (xss.flatten,()):=by
 rw[AEE,OY]
 have e:=CX (step:=Eo) (fun i (a:Nat)=>(xss,(a:Int),xss,AO xss,(i:Int),())) xss (fun x a=>.inl (a+x.length)) (fun a=>.inl (xss,(a:Int),())) (fun i a=>a=(xss.take i).flatten.length) (by omega)
  (fun i x a hi hx ha=>by
   refine⟨fun m' h' => ?_,fun r h'=>by cases h'⟩
   cases h'
   have h1:=DR hx
   have h2:=EW xss (i+1)
   rw[h1,AlN]at h2
   rw[Eo]
   simp only[AM]
   rw[AK,AlF hi]
   simp only[Af hx]
   rw[wrap_add (by omega),AH (by omega),Al,AlE (by omega)]
   exact⟨rfl,by rw[h1,AlN,ha]⟩)
  (fun a _=>by rw[Eo,AM,AK,AlE (by omega)]) 0 rfl
 have e':AS Eo many (xss,(0:Int),xss,AO xss,(0:Int),())=_:=e
 rw[e',BC]
 have hsum:∀ (l:List (List Tie)) (a:Nat),l.foldl (fun a x=>a+x.length) a=a+l.flatten.length:=by
  intro l
  induction l with
  |nil=>intro a;rfl
  |cons x l ih=>intro a;rw[AmF,ih,Amz,AlN];omega
 rw[hsum,AmS]
 simp only[AcR _ h]
 have g:=CX (step:=En) (fun i (a:List Tie)=>(a,xss,AO xss,(i:Int),())) xss (fun x a=>.inl (a++x)) (fun a=>.inl (a,())) (fun i a=>a=(xss.take i).flatten) (by omega)
  (fun i x a hi hx ha=>by
   refine⟨fun m' h' => ?_,fun r h'=>by cases h'⟩
   cases h'
   have h1:=DR hx
   have h2:=EW xss (i+1)
   rw[h1,AlN]at h2
   rw[En]
   simp only[AM]
   rw[AK,AlF hi]
   simp only[Af hx]
   rw[AH (by omega),A6 (by rw[ha];omega)]
   exact⟨rfl,by rw[h1,ha]⟩)
  (fun a _=>by rw[En,AM,AK,AlE (by omega)]) [] rfl
 have g':AS En many ([],xss,AO xss,(0:Int),())=_:=g
 rw[g',BC]
 have hcat:∀ (l:List (List Tie)) (a:List Tie),l.foldl (fun a x=>a++x) a=a++l.flatten:=by
  intro l
  induction l with
  |nil=>intro a;simp
  |cons x l ih=>intro a;rw[AmF,ih,Amz,Alv]
 rw[hcat]
 rfl
def Fs(x:Edge):Edge:=(min x.1 x.2.1,max x.1 x.2.1,())
abbrev WM:=List (Edge×Int)
def Fq(m:WM)(x:Edge):Int:=(AX m x).getD 0
theorem AhG(o:List Edge)(m:WM)(hs:o.length<4294967296):
  ∃ a:List Edge,Io (o,m,())=some (a,m,(((o.filter fun x => !ieq (Fq m x) 0).length:Nat):Int),())∧a.take (o.filter fun x => !ieq (Fq m x) 0).length=o.filter fun x => !ieq (Fq m x) 0:=by
 have hp:=Acu (find:=CK) (step:=DN) ((0:Int),(0:Int),()) (fun a (w j:Nat)=>(a,m,(w:Int),(j:Int),())) (fun a (w:Nat)=>.inl (a,m,(w:Int),())) (fun i=>(o,m,(o.length:Int),(i:Int),())) (fun i=>.inl (o,m,(i:Int),())) (.inr (.inl (o,m,()))) (fun x => !ieq (Fq m x) 0) o hs
  (fun a w j ha hj hw hg=>by
   unfold DN
   dsimp only
   simp (disch:=omega) only[AM,AK,ha,hj,AlT,CJ ((0:Int),(0:Int),()),EF,AD1,hg,AH]
   unfold Fq
   cases (!ieq ((AX m (o.getD j ((0:Int),(0:Int),()))).getD 0) 0)<;>rfl)
  (fun a w ha=>by unfold DN;dsimp only;rw[AM,AK,AlE (by omega)])
  (fun i hi=>by
   unfold CK
   dsimp only
   simp (disch:=omega) only[AK,hi,AlT,CJ ((0:Int),(0:Int),()),EF,AH]
   unfold Fq
   cases ieq ((AX m (o.getD i ((0:Int),(0:Int),()))).getD 0) 0<;>rfl)
  (by unfold CK;dsimp only;rw[AK,AlE (by omega)])
 rw[PN,HZ,PI,HW]
 generalize (fun x => !ieq (Fq m x) 0)=keep at *
 rcases hp with⟨h0,e⟩|⟨k,a',hk,e,e2,hl,hle,e4⟩
 ·have e':AS CK many (o,m,AO o,(0:Int),())=_:=e
  simp only[e',Ak]
  exact⟨o,by rw[h0];rfl,by rw[h0,AmU]⟩
 ·have e':AS CK many (o,m,AO o,(0:Int),())=_:=e
  obtain⟨c1,c2⟩:=AXT ((0:Int),(0:Int),()) (a:=a') (w:=(o.filter keep).length) (by omega)
  have s0:Bv (BY (o.filter keep).length (a'.length-(o.filter keep).length) ((0:Int),(0:Int),()) a') (0:Int) (((o.filter keep).length:Nat):Int)=some _:=Jb (by omega)
  have s1:Bv a' (((o.filter keep).length:Nat):Int) (a'.length:Int)=some _:=DV (by omega)
  simp only[e',Ak]
  rw[AlE (by omega),AH (by omega)]
  simp only[e2,s1,AM,Alr,Ii,s0]
  refine⟨_,?_,c1.trans e4⟩
  rw[AlZ,c2,AmP (by omega)]
theorem AUh{N:Nat}(h1:1≤N)(hN:N≤64)(ts:List Tie)(l:List Edge)(hs:l.length<1073741824)(m:WM)(i:Nat)(x:Edge)(hi:i<l.length)(hx:l[i]? = some x)(hb:0≤Fq m (Fs x)∧Fq m (Fs x)≤(i:Int)):
  EH ((N:Int),ts,m,l,(l.length:Int),(i:Int),())=if In (N:Int) x.1∧In (N:Int) x.2.1 then some (.inl ((N:Int),ts,Ah m (Fs x) (Fq m (Fs x)+1),l,(l.length:Int),((i+1:Nat):Int),()))else some (.inr (.inl (10,()))):=by
 unfold EH
 dsimp only
 rw[AK,AlF hi]
 simp only[Af hx,JD,R2]
 have hw:IntKind.wrap .i64 (Fq m (Fs x)+1)=Fq m (Fs x)+1:=Aj (by omega)
 obtain⟨m1,m2⟩:=AVa m (Fs x) (Fq m (Fs x)) (Fq m (Fs x)+1)
 unfold Fq Fs at m1 m2 hw
 by_cases c1:min x.1 x.2.1<0
 ·rw[Al,AlF c1,AlQ (fun q=>by have q1:=q.1.2.2.1;have q2:=q.2.2.2.1;omega)]
 ·rw[Al,AlE c1]
  by_cases c2:(N:Int)≤max x.1 x.2.1
  ·rw[Ap,AlF c2,AlQ (fun q=>by have q1:=q.1.2.2.2;have q2:=q.2.2.2.2;omega)]
  ·rw[Ap,AlE c2,AlU ⟨⟨by omega,by omega,by omega,by omega⟩,⟨by omega,by omega,by omega,by omega⟩⟩]
   simp only[m1,hw,m2,AH (show i+1<9223372036854775808 by omega)]
   rfl
theorem AUk{N:Nat}(h1:1≤N)(hN:N≤64)(ts:List Tie)(l:List Edge)(hs:l.length<1073741824):
  (¬ ASW N l∧AS EH many ((N:Int),ts,([]:WM),l,(l.length:Int),(0:Int),())=some (.inl (10,()))) ∨
  (ASW N l∧∃ m:WM,(∀ x,Fq m x=0↔x∉l.map Fs)∧AS EH many ((N:Int),ts,([]:WM),l,(l.length:Int),(0:Int),())=some (.inr (.inl ((N:Int),ts,m,())))):=by
 have key:∀ (k i:Nat) (m:WM) (cnt:Nat),i+k=l.length→k<cnt→(∀ x,0≤Fq m x∧Fq m x≤(i:Int)∧(Fq m x=0↔x∉(l.take i).map Fs)) →
   ((∃ x∈l.drop i,¬ (In (N:Int) x.1∧In (N:Int) x.2.1))∧AQ EH cnt ((N:Int),ts,m,l,(l.length:Int),(i:Int),())=some (.inl (10,()))) ∨
   ((∀ x∈l.drop i,In (N:Int) x.1∧In (N:Int) x.2.1)∧∃ m':WM,(∀ x,Fq m' x=0↔x∉l.map Fs)∧AQ EH cnt ((N:Int),ts,m,l,(l.length:Int),(i:Int),())=some (.inr (.inl ((N:Int),ts,m',())))):=by
  intro k
  induction k with
  |zero=>
   intro i m cnt hi hc hm
   obtain⟨cnt,rfl⟩:∃ c,cnt=c+1:=⟨cnt-1,by omega⟩
   right
   have:i=l.length:=by omega
   subst this
   refine⟨fun x hx=>(by rw[List.drop_length]at hx;cases hx),m,fun x => ?_,?_⟩
   ·have:=(hm x).2.2
    rwa [AmU]at this
   ·unfold EH
    rw[AQ]
    dsimp only
    rw[AK,AlE (by omega)]
  |succ k ih=>
   intro i m cnt hi hc hm
   obtain⟨cnt,rfl⟩:∃ c,cnt=c+1:=⟨cnt-1,by omega⟩
   have hi':i<l.length:=by omega
   have hx:l[i]? = some l[i]:=AlK hi'
   have hdr:l.drop i=l[i]::l.drop (i+1):=Al2 hi'
   have htk:l.take (i+1)=l.take i++[l[i]]:=Al1 hi'
   rw[hdr]
   generalize hxe:l[i]=x at *
   have hb:=hm (Fs x)
   obtain⟨b1,b2,_⟩:=hb
   rw[AQ,AUh h1 hN ts l hs m i x hi' hx ⟨b1,b2⟩]
   by_cases hin:In (N:Int) x.1∧In (N:Int) x.2.1
   ·rw[AlU hin]
    have hst:∀ y,Fq (Ah m (Fs x) (Fq m (Fs x)+1)) y=if y=Fs x then Fq m (Fs x)+1 else Fq m y:=by
     intro y
     unfold Fq
     rw[AC4]
     split<;>rfl
    have:=ih (i+1) (Ah m (Fs x) (Fq m (Fs x)+1)) cnt (by omega) (by omega) (fun y=>by
     rw[hst]
     obtain⟨d1,d2,d3⟩:=hm y
     rw[htk,AmZ,AlJ]
     by_cases e:y=Fs x
     ·rw[AlU e]
      refine⟨by omega,by omega,⟨fun q=>by omega,fun q=>absurd (.inr (by simp[e])) q⟩⟩
     ·rw[AlQ e]
      refine⟨d1,by omega,d3.trans ⟨fun q hh => ?_,fun q hh=>q (.inl hh)⟩⟩
      rcases hh with hh|hh
      ·exact q hh
      ·exact e (by simpa using hh))
    rcases this with⟨⟨y,hy1,hy2⟩,h3⟩|⟨h2,h3⟩
    ·exact .inl ⟨⟨y,by simp[hy1],hy2⟩,h3⟩
    ·refine .inr ⟨fun y hy => ?_,h3⟩
     rcases AlO.1 hy with rfl|hy
     ·exact hin
     ·exact h2 y hy
   ·rw[AlQ hin]
    exact .inl ⟨⟨x,by simp,hin⟩,rfl⟩
 have hz:∀ x:Edge,Fq ([]:WM) x=0:=fun _=>rfl
 have:=key l.length 0 [] many (by omega) (by simp only[many];omega) (fun x=>by rw[hz];simp)
 rw[AnK]at this
 rw[Ae]
 rcases this with⟨⟨x,hx,hn⟩,e⟩|⟨h,e⟩
 ·exact .inl ⟨fun q=>hn (q x hx),e⟩
 ·exact .inr ⟨h,e⟩
theorem Aap{N:Nat}{ts:List Tie}(h:RG2 N ts)(l:List Edge)(hs:l.length<1073741824):
  ABs (((N:Int),(ts,())),l,())=some (if ∀ e∈l,In (N:Int) e.1∧In (N:Int) e.2.1 then(EN N ts l,0,())else([],10,())):=by
 have ht:=h.ht
 rw[ABr,RV]
 simp only[h.lr,AlM,AM]
 rcases AUk h.h1 h.hN ts l hs with⟨hn,e⟩|⟨hall,m,hm,e⟩
 ·rw[AlQ (show ¬ ∀ e∈l,In (N:Int) e.1∧In (N:Int) e.2.1 from hn)]
  simp only[e]
 ·rw[AlU (show ∀ e∈l,In (N:Int) e.1∧In (N:Int) e.2.1 from hall)]
  obtain⟨a,e1,e2⟩:=AhG (ts.map ed) m (by rw[Aly];omega)
  simp only[e,AV7 (N:Int) ts h.ht h.lr,e1,Bo,Ii,e2]
  congr 2
  have hf:((ts.map ed).filter fun x => !ieq (Fq m x) 0)=(ts.map ed).filter fun x=>decide (x∈l.map Fs):=by
   refine Am2 fun x _ => ?_
   rw[Ak,AmL,AmV,Al7,Alo,hm x]
   exact Am3
  rw[hf]
  have p1:((ts.map ed).filter fun x=>decide (x∈l.map Fs)).Pairwise Co:=h.edP.filter _
  have p2:=QI N ts l
  have hmem:∀ x:Edge,x∈((ts.map ed).filter fun x=>decide (x∈l.map Fs))↔x∈EN N ts l:=by
   intro x
   unfold EN
   rw[Alz,Alz,Py,Alo,Alo]
   have norm:∀ y:Edge,x=Fs y→x.1<x.2.1→x=y∨x=(y.2.1,y.1,()):=by
    rintro⟨a,b,⟨⟩⟩ rfl hlt
    unfold Fs at hlt ⊢
    simp only at hlt ⊢
    rcases Int.lt_or_le a b with q|q
    ·left;rw[An6 (by omega),AoS (by omega)]
    ·right;rw[Int.min_eq_right (by omega),Int.max_eq_left (by omega)]
   constructor
   ·rintro⟨q1,q2⟩
    have hlt:=h.Ak3 x q1
    obtain⟨i1,i2⟩:=h.inE x q1
    refine⟨⟨i1.2.2.1,hlt,i2.2.2.2,?_⟩,q1⟩
    obtain⟨y,hy,hyx⟩:=Alb.1 q2
    unfold Yq
    rcases norm y hyx.symm hlt with rfl|hh
    ·exact .inl hy
    ·refine .inr ?_
     rw[hh]
     exact hy
   ·rintro⟨⟨q1,q2,q3,q4⟩,q5⟩
    refine⟨q5,Alb.2 ?_⟩
    obtain⟨a,b,⟨⟩⟩:=x
    unfold Fs
    simp only at q2
    rcases q4 with q4|q4
    ·exact⟨_,q4,by simp only;rw[An6 (by omega),AoS (by omega)]⟩
    ·exact⟨_,q4,by simp only;rw[Int.min_eq_right (by omega),Int.max_eq_left (by omega)]⟩
  have asym:∀ a b:Edge,Co a b→Co b a→False:=fun a b q1 q2=>by unfold Co at *;omega
  have nd1:((ts.map ed).filter fun x=>decide (x∈l.map Fs)).Nodup:=p1.imp fun {a b} hh=>by rintro rfl;exact asym _ _ hh hh
  have nd2:(EN N ts l).Nodup:=p2.imp fun {a b} hh=>by rintro rfl;exact asym _ _ hh hh
  exact An9 (le:=Co) (fun a b _ _ q1 q2=>(asym a b q1 q2).elim) p1 p2 ((AnU nd1 nd2).2 hmem)
theorem AUj(n:Int)(ts:List Tie)(ht:ts.length≤400)(l:List Edge)(hs:l.length<1073741824):
  ∃ xs e,ABs ((n,(ts,())),l,())=some (xs,e,())∧QK ((n,(ts,())),l,())=some (xs,e,())∧xs.length≤4096:=by
 rcases N0 n ts (by omega)with⟨r1,r⟩|⟨N,rfl,h⟩
 ·refine⟨[],1,?_,?_,by simp⟩
  ·rw[ABr,RV]
   simp only[r,Alk]
  ·rw[WN,M7]
   simp only[r1,Alk]
 ·have e1:=Aap h l hs
  have e2:=QJ h l hs
  by_cases hall:∀ e∈l,In (N:Int) e.1∧In (N:Int) e.2.1
  ·rw[AlU hall]at e1 e2
   exact⟨_,_,e1,e2,AH3 N h.hN ts l⟩
  ·rw[AlQ hall]at e1 e2
   exact⟨_,_,e1,e2,by simp⟩
end Go.Pev.Pl
end
section
namespace Go.Pev.Pl
open Tok
theorem AO3{N:Nat}(hN:N≤64)(u v:Nat)(hu:u<N)(hv:v<N)(top w8:Int):
  ∀ (m:Nat) (O:List Tie) (r cnt:Nat),m≤64→O.length≤400→r+1000*m<536870912→m<cnt →
  AQ EV cnt ((0:Int),false,false,(0:Int),(0:Int),(0:Int),(u:Int),(v:Int),w8,true,(N:Int),O,true,false,(0:Int),(0:Int),(r:Int),top,(m:Int)-1,()) =
  some (.inl ((0:Int),false,false,(0:Int),(0:Int),(0:Int),(N:Int),(HB N u v top m O r).1,true,
   (match(HB N u v top m O r).2.1 with|some _=>true|none=>false),(match(HB N u v top m O r).2.1 with|some e=>e.1|none=>0),(match(HB N u v top m O r).2.1 with|some e=>e.2.1|none=>0),((HB N u v top m O r).2.2:Int),top,())):=by
 intro m
 induction m with
 |zero=>
  intro O r cnt hm hO hr hc
  obtain⟨cnt,rfl⟩:∃ c,cnt=c+1:=⟨cnt-1,by omega⟩
  unfold EV
  rw[AQ]
  dsimp only
  rw[Ap,AlE (by omega)]
  rfl
 |succ m ih=>
  intro O r cnt hm hO hr hc
  obtain⟨cnt,rfl⟩:∃ c,cnt=c+1:=⟨cnt-1,by omega⟩
  have em:((m+1:Nat):Int)-1=(m:Int):=by omega
  have hp:=Aib hN u v hu hv top O hO true false 0 0 r (by omega) m (by omega) _ rfl
  have l1:=N9 (Ab (BP N O u v m)) top m (O.map (rT (Ab (BP N O u v m)) top m))
  have l2:=AMa (Ab (BP N O u v m)) m O
  rw[Aly]at l1
  rw[em,HB]
  cases hf:(Aq (Ab (BP N O u v m)) top m (O.map (rT (Ab (BP N O u v m)) top m))).2.2 with
  |some e=>
   rw[hf]at hp
   have hst:EV ((0:Int),false,false,(0:Int),(0:Int),(0:Int),(u:Int),(v:Int),w8,true,(N:Int),O,true,false,(0:Int),(0:Int),(r:Int),top,(m:Int),())=some (.inr (.inl ((0:Int),false,false,(0:Int),(0:Int),(0:Int),(N:Int),(Aq (Ab (BP N O u v m)) top m (O.map (rT (Ab (BP N O u v m)) top m))).1,true,true,e.1,e.2.1,((r+Ft (Ab (BP N O u v m)) m O+(Aq (Ab (BP N O u v m)) top m (O.map (rT (Ab (BP N O u v m)) top m))).2.1:Nat):Int),top,()))):=by
    unfold EV
    dsimp only
    rw[Ap,AlF (show(0:Int)≤(m:Int) by omega)]
    simp only[hp,AlM]
   rw[AQ,hst]
  |none=>
   rw[hf]at hp
   have hst:EV ((0:Int),false,false,(0:Int),(0:Int),(0:Int),(u:Int),(v:Int),w8,true,(N:Int),O,true,false,(0:Int),(0:Int),(r:Int),top,(m:Int),())=some (.inl ((0:Int),false,false,(0:Int),(0:Int),(0:Int),(u:Int),(v:Int),w8,true,(N:Int),(Aq (Ab (BP N O u v m)) top m (O.map (rT (Ab (BP N O u v m)) top m))).1,true,false,(0:Int),(0:Int),((r+Ft (Ab (BP N O u v m)) m O+(Aq (Ab (BP N O u v m)) top m (O.map (rT (Ab (BP N O u v m)) top m))).2.1:Nat):Int),top,(m:Int)-1,())):=by
    unfold EV
    dsimp only
    rw[Ap,AlF (show(0:Int)≤(m:Int) by omega)]
    simp only[hp,Alk]
    rw[Aj (by omega)]
   rw[AQ,hst]
   exact ih _ _ cnt (by omega) (by rw[l1.1];exact hO) (by omega) (by omega)
theorem Aeo{N:Nat}{ts:List Tie}(h:RG2 N ts)(u v:Int):
  (¬ ((0≤u∧u<(N:Int))∧(0≤v∧v<(N:Int)))∧AFi (((N:Int),(ts,())),u,v,())=some ((N:Int),ts,ANh,10,())) ∨
  (((0≤u∧u<(N:Int))∧(0≤v∧v<(N:Int)))∧ts.any (Br u v)=false∧AFi (((N:Int),(ts,())),u,v,())=some ((N:Int),ts,ANh,6,())) ∨
  (((0≤u∧u<(N:Int))∧(0≤v∧v<(N:Int)))∧ts.any (Br u v)=true∧∃ t,ts[ts.findIdx (Br u v)]? = some t ∧
   AFi (((N:Int),(ts,())),u,v,())=some ((N:Int),(EM N ts (ts.findIdx (Br u v)) t).1,AdU t.2.2.2.1 (EM N ts (ts.findIdx (Br u v)) t).2.1 (EM N ts (ts.findIdx (Br u v)) t).2.2,0,())):=by
 have ht:=h.ht
 have hN:=h.hN
 rw[AKE,ABQ]
 simp only[ABt h]
 by_cases huv:InV N u∧InV N v
 ·right
  rw[AlU huv,AlU huv]
  cases ha:ts.any (Br u v)
  ·left
   refine⟨huv,rfl,?_⟩
   simp only[AlV,AlW,Ak]
   rfl
  ·right
   have hk:ts.findIdx (Br u v)<ts.length:=Ami.2 (AmK.1 ha)
   have hx:ts[ts.findIdx (Br u v)]? = some ts[ts.findIdx (Br u v)]:=AlK hk
   refine⟨huv,rfl,_,hx,?_⟩
   have hm:ts[ts.findIdx (Br u v)]∈ts:=AmE hk
   generalize ts[ts.findIdx (Br u v)]=t at *
   generalize ts.findIdx (Br u v)=p at *
   obtain⟨i1,i2,hlt,l1,l2⟩:=h.tie hm
   obtain⟨a,ha'⟩:=AlR i1.2.2.1
   obtain⟨b,hb'⟩:=AlR i2.2.2.1
   obtain⟨lv,hlv⟩:=AlR l1
   have haN:a<N:=by have:=i1.2.2.2;omega
   have hbN:b<N:=by have:=i2.2.2.2;omega
   have hT:=FI hN
   have hT64:=AI6 hN
   have s1:Bv ts (0:Int) (p:Int)=some (ts.take p):=Jb (by omega)
   have s2:Bv ts ((p+1:Nat):Int) (ts.length:Int)=some (ts.drop (p+1)):=DV (by omega)
   have hcat:OZ ([ts.take p,ts.drop (p+1)],())=some (ts.take p++ts.drop (p+1),()):=by
    rw[AR4 _ (by simp) (by simp;omega)]
    simp
   simp only[Alm,BS,AlM]
   simp only[Af hx,s1]
   rw[AH (by omega)]
   simp only[AM,s2,hcat,ACt N hN,hT]
   unfold EM
   cases h4:t.2.2.2.1
   ·obtain⟨m,hmany⟩:∃ m,many=m+1:=⟨many-1,by simp only[many]⟩
    have:AS EV many ((0:Int),false,false,(0:Int),(0:Int),(0:Int),t.1,t.2.1,t.2.2.1,false,(N:Int),ts.take p++ts.drop (p+1),false,false,(0:Int),(0:Int),(0:Int),(Bc N:Int),t.2.2.1,()) =
      some (.inl ((0:Int),false,false,(0:Int),(0:Int),(0:Int),(N:Int),ts.take p++ts.drop (p+1),false,false,(0:Int),(0:Int),(0:Int),(Bc N:Int),())):=by
     rw[Ae,hmany,AQ,EV]
    simp only[this]
    rfl
   ·simp only[Alm]
    have hlen:(ts.take p++ts.drop (p+1)).length≤400:=by rw[AlN,AlZ,Alr];omega
    have hs:=AO3 hN a b haN hbN (Bc N:Int) t.2.2.1 (lv+1) (ts.take p++ts.drop (p+1)) 0 many (by omega) hlen (by omega) (by simp only[many];omega)
    rw[← ha',← hb',show((lv+1:Nat):Int)-1=t.2.2.1 by omega]at hs
    have e2:t.1.toNat=a:=by omega
    have e3:t.2.1.toNat=b:=by omega
    have e4:t.2.2.1.toNat+1=lv+1:=by omega
    rw[e2,e3,e4]
    rw[← Ae]at hs
    have hs':AS EV many ((0:Int),false,false,(0:Int),(0:Int),(0:Int),t.1,t.2.1,t.2.2.1,true,(N:Int),ts.take p++ts.drop (p+1),true,false,(0:Int),(0:Int),(0:Int),(Bc N:Int),t.2.2.1,())=_:=hs
    simp only[hs']
    cases (HB N a b (Bc N:Int) (lv+1) (ts.take p++ts.drop (p+1)) 0).2.1 with
    |some e=>rfl
    |none=>rfl
 ·left
  rw[AlQ huv,AlQ huv]
  refine⟨huv,?_⟩
  simp only[Ak]
  rfl
theorem AeA(N u v:Nat)(top:Int):∀ (m:Nat) (O:List Tie) (r:Nat),(HB N u v top m O r).1.length=O.length:=by
 intro m
 induction m with
 |zero=>intro O r;rfl
 |succ m ih=>
  intro O r
  have l1:=N9 (Ab (BP N O u v m)) top m (O.map (rT (Ab (BP N O u v m)) top m))
  rw[Aly]at l1
  rw[HB]
  split
  ·exact l1.1
  ·rw[ih];exact l1.1
theorem AcW(N:Nat)(ts:List Tie)(p:Nat)(t:Tie):(EM N ts p t).1.length≤ts.length:=by
 unfold EM
 split
 ·rw[AeA,AlN,AlZ,Alr];omega
 ·show(ts.take p++ts.drop (p+1)).length≤_
  rw[AlN,AlZ,Alr];omega
theorem Aaf(n:Int)(ts:List Tie)(ht:ts.length≤400)(u v:Int):∃ O w e,AFi ((n,(ts,())),u,v,())=some (n,O,w,e,())∧AHb ((n,(ts,())),u,v,())=some (n,O,w,e,())∧O.length≤ts.length:=by
 rcases N0 n ts (by omega)with⟨r1,r⟩|⟨N,rfl,h⟩
 ·refine⟨ts,ANh,1,?_,?_,AlS _⟩
  ·rw[AKE,ABQ]
   simp only[ABx u v r,Ak]
   rfl
  ·rw[AQW,ZP]
   simp only[r1,Alk]
   rfl
 ·rcases Aeo h u v with⟨q,e⟩|⟨q,q1,e⟩|⟨q,q1,t,g,e⟩
  ·rcases OG h u v with⟨_,e'⟩|⟨q',_⟩|⟨q',_⟩
   ·exact⟨_,_,_,e,e',AlS _⟩
   ·exact absurd q' q
   ·exact absurd q' q
  ·rcases OG h u v with⟨q',_⟩|⟨_,_,e'⟩|⟨_,q',_⟩
   ·exact absurd q q'
   ·exact⟨_,_,_,e,e',AlS _⟩
   ·rw[q1]at q';cases q'
  ·rcases OG h u v with⟨q',_⟩|⟨_,q',_⟩|⟨_,_,t',g',e'⟩
   ·exact absurd q q'
   ·rw[q1]at q';cases q'
   ·rw[g]at g'
    cases g'
    exact⟨_,_,_,e,e',AcW _ _ _ _⟩
theorem AUo(n:Int)(ts:List Tie)(ht:ts.length≤400)(l:List Edge)(hs:l.length<1073741824):
  ∃ O w e,ABy ((n,(ts,())),l,())=some ((n,(O,())),w,e,())∧AD2 ((n,(ts,())),l,())=some ((n,(O,())),w,e,())∧O.length≤ts.length∧w.length≤4096:=by
 obtain⟨xs,e,g1,g2,hx⟩:=AUj n ts ht l hs
 rw[APM,ZL,AII,SS]
 simp only[g1,g2]
 cases he:(!(ieq e 0))
 ·have key:∀ (m i cnt cnt':Nat) (O:List Tie) (outs:List (Bool×Bool×Edge×Int×Unit)),i+m=xs.length→m<cnt→m<cnt'→O.length≤ts.length→outs.length=i →
    (∃ c,AQ EI cnt (n,ts,(0:Int),outs,n,O,xs,(xs.length:Int),(i:Int),())=some (.inl (n,ts,c,()))∧AQ CT cnt' (n,ts,(0:Int),xs,outs,n,O,(i:Int),())=some (.inl (n,ts,c,()))) ∨
    (∃ outs' O',AQ EI cnt (n,ts,(0:Int),outs,n,O,xs,(xs.length:Int),(i:Int),())=some (.inr (.inl ((0:Int),outs',n,O',())))∧AQ CT cnt' (n,ts,(0:Int),xs,outs,n,O,(i:Int),())=some (.inr (.inl ((0:Int),outs',n,O',())))∧O'.length≤ts.length∧outs'.length≤xs.length):=by
   intro m
   induction m with
   |zero=>
    intro i cnt cnt' O outs hi hc hc' hO ho
    obtain⟨cnt,rfl⟩:∃ c,cnt=c+1:=⟨cnt-1,by omega⟩
    obtain⟨cnt',rfl⟩:∃ c,cnt'=c+1:=⟨cnt'-1,by omega⟩
    refine .inr ⟨outs,O,?_,?_,hO,by omega⟩
    ·rw[AQ,EI,AK,AlE (by omega)]
    ·rw[AQ,CT,AM,AK,AlE (by omega)]
   |succ m ih=>
    intro i cnt cnt' O outs hi hc hc' hO ho
    obtain⟨cnt,rfl⟩:∃ c,cnt=c+1:=⟨cnt-1,by omega⟩
    obtain⟨cnt',rfl⟩:∃ c,cnt'=c+1:=⟨cnt'-1,by omega⟩
    have hi':i<xs.length:=by omega
    have hxx:xs[i]? = some xs[i]:=AlK hi'
    obtain⟨O',w,c,p1,p2,hl⟩:=Aaf n O (by omega) xs[i].1 xs[i].2.1
    have s1:EI (n,ts,(0:Int),outs,n,O,xs,(xs.length:Int),(i:Int),())=if c=0 then some (.inl (n,ts,(0:Int),outs++[w],n,O',xs,(xs.length:Int),((i+1:Nat):Int),()))else some (.inr (.inl (n,ts,c,()))):=by
     rw[EI,AK,AlF hi']
     simp only[Af hxx,CU hxx,p1,Ak]
     rw[A6 (by simp only[AM,AlP,Ala];omega),AH (by omega)]
     by_cases hc0:c=0
     ·rw[AlU hc0,AlF hc0];rfl
     ·rw[AlQ hc0,AlE hc0];rfl
    have s2:CT (n,ts,(0:Int),xs,outs,n,O,(i:Int),())=if c=0 then some (.inl (n,ts,(0:Int),xs,outs++[w],n,O',((i+1:Nat):Int),()))else some (.inr (.inl (n,ts,c,()))):=by
     rw[CT,AM,AK,AlF hi']
     simp only[Af hxx,CU hxx,p2,Ak]
     rw[A6 (by simp only[AM,AlP,Ala];omega),AH (by omega)]
     by_cases hc0:c=0
     ·rw[AlU hc0,AlF hc0];rfl
     ·rw[AlQ hc0,AlE hc0];rfl
    rw[AQ,s1,AQ,s2]
    by_cases hc0:c=0
    ·rw[AlU hc0,AlU hc0]
     exact ih (i+1) cnt cnt' O' (outs++[w]) (by omega) (by omega) (by omega) (by omega) (by simp[ho])
    ·rw[AlQ hc0,AlQ hc0]
     exact .inl ⟨c,rfl,rfl⟩
  have hm:4294967296<many:=by simp only[many];omega
  rcases key xs.length 0 many many ts [] (by omega) (by omega) (by omega) (AlS _) rfl with⟨c,k1,k2⟩|⟨outs,O,k1,k2,k3,k4⟩
  ·have k1':AS EI many (n,ts,(0:Int),[],n,ts,xs,AO xs,(0:Int),())=_:=(Ae _ _ _).trans k1
   have k2':AS CT many (n,ts,(0:Int),xs,[],n,ts,(0:Int),())=_:=(Ae _ _ _).trans k2
   simp only[k1',k2']
   exact⟨_,_,_,rfl,rfl,AlS _,by simp⟩
  ·have k1':AS EI many (n,ts,(0:Int),[],n,ts,xs,AO xs,(0:Int),())=_:=(Ae _ _ _).trans k1
   have k2':AS CT many (n,ts,(0:Int),xs,[],n,ts,(0:Int),())=_:=(Ae _ _ _).trans k2
   simp only[k1',k2']
   exact⟨_,_,_,rfl,rfl,k3,by omega⟩
 ·exact⟨_,_,_,rfl,rfl,AlS _,by simp⟩
end Go.Pev.Pl
end
section
namespace Go.Pev.Pl
open Tok
theorem AZ0(x y:Tie):(ieq x.1 y.1&&(ieq x.2.1 y.2.1&&(ieq x.2.2.1 y.2.2.1&&((x.2.2.2.1==y.2.2.2.1)&&true))))=decide (x=y):=by
 obtain⟨a,b,c,d,⟨⟩⟩:=x
 obtain⟨a',b',c',d',⟨⟩⟩:=y
 simp only[Ak]
 rw[AmL]
 simp only[AlL,Alo,AnF,Alu,and_true]
theorem ATa(n m:Int)(xs ys:List Tie)(hs:xs.length<4611686018427387904):Tr ((n,(xs,())),(m,(ys,())),())=some (decide (n=m∧xs=ys),()):=by
 rw[AHG,RE]
 simp only[R4]
 rw[Ak]
 by_cases hn:n=m
 ·rw[AlF hn]
  simp only[AlM]
  by_cases hl:xs.length=ys.length
  ·rw[AlF hl]
   have e:=AAf (step:=Ez) (fun i=>(n,xs,m,ys,(i:Int),())) xs.length (fun i => !decide (xs.getD i zT=ys.getD i zT)) (fun _=>.inl (false,())) (.inr (.inl ())) (by omega)
    (fun i hi=>by
     have hx:xs[i]? = some xs[i]:=AlK hi
     have hy:ys[i]? = some (ys[i]'(by omega)):=AlK (by omega)
     have gx:xs.getD i zT=xs[i]:=by simp[hi]
     have gy:ys.getD i zT=ys[i]'(by omega):=by simp[show i<ys.length by omega]
     rw[Ez,AM,AK,AlF hi]
     simp only[Af hx,Af hy,AZ0,gx,gy]
     rw[AH (by omega)]
     by_cases he:xs[i]=ys[i]'(by omega)
     ·simp[he]
     ·simp[he])
    (by rw[Ez,AM,AK,AlE (by omega)])
   rcases e with⟨k,k1,k2,_,k4⟩|⟨k1,k2⟩
   ·have k4':AS Ez many (n,xs,m,ys,(0:Int),())=_:=k4
    simp only[AlM,k4']
    rw[AlE]
    rintro⟨_,rfl⟩
    simp at k2
   ·have k2':AS Ez many (n,xs,m,ys,(0:Int),())=_:=k2
    simp only[AlM,k2']
    rw[AlF]
    exact⟨hn,Fc zT hl fun j hj=>by simpa using k1 j hj⟩
  ·rw[AlE hl]
   simp only[Alk]
   rw[AlE]
   rintro⟨_,rfl⟩
   exact hl rfl
 ·rw[AlE hn]
  simp only[Alk]
  rw[AlE]
  exact fun h=>hn h.1
end Go.Pev.Pl
end
section
namespace Go.Pev.Pl
open Tok
theorem Y5{n:Int}(l:List Edge)(hs:l.length<1073741824)(ha:∀ e∈l,In n e.1∧In n e.2.1):
  ∀ (m i c1 c2:Nat) (rings:List (List Int)) (t1 t2:List Bool),i+m=l.length→t1.length=i→t2.length=i→FC n rings (l.take i)→m<c1→m<c2 →
  ∃ zs b1 b2,AQ Bg c1 (l,n,rings,(0:Int),t1,(i:Int),())=some (.inl (n,zs,(0:Int),b1,()))∧AQ B4 c2 (n,rings,(0:Int),t2,l,(l.length:Int),(i:Int),())=some (.inl (n,zs,(0:Int),b2,()))∧FC n zs l:=by
 intro m
 induction m with
 |zero=>
  intro i c1 c2 rings t1 t2 hi ht1 ht2 h hc1 hc2
  obtain⟨c1,rfl⟩:∃ c,c1=c+1:=⟨c1-1,by omega⟩
  obtain⟨c2,rfl⟩:∃ c,c2=c+1:=⟨c2-1,by omega⟩
  rw[AmC (by omega)]at h
  refine⟨rings,t1,t2,?_,?_,h⟩
  ·rw[AQ,Bg,AM,AK,AlE (by omega)]
  ·rw[AQ,B4,AK,AlE (by omega)]
 |succ m ih=>
  intro i c1 c2 rings t1 t2 hi ht1 ht2 h hc1 hc2
  obtain⟨c1,rfl⟩:∃ c,c1=c+1:=⟨c1-1,by omega⟩
  obtain⟨c2,rfl⟩:∃ c,c2=c+1:=⟨c2-1,by omega⟩
  have hi':i<l.length:=by omega
  have hx:l[i]? = some l[i]:=AlK hi'
  obtain⟨iu,iv⟩:=ha _ (AmE hi')
  obtain⟨zs,q,e1,e2,_⟩:=Zi h iu iv
  obtain⟨zs',q',f1,f2,_⟩:=Qj (n:=n) (rings:=rings) l[i].1 l[i].2.1 h.fr.dom
  rw[e1]at f1
  cases f1
  rw[← Al1 hi']at e2
  obtain⟨zs2,b1,b2,g1,g2,g3⟩:=ih (i+1) c1 c2 zs (A1 t1 [ieq q 0]) (A1 t2 [ieq q 0]) (by omega) (by simp[CO,ht1]) (by simp[CO,ht2]) e2 (by omega) (by omega)
  refine⟨zs2,b1,b2,?_,?_,g3⟩
  ·rw[AQ,Bg,AM,AK,AlF hi']
   simp only[Af hx,f2]
   rw[AH (by omega),A6 (by simp only[AM,AlP,Ala];omega)]
   exact g1
  ·rw[AQ,B4,AK,AlF hi']
   simp only[Af hx,e1]
   rw[AH (by omega),A6 (by simp only[AM,AlP,Ala];omega)]
   exact g2
theorem Ajb{N:Nat}(h1:1≤N)(hN:N≤64)(l:List Edge)(hs:l.length<1073741824)(ha:∀ e∈l,In (N:Int) e.1∧In (N:Int) e.2.1):
  ∃ zs,fof ((N:Int),l,())=some (((N:Int),(zs,())),0,())∧AbJ ((N:Int),l,())=some (((N:Int),(zs,())),0,())∧FC (N:Int) zs l:=by
 have hF:=Ql h1 hN
 have hD:=hF.fr.dom
 have hRF:=Iu.2 hF.fr
 obtain⟨zs,b1,b2,e1,e2,h2⟩:=Y5 l hs ha l.length 0 many many (A8 N) [] [] (by omega) rfl rfl (by simpa using hF) (by simp only[many];omega) (by simp only[many];omega)
 refine⟨zs,?_,?_,h2⟩
 ·have hth:K9 (((N:Int),(A8 N,())),l.flatMap fun e=>[e.1,e.2.1],())=some (0,()):=by
   have hfl:=ARr l
   rw[QL _ _ _ hD (by omega),ARs,Wt,AlU hRF]
   split
   ·rfl
   ·rename_i hc
    exact absurd (Ale.2 fun e he=>AlF (ha e he)) hc
  have hm:Gk (N:Int)=((N:Int),A8 N,0,()):=by
   unfold Gk
   rw[AlU (show Sz (N:Int)from⟨by omega,by omega⟩),AmA]
  have e2':AQ B4 many ((N:Int),A8 N,(0:Int),[],l,(l.length:Int),(0:Int),())=_:=e2
  rw[AWs,ARh]
  simp only[AG6,hm,Mx,AlM]
  rw[WO,M9,NG,Ih]
  simp only[ADv l hs,hth,Mx,AlM,Ae,AM,e2']
 ·have hall:(l.all fun e=>decide (In (N:Int) e.1)&&decide (In (N:Int) e.2.1))=true:=by
   rw[Ale]
   intro e he
   obtain⟨h1,h2⟩:=ha e he
   simp[h1,h2]
  have e1':AS Bg many (l,(N:Int),A8 N,(0:Int),[],(0:Int),())=_:=(Ae _ _ _).trans e1
  have hE:Wt (N:Int) (A8 N) true=0:=by
   unfold Wt
   simp[hRF]
  have hL:JC (((N:Int),(A8 N,())),l,())=some (((N:Int),(zs,())),b1,0,()):=by
   rw[Kx,Hn]
   simp only[MH (N:Int) (A8 N) l hD (by omega),hall]
   rw[hE]
   simp only[BS,AlM,e1']
  have hm:P1 ((N:Int),())=some ((N:Int),A8 N,0,()):=by
   rw[ACk]
   unfold Gk
   rw[AlU (show Sz (N:Int)from⟨by omega,by omega⟩),AmA]
  rw[AK2,ACd]
  simp only[hm,BS,AlM,hL]
theorem RG2.both{N:Nat}{ts:List Tie}(h:RG2 N ts)(k:Int):∃ zs,OS (((N:Int),(ts,())),k,())=some (((N:Int),(zs,())),0,())∧J9 (((N:Int),(ts,())),k,())=some (((N:Int),(zs,())),0,())∧FC (N:Int) zs (trk ts k):=by
 have hl:=h.AkZ k
 obtain⟨zs,e1,e2,hF⟩:=Ajb h.h1 h.hN (trk ts k) (by omega) (h.inK k)
 refine⟨zs,?_,?_,hF⟩
 ·rw[P5,J3]
  simp only[h.lr,AlM,AQo (N:Int) ts h.ht k,e1]
 ·rw[M8,Ia]
  simp only[h.r21,AlM,No (N:Int) ts h.ht k,e2]
end Go.Pev.Pl
end
section
namespace Go.Pev.Pl
open Tok
section
variable (n:Int) (ts:List Tie)
end
end Go.Pev.Pl
end
section
namespace Go.Pev.Pl
open Tok
theorem AM9:JS ()=some (true,()):=by
 rw[show JS () = @JS idI ()from Amq (fun i=>@JS i ()) AC5]
 kernel_rfl
end Go.Pev.Pl
end
section
namespace Go.Pev.Pl
open Tok
theorem AMK{α:Type}(p:α→Bool)(xs:List α):(xs.filter p).length+(xs.filter fun x => !p x).length=xs.length:=by
 induction xs with
 |nil=>rfl
 |cons x xs ih=>
  rw[AmQ,AmQ]
  cases p x<;>simp<;>omega
theorem Afv{xs:List Edge}(h:xs.Pairwise Co):xs.Nodup:=h.imp fun {a b} hh=>by
 rintro rfl
 unfold Co at hh;omega
theorem ARb{N:Nat}{ts:List Tie}(h:RG2 N ts)(l:List Edge):(EN N ts l).length+((ts.map ed).filter fun e=>decide (e∉Cs N l)).length=(ts.map ed).length:=by
 have h1:(EN N ts l).length=((ts.map ed).filter fun e=>decide (e∈Cs N l)).length:=by
  have n1:=Afv (QI N ts l)
  have n2:=Afv (h.edP.filter fun e=>decide (e∈Cs N l))
  have hp:(EN N ts l).Perm ((ts.map ed).filter fun e=>decide (e∈Cs N l)):=(AnU n1 n2).2 fun x=>by
   unfold EN
   rw[Alz,Alz,Alo,Alo]
   exact⟨fun q=>⟨q.2,q.1⟩,fun q=>⟨q.2,q.1⟩⟩
  exact hp.length_eq
 have h2:=AMK (fun e=>decide (e∈Cs N l)) (ts.map ed)
 have h3:((ts.map ed).filter fun e=>decide (e∉Cs N l))=(ts.map ed).filter fun e => !decide (e∈Cs N l):=Am2 fun x _=>by simp
 rw[h1,h3];exact h2
theorem AWg{N:Nat}{ts:List Tie}(l:List Edge):((ts.map ed).filter fun e=>decide (e∉EN N ts l))=(ts.map ed).filter fun e=>decide (e∉Cs N l):=by
 refine Am2 fun x hx=>Amd.2 ?_
 unfold EN
 rw[Alz,Alo]
 exact⟨fun q h=>q ⟨h,hx⟩,fun q h=>q h.1⟩
theorem Ae1(n:Int)(ts:List Tie)(ht:ts.length≤400)(l:List Edge)(hs:l.length<1073741824):ABy ((n,(ts,())),l,())=AD2 ((n,(ts,())),l,()):=by
 obtain⟨_,_,_,h1,h2,_⟩:=AUo n ts ht l hs
 rw[h1,h2]
end Go.Pev.Pl
end
section
namespace Go.Pev.Pl
open Tok
theorem ASc{N:Nat}{ts:List Tie}(h:RG2 N ts)(l:List Edge)(hs:l.length<1073741824):
  (∃ e,(e=10∨(e=2∧400<ts.length+(CQ N ts l).length))∧AIW (((N:Int),(ts,())),l,())=some ((N:Int),ts,0,e,())) ∨
  (ASW N l∧ts.length+(CQ N ts l).length≤400∧AIW (((N:Int),(ts,())),l,())=some ((N:Int),grown N ts l,((CQ N ts l).length:Int),0,())):=by
 have h1:=h.h1
 have hN:=h.hN
 have ht:=h.ht
 have hn:=AbM h1 hN ts ht l hs h.r21
 rw[ASd,Zh]
 by_cases hall:¬ ∀ e∈l,In (N:Int) e.1∧In (N:Int) e.2.1
 ·rw[AlQ hall]at hn
  left
  simp only[hn,Ak]
  exact⟨10,.inl rfl,rfl⟩
 have hall:=Am3.1 hall
 rw[AlU hall]at hn
 have hcl:=Acz N hN ts l
 have hci:=AR9 hN ts l
 have hf:ADr (((N:Int),(ts,())),l,())=some (decide ((CQ N ts l).length+ts.length≤400),()):=by
  rw[AIC,SK]
  simp only[hn,BS,AM]
  rw[wrap_add (by omega),Ap]
  congr 2
  exact Amd.2 (by omega)
 simp only[hn,BS,AlM,hf]
 by_cases hfit:¬ (CQ N ts l).length+ts.length≤400
 ·left
  rw[AlE hfit]
  exact⟨2,.inr ⟨rfl,by omega⟩,rfl⟩
 have hfit:=Am3.1 hfit
 right
 rw[AlF hfit]
 obtain⟨rings,hfo,hF⟩:=AMF h1 hN ts ht h.oks h.r21
 have htl:=h.Ak8
 have hch:=AMp h1 hN hF (CQ N ts l) (by omega) h.inT hci
 have hlp:=AXu (N:Int) ts (CQ N ts l) (gfl (trs ts ts.length) (CQ N ts l)) (by omega) ht (AMC _ _)
 refine⟨hall,by omega,?_⟩
 have hd:A1 ([]:List Tie) ts=ts:=by simp[A1]
 simp only[AlM,hfo,hch,AM,hd]
 rw[A6 (by simp;omega)]
 simp only[hlp,AM]
 rfl
theorem AcP{N:Nat}{ts:List Tie}(h:RG2 N ts)(hs:Snd N (Bc N:Int) ts)(l:List Edge):Snd N (Bc N:Int) (grown N ts l):=by
 have hT:=FI h.hN
 have h0:=MF h.hN
 refine hs.grown (by omega) (AWd N ts l) (Wh h.hN ts l) (fun x hx => ?_) ?_
 ·unfold AK5 at hx
  obtain⟨i,hi,rfl⟩:=Alb.1 hx
  have hi:i<(CQ N ts l).length:=by simpa using hi
  refine⟨rfl,?_⟩
  rw[Aj0,AlH,AlK hi]
  exact AmE hi
 ·have:=AH1 N ts l
  rw[Z7 (AH2 h.hN h.oks l),Z7 h.oks]at this
  exact this
end Go.Pev.Pl
end
section
namespace Go.Pev.Pl
open Tok
theorem AdV{x:Int}(h:0≤x∧x≤255){N:Nat}(hN:1≤N)(hN2:N≤64):∃ q:Nat,rem? (IntKind.wrap .i64 x) (N:Int)=some (q:Int)∧q<N:=by
 rw[Aj (by omega),ABE,T5,AlQ (by omega),Anz h.1]
 have h1:=Int.emod_nonneg x (show(N:Int)≠0 by omega)
 have h2:=Int.emod_lt_of_pos x (show(0:Int)<N by omega)
 exact⟨(x % (N:Int)).toNat,by congr 1;omega,by omega⟩
section
variable (a0:Int) (a1:List Tie) (a2 a3 a4:Int) (a5:List (List Int)) (a6:Int) (a7:List (List Int)) (p q:List Edge)
end
end Go.Pev.Pl
end
section
namespace Go.Pev.Pl
open Tok
theorem AjX{N:Nat}(v:Nat)(hv:v<N):csz N [] (v:Int)≤1:=by
 unfold csz
 have h:∀ w:Nat,DH [] (v:Int) (w:Int)=decide (w=v):=fun w=>by
  rw[AmL,BV,Alo]
  constructor
  ·intro c
   have:∀ {a b:Int},Con [] a b→a=b:=by
    intro a b c
    induction c with
    |refl a=>rfl
    |edge e he=>cases he
    |symm _ ih=>exact ih.symm
    |trans _ _ ih1 ih2=>exact ih1.trans ih2
   have:=this c
   omega
  ·rintro rfl;exact .refl _
 rw[show(fun w:Nat=>DH [] (v:Int) (w:Int))=fun w=>decide (w=v)from funext h]
 have hc:((List.range N).countP fun w=>decide (w=v))=(List.range N).count v:=by
  unfold List.count
  refine AoG fun x _ => ?_
  simp
 rw[hc]
 exact List.nodup_iff_count.1 Anu v
theorem Ah6{N:Nat}(h1:1≤N)(hN:N≤64):RG2 N []∧Snd N (Bc N:Int) []:=by
 have hf:Fo N (trk [] 0):=by
  show cc N []+0=N
  rw[AhR,Amo]
 have hS:Snd N (Bc N:Int) []:=⟨fun x hx=>(by cases hx),fun x hx=>(by cases hx),hf,fun x hx=>(by cases hx),fun k _ v hv=>by
  have:=AjX v hv
  have h2:csz N (trk [] (k:Int)) (v:Int)≤1:=this
  omega⟩
 exact⟨ATt h1 hN (by simp) (by simp) (fun e he=>by cases he) (fun x hx=>by cases hx) (fun x hx=>by cases hx) hf,hS⟩
theorem Ajz:∀ (xs:List Int) (a b:Int),xs.Pairwise (· < ·)→(∀ x∈xs,a≤x∧x<b)→(xs.length:Int)≤max 0 (b-a):=by
 intro xs
 induction xs with
 |nil=>intro a b _ _;simp;omega
 |cons x xs ih=>
  intro a b hp h
  rw[Al5]at hp
  have h1:=h x (by simp)
  have:=ih (x+1) b hp.2 (fun y hy=>⟨by have:=hp.1 y hy;omega,(h y (by simp[hy])).2⟩)
  rw[AlP]
  omega
theorem AIH{N:Nat}(hN:N≤10){xs:List Edge}(hp:xs.Pairwise Co)(h:∀ e∈xs,0≤e.1∧e.1<(N:Int)∧0≤e.2.1∧e.2.1<(N:Int)):xs.length≤110:=by
 have:=Ajz (xs.map fun e=>e.1*10+e.2.1) 0 110 (by
  rw[Amf]
  refine hp.imp_of_mem fun {a b} ha hb hab => ?_
  have h1:=h a ha
  have h2:=h b hb
  unfold Co at hab
  omega) (fun x hx=>by
  obtain⟨e,he,rfl⟩:=Alb.1 hx
  have:=h e he
  omega)
 rw[Aly]at this
 omega
theorem XW{N:Nat}{ts:List Tie}(h:RG2 N ts)(hs:Snd N (Bc N:Int) ts)(hN:N≤10)(come go:List Edge)(hc:come.length≤20)(hg:go.length≤12)(i:Nat)(hi:i<2):
  BB (come,go,(N:Int),ts,(i:Int),())=some (.inr (.inl (true,()))) ∨
  ∃ O,RG2 N O∧Snd N (Bc N:Int) O∧BB (come,go,(N:Int),ts,(i:Int),())=some (.inl (come,go,(N:Int),O,((i+1:Nat):Int),())):=by
 have e10:ieq (10:Int) 0=false:=by rw[Ak];rfl
 unfold BB
 dsimp only
 rw[Al,AlF (show(i:Int)<2 by omega)]
 rcases ASc h come (by omega)with⟨e,he,ha⟩|⟨hall,hfit,ha⟩
 ·have he10:e=10:=by
   rcases he with he|⟨_,hbig⟩
   ·exact he
   ·exfalso
    have l1:(CQ N ts come).length≤110:=AIH hN (AEL N ts come) (fun e he=>by
     have hx:=Wh h.hN ts come e he
     exact⟨hx.1.1,hx.1.2,hx.2.1,hx.2.2⟩)
    have l2:(ts.map ed).length≤110:=AIH hN h.edP (fun e he=>by
     obtain⟨i1,i2⟩:=h.inE e he
     exact⟨i1.2.2.1,i1.2.2.2,i2.2.2.1,i2.2.2.2⟩)
    rw[Aly]at l2
    omega
  subst he10
  left
  simp only[ha,e10,Alk,BS]
 ·have hR:=h.grown hfit
  have hS:=AcP h hs come
  simp only[ha,BS,AlM]
  generalize grown N ts come=X at *
  have hX:=hR.ht
  have hgone:=QJ hR go (by omega)
  simp only[Ae1 (N:Int) X hX go (by omega)]
  rcases AXB hR hS go (by omega)with⟨hn,e⟩|⟨hall',O,outs,e,hO,hOS,hE,hlen⟩
  ·left
   have s1:=ATa (N:Int) (N:Int) X X (by omega)
   simp only[e,e10,Alk,BS,s1,An8,AlT]
  ·right
   rw[AlU (show ∀ e∈go,In (N:Int) e.1∧In (N:Int) e.2.1 from hall')]at hgone
   have hrest:O.map ed=(X.map ed).filter fun e=>decide (e∉Cs N go):=by rw[hE,AWg]
   have hcnt:=ARb hR go
   rw[← hrest,Aly,Aly]at hcnt
   have hp:=hOS.parts hO
   refine⟨O,hO,hOS,?_⟩
   simp only[e,BS,AlM,hgone,AM,hlen]
   rw[Aj (n:=(X.length:Int)-((EN N X go).length:Int)) (by omega),Ak,AlF (show(O.length:Int)=(X.length:Int)-((EN N X go).length:Int) by omega)]
   simp only[AlM,AOF hO,(E3 _).2 hp]
   rw[AH (by omega)]
theorem Yg(n:Int)(come go:List Edge)(h0:wfD (.int .u8) n)(h1:wfD (.slice (.prod (.int .i64) (.prod (.int .i64) .unit))) come)(h2:wfD (.slice (.prod (.int .i64) (.prod (.int .i64) .unit))) go):
  F6 (n,come,go,())=some (true,()):=by
 have hn:0≤n∧n≤255:=h0
 rw[PE,HS]
 simp only[AM9,AlM,AM]
 by_cases g1:20<come.length
 ·rw[Al,AlF (by omega)]
 rw[Al,AlE (by omega)]
 simp only[]
 by_cases g2:12<go.length
 ·rw[Al,AlF (by omega)]
 rw[Al,AlE (by omega)]
 simp only[]
 obtain⟨k,ek,hk⟩:=AdV hn (N:=10) (by omega) (by omega)
 have ek':rem? (IntKind.wrap .i64 n) (10:Int)=some (k:Int):=ek
 have hw:IntKind.wrap .i64 ((1:Int)+(k:Int))=((1+k:Nat):Int):=by rw[Aj (by omega)];omega
 simp only[ek',hw]
 have hN1:1≤1+k:=by omega
 have hN2:1+k≤10:=by omega
 generalize 1+k=N at *
 obtain⟨hR,hS⟩:=Ah6 hN1 (by omega)
 obtain⟨m,hmany⟩:∃ m,many=m+1+1+1:=⟨many-3,by simp only[many]⟩
 have hend:∀ O,BB (come,go,(N:Int),O,((2:Nat):Int),())=some (.inr (.inr (.inl ()))):=fun O=>by
  unfold BB
  dsimp only
  rw[Al,AlE (by omega)]
 have:AS BB many (come,go,(N:Int),[],(0:Int),())=some (.inl (true,()))∨AS BB many (come,go,(N:Int),[],(0:Int),())=some (.inr (.inl ())):=by
  rw[Ae,hmany]
  rcases XW hR hS hN2 come go (by omega) (by omega) 0 (by omega)with e|⟨O,hO,hOS,e⟩
  ·left
   have e':BB (come,go,(N:Int),[],(0:Int),())=_:=e
   rw[AQ,e']
  ·have e':BB (come,go,(N:Int),[],(0:Int),())=_:=e
   rw[AQ,e']
   rcases XW hO hOS hN2 come go (by omega) (by omega) 1 (by omega)with f|⟨O2,hO2,hOS2,f⟩
   ·left
    have f':BB (come,go,(N:Int),O,((0+1:Nat):Int),())=_:=f
    simp only[]
    rw[AQ,f']
   ·right
    have f':BB (come,go,(N:Int),O,((0+1:Nat):Int),())=_:=f
    simp only[]
    rw[AQ,f']
    have g':BB (come,go,(N:Int),O2,((1+1:Nat):Int),())=_:=hend O2
    simp only[]
    rw[AQ,g']
 rcases this with e|e
 ·simp only[e]
 ·simp only[e]
end Go.Pev.Pl
end
section
namespace Go.Pev
open Go.Proofs
noncomputable section
abbrev ADO:Hints:={ loop:=fun n=>match n with|0=>Aa 0 26 AHt AHs E9|_=>fun _ _ _=>none,fp:=fun n=>match n with|6=>[[],[],[],[],[],[],[],[],[]]|_=>[] }
theorem ALh:∀ v,E9 v=roundOf Tryz.prog Env.none ADO 1 0 26 (AB Tryz.f48 0) AHt AHs v:=by
 rintro⟨a0,a1,a2,⟨⟩⟩
 kernel_rfl
theorem Ab1:AD (AB Tryz.f48 0) 1=[]:=by kernel_rfl
theorem Ab2:AZ Tryz.prog 0 (.loop (AB Tryz.f48 0)) (ADO.loop 0):=AW Env.AK3 (ALh) (AA Ab1 trivial)
theorem AWG:∀ v,Ru v=AR Tryz.prog Env.none ADO Tryz.f48 ADN ADM ADL v:=by
 rintro⟨a0,a1,⟨⟩⟩
 kernel_rfl
theorem AgH:AD (AU Tryz.f48) 0=[(0,AB Tryz.f48 0)]:=by kernel_rfl
theorem AQ7:AT Tryz.prog 48 (AG 2 ADN ADM ADL WD):=AI Env.AK3 Tryz.func48 (by kernel_rfl) (by kernel_rfl) rfl (fun v=>(AHu v).trans (AWG v)) (AA AgH ⟨Ab2,trivial⟩)
def AFC:Env:=Env.none.ext 48 true true (AG 2 ADN ADM ADL WD)
theorem YT:Ac Tryz.prog AFC:=Env.AY Env.AK3 AQ7 (fun _=>AL rfl rfl) (fun _=>AJ rfl rfl)
abbrev Adg:Hints:={  }
theorem ASv:∀ v,Q5 v=AR Tryz.prog AFC Adg Tryz.f159 Z3 Z2 Z1 v:=by
 rintro⟨a0,⟨⟩⟩
 kernel_rfl
theorem Adf:AD (AU Tryz.f159) 0=[]:=by kernel_rfl
theorem ANv:AT Tryz.prog 159 (AG 1 Z3 Z2 Z1 MD):=AI YT Tryz.func159 (by kernel_rfl) (by kernel_rfl) rfl (fun v=>(AGq v).trans (ASv v)) (AA Adf trivial)
def AEo:Env:=AFC.ext 159 true true (AG 1 Z3 Z2 Z1 MD)
theorem YI:Ac Tryz.prog AEo:=Env.AY YT ANv (fun _=>AL rfl rfl) (fun _=>AJ rfl rfl)
abbrev Aku:Hints:={  }
theorem Ah1:∀ v,AYD v=AR Tryz.prog AEo Aku Tryz.f156 Ad2 Ad1 Ad0 v:=by
 rintro⟨a0,a1,⟨⟩⟩
 kernel_rfl
theorem Akt:AD (AU Tryz.f156) 0=[]:=by kernel_rfl
theorem Adz:AT Tryz.prog 156 (AG 2 Ad2 Ad1 Ad0 tin):=AI YI Tryz.func156 (by kernel_rfl) (by kernel_rfl) rfl (fun v=>(Ad3 v).trans (Ah1 v)) (AA Akt trivial)
def Ahl:Env:=AEo.ext 156 true true (AG 2 Ad2 Ad1 Ad0 tin)
theorem ASl:Ac Tryz.prog Ahl:=Env.AY YI Adz (fun _=>AL rfl rfl) (fun _=>AJ rfl rfl)
abbrev Aj2:Hints:={  }
theorem Ad7:∀ v,AJM v=AR Tryz.prog Ahl Aj2 Tryz.f187 ATB ATA AS9 v:=by
 rintro⟨a0,a1,a2,⟨⟩⟩
 kernel_rfl
theorem Aj1:AD (AU Tryz.f187) 0=[]:=by kernel_rfl
theorem AZ2:AT Tryz.prog 187 (AG 3 ATB ATA AS9 AZ3):=AI ASl Tryz.func187 (by kernel_rfl) (by kernel_rfl) rfl (fun v=>(AYE v).trans (Ad7 v)) (AA Aj1 trivial)
def AXy:Env:=Ahl.ext 187 true true (AG 3 ATB ATA AS9 AZ3)
theorem AIZ:Ac Tryz.prog AXy:=Env.AY ASl AZ2 (fun _=>AL rfl rfl) (fun _=>AJ rfl rfl)
abbrev Ade:Hints:={ fp:=fun n=>match n with|5=>[[],[],[],[],[],[],[],[],[]]|_=>[] }
theorem ASu:∀ v,Q4 v=AR Tryz.prog AXy Ade Tryz.f197 Zz Zy Zx v:=by
 rintro⟨a0,a1,⟨⟩⟩
 kernel_rfl
theorem Adc:AD (AU Tryz.f197) 0=[]:=by kernel_rfl
theorem ANu:AT Tryz.prog 197 (AG 2 Zz Zy Zx Z0):=AI AIZ Tryz.func197 (by kernel_rfl) (by kernel_rfl) rfl (fun v=>(AGp v).trans (ASu v)) (AA Adc trivial)
def So:Env:=AXy.ext 197 true true (AG 2 Zz Zy Zx Z0)
theorem Na:Ac Tryz.prog So:=Env.AY AIZ ANu (fun _=>AL rfl rfl) (fun _=>AJ rfl rfl)
abbrev AJH:Hints:={ loop:=fun n=>match n with|0=>Aa 0 25 AOA AN9 H5|_=>fun _ _ _=>none }
theorem AN8:∀ v,H5 v=roundOf Tryz.prog So AJH 1 0 25 (AB Tryz.f129 0) AOA AN9 v:=by
 rintro⟨a0,a1,a2,a3,a4,⟨⟩⟩
 kernel_rfl
theorem Adx:AD (AB Tryz.f129 0) 1=[]:=by kernel_rfl
theorem Ady:AZ Tryz.prog 0 (.loop (AB Tryz.f129 0)) (AJH.loop 0):=AW Na (AN8) (AA Adx trivial)
theorem AZy:∀ v,Y9 v=AR Tryz.prog So AJH Tryz.f129 AJG AJF AJE v:=by
 rintro⟨a0,⟨⟩⟩
 kernel_rfl
theorem Ahy:AD (AU Tryz.f129) 0=[(0,AB Tryz.f129 0)]:=by kernel_rfl
theorem AS4:AT Tryz.prog 129 (AG 1 AJG AJF AJE AOC):=AI Na Tryz.func129 (by kernel_rfl) (by kernel_rfl) rfl (fun v=>(AOB v).trans (AZy v)) (AA Ahy ⟨Ady,trivial⟩)
def Zj:Env:=So.ext 129 true true (AG 1 AJG AJF AJE AOC)
theorem Qm:Ac Tryz.prog Zj:=Env.AY Na AS4 (fun _=>AL rfl rfl) (fun _=>AJ rfl rfl)
abbrev ADV:Hints:={ loop:=fun n=>match n with|0=>Aa 0 19 AHw AHv GG|_=>fun _ _ _=>none }
theorem ALk:∀ v,GG v=roundOf Tryz.prog Zj ADV 1 0 19 (AB Tryz.f146 0) AHw AHv v:=by
 rintro⟨a0,a1,a2,a3,⟨⟩⟩
 kernel_rfl
theorem Ab6:AD (AB Tryz.f146 0) 1=[]:=by kernel_rfl
theorem Ab7:AZ Tryz.prog 0 (.loop (AB Tryz.f146 0)) (ADV.loop 0):=AW Qm (ALk) (AA Ab6 trivial)
theorem AWR:∀ v,Ry v=AR Tryz.prog Zj ADV Tryz.f146 ADU ADT ADS v:=by
 rintro⟨a0,a1,⟨⟩⟩
 kernel_rfl
theorem AgQ:AD (AU Tryz.f146) 0=[(0,AB Tryz.f146 0)]:=by kernel_rfl
theorem AQ8:AT Tryz.prog 146 (AG 2 ADU ADT ADS QD):=AI Qm Tryz.func146 (by kernel_rfl) (by kernel_rfl) rfl (fun v=>(AHx v).trans (AWR v)) (AA AgQ ⟨Ab7,trivial⟩)
def AFD:Env:=Zj.ext 146 true true (AG 2 ADU ADT ADS QD)
theorem YU:Ac Tryz.prog AFD:=Env.AY Qm AQ8 (fun _=>AL rfl rfl) (fun _=>AJ rfl rfl)
abbrev AR1:Hints:={  }
theorem AGU:∀ v,JO v=AR Tryz.prog AFD AR1 Tryz.f113 NJ NI NH v:=by
 rintro⟨a0,a1,⟨⟩⟩
 kernel_rfl
theorem AR0:AD (AU Tryz.f113) 0=[]:=by kernel_rfl
theorem AD8:AT Tryz.prog 113 (AG 2 NJ NI NH FA):=AI YU Tryz.func113 (by kernel_rfl) (by kernel_rfl) rfl (fun v=>(SW v).trans (AGU v)) (AA AR0 trivial)
def JZ:Env:=AFD.ext 113 true true (AG 2 NJ NI NH FA)
theorem I0:Ac Tryz.prog JZ:=Env.AY YU AD8 (fun _=>AL rfl rfl) (fun _=>AJ rfl rfl)
abbrev AVf:Hints:={ loop:=fun n=>match n with|0=>Aa 0 25 AYn AYm Kt|_=>fun _ _ _=>none }
theorem AVb:∀ v,Kt v=roundOf Tryz.prog JZ AVf 1 0 25 (AB Tryz.f177 0) AYn AYm v:=by
 rintro⟨a0,a1,a2,⟨⟩⟩
 kernel_rfl
theorem Ain:AD (AB Tryz.f177 0) 1=[]:=by kernel_rfl
theorem Aio:AZ Tryz.prog 0 (.loop (AB Tryz.f177 0)) (AVf.loop 0):=AW I0 (AVb) (AA Ain trivial)
theorem Af1:∀ v,ALB v=AR Tryz.prog JZ AVf Tryz.f177 AVe AVd AVc v:=by
 rintro⟨a0,⟨⟩⟩
 kernel_rfl
theorem AkW:AD (AU Tryz.f177) 0=[(0,AB Tryz.f177 0)]:=by kernel_rfl
theorem AbS:AT Tryz.prog 177 (AG 1 AVe AVd AVc AbT):=AI I0 Tryz.func177 (by kernel_rfl) (by kernel_rfl) rfl (fun v=>(AYo v).trans (Af1 v)) (AA AkW ⟨Aio,trivial⟩)
def AX4:Env:=JZ.ext 177 true true (AG 1 AVe AVd AVc AbT)
theorem AIf:Ac Tryz.prog AX4:=Env.AY I0 AbS (fun _=>AL rfl rfl) (fun _=>AJ rfl rfl)
abbrev AjI:Hints:={  }
theorem AcU:∀ v,Zb v=AR Tryz.prog AX4 AjI Tryz.f201 AL8 AL7 AL6 v:=by
 rintro⟨a0,⟨⟩⟩
 kernel_rfl
theorem AjH:AD (AU Tryz.f201) 0=[]:=by kernel_rfl
theorem AWf:AT Tryz.prog 201 (AG 2 AL8 AL7 AL6 ARa):=AI AIf Tryz.func201 (by kernel_rfl) (by kernel_rfl) rfl (fun v=>(ARZ v).trans (AcU v)) (AA AjH trivial)
def TF:Env:=AX4.ext 201 false true (AG 2 AL8 AL7 AL6 ARa)
theorem Lh:Ac Tryz.prog TF:=Env.AY AIf AWf ((by simp)) (fun _=>AJ rfl rfl)
abbrev KI:Hints:={ loop:=fun n=>match n with|0=>Aa 0 36 AEI AEG Er|1=>Aa 0 36 AEH AEF Ep|_=>fun _ _ _=>none }
theorem AGY:∀ v,Ep v=roundOf Tryz.prog TF KI 2 0 36 (AB Tryz.f186 1) AEH AEF v:=by
 rintro⟨a0,a1,a2,a3,⟨⟩⟩
 kernel_rfl
theorem AXM:AD (AB Tryz.f186 1) 2=[]:=by kernel_rfl
theorem AXO:AZ Tryz.prog 0 (.loop (AB Tryz.f186 1)) (KI.loop 1):=AW Lh (AGY) (AA AXM trivial)
theorem AGZ:∀ v,Er v=roundOf Tryz.prog TF KI 1 0 36 (AB Tryz.f186 0) AEI AEG v:=by
 rintro⟨a0,a1,a2,a3,a4,⟨⟩⟩
 kernel_rfl
theorem AXN:AD (AB Tryz.f186 0) 1=[]:=by kernel_rfl
theorem AXP:AZ Tryz.prog 0 (.loop (AB Tryz.f186 0)) (KI.loop 0):=AW Lh (AGZ) (AA AXN trivial)
theorem AR6:∀ v,Oa v=AR Tryz.prog TF KI Tryz.f186 Wg Wf We v:=by
 rintro⟨a0,⟨⟩⟩
 kernel_rfl
theorem Acy:AD (AU Tryz.f186) 0=[(0,AB Tryz.f186 0),(1,AB Tryz.f186 1)]:=by kernel_rfl
theorem AMX:AT Tryz.prog 186 (AG 1 Wg Wf We JP):=AI Lh Tryz.func186 (by kernel_rfl) (by kernel_rfl) rfl (fun v=>(AEJ v).trans (AR6 v)) (AA Acy ⟨AXP,AXO,trivial⟩)
def XJ:Env:=TF.ext 186 true true (AG 1 Wg Wf We JP)
theorem TN:Ac Tryz.prog XJ:=Env.AY Lh AMX (fun _=>AL rfl rfl) (fun _=>AJ rfl rfl)
theorem AaM:Tryz.f195.body.isSome=true:=by kernel_rfl
theorem AaL : (Tryz.f195.name == "runtime.NumGoroutine") = false := by kernel_rfl
theorem AaK:loops (AU Tryz.f195)=0:=by kernel_rfl
def JW:Env:=XJ.ext 195 false false (DF Tryz.prog XJ {} Tryz.f195)
theorem Ix:Ac Tryz.prog JW:=Env.AY TN (Cy TN Tryz.func195 AaM AaL AaK) (by simp) (by simp)
end
end Go.Pev
end
section
namespace Go.Pev
open Go.Proofs
noncomputable section
abbrev IU:Hints:={ loop:=fun n=>match n with|0=>Aa 0 19 Ls Lr CB|_=>fun _ _ _=>none }
theorem QG:∀ v,CB v=roundOf Tryz.prog JW IU 1 0 19 (AB Tryz.f174 0) Ls Lr v:=by
 rintro⟨a0,a1,a2,⟨⟩⟩
 kernel_rfl
theorem Yl:AD (AB Tryz.f174 0) 1=[]:=by kernel_rfl
theorem Ym:AZ Tryz.prog 0 (.loop (AB Tryz.f174 0)) (IU.loop 0):=AW Ix (QG) (AA Yl trivial)
theorem WH:∀ v,FX v=AR Tryz.prog JW IU Tryz.f174 IT IS IQ v:=by
 rintro⟨a0,⟨⟩⟩
 kernel_rfl
theorem ADX:AD (AU Tryz.f174) 0=[(0,AB Tryz.f174 0)]:=by kernel_rfl
theorem R9:AT Tryz.prog 174 (AG 2 IT IS IQ HU):=AI Ix Tryz.func174 (by kernel_rfl) (by kernel_rfl) rfl (fun v=>(Lt v).trans (WH v)) (AA ADX ⟨Ym,trivial⟩)
def Iy:Env:=JW.Fa 174 1 195 (AG 2 IT IS IQ HU)
theorem JX:Ac Tryz.prog Iy:=Env.Bf Ix R9 (AJ rfl rfl)
abbrev Yw:Hints:={  }
theorem SZ:∀ v,EX v=AR Tryz.prog Iy Yw Tryz.f154 HH HG HF v:=by
 rintro⟨a0,⟨⟩⟩
 kernel_rfl
theorem Yv:AD (AU Tryz.f154) 0=[]:=by kernel_rfl
theorem Qa:AT Tryz.prog 154 (AG 2 HH HG HF EO):=AI JX Tryz.func154 (by kernel_rfl) (by kernel_rfl) rfl (fun v=>(KG v).trans (SZ v)) (AA Yv trivial)
def EY:Env:=Iy.Fa 154 1 195 (AG 2 HH HG HF EO)
theorem Ev:Ac Tryz.prog EY:=Env.Bf JX Qa (AJ rfl rfl)
abbrev AVN:Hints:={ loop:=fun n=>match n with|0=>Aa 0 23 AYf AYe Ko|_=>fun _ _ _=>none }
theorem AVJ:∀ v,Ko v=roundOf Tryz.prog EY AVN 1 0 23 (AB Tryz.f196 0) AYf AYe v:=by
 rintro⟨a0,a1,a2,a3,a4,⟨⟩⟩
 kernel_rfl
theorem Aih:AD (AB Tryz.f196 0) 1=[]:=by kernel_rfl
theorem Aii:AZ Tryz.prog 0 (.loop (AB Tryz.f196 0)) (AVN.loop 0):=AW Ev (AVJ) (AA Aih trivial)
theorem Afr:∀ v,AKz v=AR Tryz.prog EY AVN Tryz.f196 AVM AVL AVK v:=by
 rintro⟨a0,⟨⟩⟩
 kernel_rfl
theorem AkQ:AD (AU Tryz.f196) 0=[(0,AB Tryz.f196 0)]:=by kernel_rfl
theorem AbF:AT Tryz.prog 196 (AG 1 AVM AVL AVK once):=AI Ev Tryz.func196 (by kernel_rfl) (by kernel_rfl) rfl (fun v=>(AYg v).trans (Afr v)) (AA AkQ ⟨Aii,trivial⟩)
def AX1:Env:=EY.ext 196 true true (AG 1 AVM AVL AVK once)
theorem AIc:Ac Tryz.prog AX1:=Env.AY Ev AbF (fun _=>AL rfl rfl) (fun _=>AJ rfl rfl)
abbrev AeQ:Hints:={  }
theorem ATf:∀ v,RH v=AR Tryz.prog AX1 AeQ Tryz.f176 AAt AAs AAr v:=by
 rintro⟨a0,⟨⟩⟩
 kernel_rfl
theorem AeP:AD (AU Tryz.f176) 0=[]:=by kernel_rfl
theorem AOg:AT Tryz.prog 176 (AG 1 AAt AAs AAr Pk):=AI AIc Tryz.func176 (by kernel_rfl) (by kernel_rfl) rfl (fun v=>(AHJ v).trans (ATf v)) (AA AeP trivial)
def AEv:Env:=AX1.ext 176 true true (AG 1 AAt AAs AAr Pk)
theorem YM:Ac Tryz.prog AEv:=Env.AY AIc AOg (fun _=>AL rfl rfl) (fun _=>AJ rfl rfl)
abbrev Adb:Hints:={ fp:=fun n=>match n with|1=>[[],[],[],[],[],[],[],[0],[]]|_=>[] }
theorem ASs:∀ v,Q3 v=AR Tryz.prog AEv Adb Tryz.f200 Zw Zv Zu v:=by
 rintro⟨a0,a1,⟨⟩⟩
 kernel_rfl
theorem Ada:AD (AU Tryz.f200) 0=[]:=by kernel_rfl
theorem ANt:AT Tryz.prog 200 (AG 2 Zw Zv Zu TW):=AI YM Tryz.func200 (by kernel_rfl) (by kernel_rfl) rfl (fun v=>(AGo v).trans (ASs v)) (AA Ada trivial)
def Sn:Env:=AEv.ext 200 true true (AG 2 Zw Zv Zu TW)
theorem NZ:Ac Tryz.prog Sn:=Env.AY YM ANt (fun _=>AL rfl rfl) (fun _=>AJ rfl rfl)
abbrev ABe:Hints:={ loop:=fun n=>match n with|0=>Aa 0 29 AHT AHS E4|_=>fun _ _ _=>none }
theorem AKH:∀ v,E4 v=roundOf Tryz.prog Sn ABe 1 0 29 (AB Tryz.f199 0) AHT AHS v:=by
 rintro⟨a0,a1,a2,a3,a4,⟨⟩⟩
 kernel_rfl
theorem Aai:AD (AB Tryz.f199 0) 1=[]:=by kernel_rfl
theorem Aaj:AZ Tryz.prog 0 (.loop (AB Tryz.f199 0)) (ABe.loop 0):=AW NZ (AKH) (AA Aai trivial)
theorem AUV:∀ v,RR v=AR Tryz.prog Sn ABe Tryz.f199 ABd ABc ABb v:=by
 rintro⟨a0,a1,⟨⟩⟩
 kernel_rfl
theorem Aeq:AD (AU Tryz.f199) 0=[(0,AB Tryz.f199 0)]:=by kernel_rfl
theorem AO7:AT Tryz.prog 199 (AG 2 ABd ABc ABb AKI):=AI NZ Tryz.func199 (by kernel_rfl) (by kernel_rfl) rfl (fun v=>(AHU v).trans (AUV v)) (AA Aeq ⟨Aaj,trivial⟩)
def AE0:Env:=Sn.ext 199 true true (AG 2 ABd ABc ABb AKI)
theorem YO:Ac Tryz.prog AE0:=Env.AY NZ AO7 (fun _=>AL rfl rfl) (fun _=>AJ rfl rfl)
abbrev AiC:Hints:={  }
theorem AaQ:∀ v,ZG v=AR Tryz.prog AE0 AiC Tryz.f185 AJt AJs AJr v:=by
 rintro⟨a0,a1,⟨⟩⟩
 kernel_rfl
theorem AiB:AD (AU Tryz.f185) 0=[]:=by kernel_rfl
theorem ATu:AT Tryz.prog 185 (AG 2 AJt AJs AJr AHM):=AI YO Tryz.func185 (by kernel_rfl) (by kernel_rfl) rfl (fun v=>(AOq v).trans (AaQ v)) (AA AiB trivial)
def ANN:Env:=AE0.ext 185 true true (AG 2 AJt AJs AJr AHM)
theorem AEx:Ac Tryz.prog ANN:=Env.AY YO ATu (fun _=>AL rfl rfl) (fun _=>AJ rfl rfl)
abbrev AeS:Hints:={  }
theorem ATh:∀ v,RI v=AR Tryz.prog ANN AeS Tryz.f202 AAw AAv AAu v:=by
 rintro⟨a0,⟨⟩⟩
 kernel_rfl
theorem AeR:AD (AU Tryz.f202) 0=[]:=by kernel_rfl
theorem AOh:AT Tryz.prog 202 (AG 1 AAw AAv AAu AAx):=AI AEx Tryz.func202 (by kernel_rfl) (by kernel_rfl) rfl (fun v=>(AHK v).trans (ATh v)) (AA AeR trivial)
def AEw:Env:=ANN.ext 202 true true (AG 1 AAw AAv AAu AAx)
theorem YN:Ac Tryz.prog AEw:=Env.AY AEx AOh (fun _=>AL rfl rfl) (fun _=>AJ rfl rfl)
theorem AZu:Tryz.f180.body.isSome=true:=by kernel_rfl
theorem AZt : (Tryz.f180.name == "runtime.NumGoroutine") = false := by kernel_rfl
theorem AZs:loops (AU Tryz.f180)=0:=by kernel_rfl
def JV:Env:=AEw.ext 180 false false (DF Tryz.prog AEw {} Tryz.f180)
theorem Iw:Ac Tryz.prog JV:=Env.AY YN (Cy YN Tryz.func180 AZu AZt AZs) (by simp) (by simp)
abbrev GL:Hints:={ loop:=fun n=>match n with|0=>Aa 1 19 JF JE Bj|_=>fun _ _ _=>none }
theorem My:∀ v,Bj v=roundOf Tryz.prog JV GL 1 1 19 (AB Tryz.f179 0) JF JE v:=by
 rintro⟨a0,a1,a2,a3,⟨⟩⟩
 kernel_rfl
theorem R5:AD (AB Tryz.f179 0) 1=[]:=by kernel_rfl
theorem R6:AZ Tryz.prog 1 (.loop (AB Tryz.f179 0)) (GL.loop 0):=AW Iw (My) (AA R5 trivial)
theorem QE:∀ v,D3 v=AR Tryz.prog JV GL Tryz.f179 GK GJ GH v:=by
 rintro⟨a0,a1,⟨⟩⟩
 kernel_rfl
theorem WE:AD (AU Tryz.f179) 0=[(0,AB Tryz.f179 0)]:=by kernel_rfl
theorem O6:AT Tryz.prog 179 (AG 2 GK GJ GH FV):=AI Iw Tryz.func179 (by kernel_rfl) (by kernel_rfl) rfl (fun v=>(JG v).trans (QE v)) (AA WE ⟨R6,trivial⟩)
def Gd:Env:=JV.Fa 179 1 180 (AG 2 GK GJ GH FV)
theorem HO:Ac Tryz.prog Gd:=Env.Bf Iw O6 (AJ rfl rfl)
abbrev Adn:Hints:={  }
theorem AS2:∀ v,RA v=AR Tryz.prog Gd Adn Tryz.f157 AAK AAJ AAI v:=by
 rintro⟨a0,a1,⟨⟩⟩
 kernel_rfl
theorem Adm:AD (AU Tryz.f157) 0=[]:=by kernel_rfl
theorem AN2:AT Tryz.prog 157 (AG 2 AAK AAJ AAI Pb):=AI HO Tryz.func157 (by kernel_rfl) (by kernel_rfl) rfl (fun v=>(AG5 v).trans (AS2 v)) (AA Adm trivial)
def AEq:Env:=Gd.ext 157 true true (AG 2 AAK AAJ AAI Pb)
theorem YK:Ac Tryz.prog AEq:=Env.AY HO AN2 (fun _=>AL rfl rfl) (fun _=>AJ rfl rfl)
theorem Ajl:Tryz.f198.body.isSome=true:=by kernel_rfl
theorem Ajk : (Tryz.f198.name == "runtime.NumGoroutine") = false := by kernel_rfl
theorem Ajj:loops (AU Tryz.f198)=0:=by kernel_rfl
def O1:Env:=AEq.ext 198 false false (DF Tryz.prog AEq {} Tryz.f198)
theorem Lm:Ac Tryz.prog O1:=Env.AY YK (Cy YK Tryz.func198 Ajl Ajk Ajj) (by simp) (by simp)
end
end Go.Pev
end
