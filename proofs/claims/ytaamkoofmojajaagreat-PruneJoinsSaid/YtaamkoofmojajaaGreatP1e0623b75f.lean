/- A part of the proofs of this seat: KF KG KH U24a U24b U24c U24d U23a U23b U23c U23d U23e T24b U24f U24g U24h U24i U24j U24k U24l U24m U24n PlnD U21a U21b SIa SIb SIc SId SIe SIf U23f U23g PlnE U23h U23i U21c U21d U21e U23j U23k U24e U21f U23l U23m G24lP1 G24lP2 G24lP3 G24lP4 G24lP5 G24lP6 G24lP7. -/
import Derived.Test.YtaamkoofmojajaaGreatP10772c09af
import Derived.KernelRfl
import Derived.Test.YtaamkoofmojajaaGreatProg
set_option linter.unusedVariables false
set_option linter.unusedSimpArgs false
set_option linter.unusedSectionVars false
set_option maxRecDepth 100000
section
section
namespace Go.Pev.Pl
theorem ASM{N:Nat}{ts:List Tie}(hN:N≤64){i:Nat}(h:K7 N ts i):In (N:Int) (ed (ts.getD i zT)).1∧In (N:Int) (ed (ts.getD i zT)).2.1:=by
 obtain⟨q1,q2,q3,_⟩:=h
 exact⟨⟨by omega,by omega,q1,by show(ts.getD i zT).1<_;omega⟩,⟨by omega,by omega,by show 0≤(ts.getD i zT).2.1;omega,q3⟩⟩
theorem AM8{N:Nat}{ts:List Tie}(hN:N≤64)(h:oks N ts):∀ e∈trs ts ts.length,In (N:Int) e.1∧In (N:Int) e.2.1:=by
 intro e he
 obtain⟨i,hi,rfl⟩:=AaT ts e _ he
 exact ASM hN (h i (by simp[hi]))
theorem AdK{N:Nat}{ts:List Tie}(hN:N≤64)(h:oks N ts):∀ e∈ts.map ed,In (N:Int) e.1∧In (N:Int) e.2.1:=by
 intro e he
 obtain⟨t,ht,rfl⟩:=AeC.1 he
 obtain⟨i,hi,rfl⟩:=Aer ht
 have:=ASM hN (h i (by simp[hi]))
 simpa [hi]using this
theorem APj{N:Nat}(ts:List Tie)(hs:ts.length≤400)(h:oks N ts):OQ (((N:Int),(ts,())),(0:Int),())=some (trs ts ts.length,()):=by
 rw[SW,Ls]
 have e:=DH (step:=Cf) (fun i (a:List Edge)=>((0:Int),a,ts,AM ts,(i:Int),())) (List.range ts.length) (fun i a=>.inl (if(ts.getD i zT).2.2.2.1=true then a++[ed (ts.getD i zT)]else a)) (fun a=>.inl (a,())) (fun i a=>a.length≤i) (by simp;omega)
  (fun i x a hi hx ha=>by
   refine⟨fun m' h' => ?_,fun r h'=>(by cases h')⟩
   cases h'
   have:=DR hx
   subst this
   rw[AeV]at hi
   have hlv:=(h x (by simp[hi])).2.2.2.1
   constructor
   ·rw[Cf,AO,AK,Adq hi]
    simp only[Ch zT hi,AO]
    have hfit:fits ((a.length:Int)+(([((ts.getD x zT).1,(ts.getD x zT).2.1,())]:List Edge).length:Int))=true:=BW (by simp;omega)
    rw[AH (by omega),Aq,Adq hlv]
    cases ht4:(ts.getD x zT).2.2.2.1
    ·simp
    ·simp only[hfit]
     simp[ed,A8]
   ·split
    ·rw[Ad0];simp;omega
    ·omega)
  (fun a _=>by rw[Cf,AeV,AO,AK,Adp (by omega)]) [] (Ad5 _)
 have e':AT Cf many ((0:Int),[],ts,AM ts,(0:Int),())=_:=e
 simp only[e']
 rw[BZ (fun i a=>if(ts.getD i zT).2.2.2.1=true then a++[ed (ts.getD i zT)]else a)]
 rfl
def cnt(out:List Int)(N:Nat):Nat:=((List.range N).filter fun k=>decide (out.getD k 0=(k:Int))).length
theorem AJW{N:Nat}{rings:List (List Int)}{l:List Edge}{out:List Int}(h:FC (N:Int) rings l)(hc:K9 (N:Int) l out):rings.length=cnt out N:=by
 have hsz:=h.fr.sz
 have hp:(rings.map hd).Perm (((List.range N).filter fun k=>decide (out.getD k 0=(k:Int))).map fun(k:Nat)=>(k:Int)):=by
  rw[List.perm_ext_iff_of_nodup]
  ·intro a
   simp only[AeC,Aei,Aen,Adt]
   constructor
   ·rintro⟨A,hA,rfl⟩
    have gA:=h.fr.rg A hA
    have ih:In (N:Int) (hd A):=NO gA
    have hh:=So gA.2.1
    have:=ALr h hc hA ih hh
    obtain⟨_,_,a1,a2⟩:=ih
    refine⟨(hd A).toNat,⟨by omega,?_⟩,by omega⟩
    rw[show out.getD (hd A).toNat 0=cl out (hd A)from rfl,← this]
    omega
   ·rintro⟨k,⟨hk,ho⟩,rfl⟩
    have ik:In (N:Int) (k:Int):=⟨hsz.1,hsz.2,by omega,by omega⟩
    obtain⟨A,hA,hm⟩:=h.fr.cov _ ik
    refine⟨A,hA,?_⟩
    rw[ALr h hc hA ik hm]
    unfold cl
    rw[Aeo];exact ho
  ·exact(AfF.2 h.fr.up).imp (fun h=>by omega)
  ·refine List.Pairwise.map _ (S:=fun a b=>a≠b) (R:=fun a b=>a≠b) (fun a b h h'=>h (by omega)) ?_
   exact(Agw).filter _
 have:=hp.length_eq
 rw[Aek,Aek]at this
 exact this
theorem Ng(N:Nat)(hN:N≤64)(p:List Tie)(q:List Edge)(out:List Int)(ho:out.length=N):AT DQ many ((N:Int),p,q,out,(0:Int),(0:Int),())=some (.inl ((N:Int),p,q,(cnt out N:Int),())):=by
 have e:=DH (step:=DQ) (fun i (a:Nat)=>((N:Int),p,q,out,(a:Int),(i:Int),())) (List.range N) (fun k a=>.inl (if out.getD k 0=(k:Int)then a+1 else a)) (fun a=>.inl ((N:Int),p,q,(a:Int),())) (fun i a=>a≤i) (by simp;omega)
  (fun i x a hi hx ha=>by
   refine⟨fun m' h' => ?_,fun r h'=>(by cases h')⟩
   cases h'
   have:=DR hx
   subst this
   rw[AeV]at hi
   constructor
   ·rw[DQ,AK,Adq hi]
    simp only[Ch 0 (show x<out.length by omega),Fv,Ak]
    rw[AH (by omega),AH (by omega)]
    by_cases h:out.getD x 0=(x:Int)
    ·rw[Adq h,Ad6 h]
    ·rw[Adp h,Ad3 h]
   ·split<;>omega)
  (fun a _=>by rw[DQ,AeV,AK,Adp (by omega)]) 0 (Ad5 _)
 have e':AT DQ many ((N:Int),p,q,out,(0:Int),(0:Int),())=_:=e
 rw[e',BZ (fun k a=>if out.getD k 0=(k:Int)then a+1 else a)]
 have key:∀ (xs:List Nat) (a:Nat),xs.foldl (fun a k=>if out.getD k 0=(k:Int)then a+1 else a) a=a+(xs.filter fun k=>decide (out.getD k 0=(k:Int))).length:=by
  intro xs
  induction xs with
  |nil=>intro a;rfl
  |cons x xs ih=>
   intro a
   rw[Aep,ih,AfD]
   by_cases h:out.getD x 0=(x:Int)
   ·simp only[h,AeL,Ad2,Ad1];omega
   ·simp only[h,Ad7,Ad8,Ad4]
 rw[key,Aev]
 rfl
theorem AAp(n:Int)(ts:List Tie)(hl:ts.length<4611686018427387904):∃ b:Bool,DC ((n,(ts,())),())=some (b,())∧Gl ((n,(ts,())),())=some (b,())∧(b=true→∃ N:Nat,n=(N:Int)∧1≤N∧N≤64∧ts.length≤400∧oks N ts):=by
 by_cases hn:¬ (1≤n∧n≤64)
 ·refine⟨false,?_,?_,fun h=>by cases h⟩
  ·rw[FT,Ee,Am,Am]
   by_cases h:n<1
   ·simp only[Adq h]
   ·simp only[Adp h,Adq (show 64<n by omega)]
  ·rw[JN,Hm]
   simp only[SX,Lu,Aq]
   by_cases h:1≤n
   ·simp only[Adq h,Adp (show ¬ n≤64 by omega),AeM]
   ·simp only[Adp h,AeM]
 have hn:=AgO.1 hn
 obtain⟨N,rfl⟩:=Adz (show 0≤n by omega)
 have hsz:SY ((N:Int),())=some (true,()):=by
  simp only[SX,Lu,Aq,Adq hn.1,Adq hn.2]
 by_cases h4:¬ ts.length≤400
 ·refine⟨false,?_,?_,fun h=>by cases h⟩
  ·rw[FT,Ee]
   simp only[Am,AO]
   rw[Adp (show ¬ (N:Int)<1 by omega),Adp (show ¬ 64<(N:Int) by omega),Adq (show 400<(ts.length:Int) by omega)]
  ·rw[JN,Hm]
   simp only[hsz,Ady,Am,AO]
   rw[Adq (show 400<(ts.length:Int) by omega)]
 have h4:=AgO.1 h4
 have R:=PR N (by omega) ts h4
 have L:=ALI N (by omega) ts h4
 by_cases ho:¬ oks N ts
 ·rw[Ad3 ho]at R L
  refine⟨false,?_,?_,fun h=>by cases h⟩
  ·rw[FT,Ee]
   simp only[Am,AO]
   rw[Adp (show ¬ (N:Int)<1 by omega),Adp (show ¬ 64<(N:Int) by omega),Adp (show ¬ 400<(ts.length:Int) by omega)]
   simp only[R]
  ·rw[JN,Hm]
   simp only[hsz,Ady,Am,AO,ZO N (by omega)]
   rw[Adp (show ¬ 400<(ts.length:Int) by omega)]
   rw[AO]at L
   simp only[L]
 have ho:=AgO.1 ho
 rw[Ad6 ho]at R L
 have hin:=AM8 (show N≤64 by omega) ho
 have hlen:=AER ts ts.length
 obtain⟨out,hc,hcl⟩:=Ca (N:Int) (trs ts ts.length) hn (by omega) hin
 rcases(ASo (N:Int) (trs ts ts.length) hn (by omega)).symm with⟨hno,_⟩|⟨_,rings,hf,hfc⟩
 ·exact absurd hin hno
 have hcount:=AJW hfc hcl
 have hol:out.length=N:=by have:=hcl.len;omega
 refine⟨decide ((cnt out N:Int)=(N:Int)-(trs ts ts.length).length),?_,?_,fun _=>⟨N,rfl,by omega,by omega,h4,ho⟩⟩
 ·rw[FT,Ee]
  simp only[Am,AO]
  rw[Adp (show ¬ (N:Int)<1 by omega),Adp (show ¬ 64<(N:Int) by omega),Adp (show ¬ 400<(ts.length:Int) by omega)]
  simp only[R,hc,Ng N (by omega) _ _ out hol,Ak]
  rw[Af (by omega)]
 ·rw[JN,Hm]
  simp only[hsz,Ady,Am,AO,ZO N (by omega)]
  rw[Adp (show ¬ 400<(ts.length:Int) by omega)]
  rw[AO]at L
  simp only[L,APj ts h4 ho,hf,CL,Ak,hcount]
  rw[Af (by omega)]
end Go.Pev.Pl
end
section
namespace Go.Pev.Pl
theorem K9.unique{N:Nat}{l:List Edge}{a b:List Int}(h1:1≤N)(h2:N≤64)(ha:K9 (N:Int) l a)(hb:K9 (N:Int) l b):a=b:=by
 have la:=ha.len
 have lb:=hb.len
 refine FA (0:Int) (by omega) fun k hk => ?_
 have ik:In (N:Int) (k:Int):=⟨by omega,by omega,by omega,by omega⟩
 have e1:=ha.least _ _ ik (hb.isin _ ik) (hb.con _ ik)
 have e2:=hb.least _ _ ik (ha.isin _ ik) (ha.con _ ik)
 unfold cl at e1 e2
 rw[Aeo]at e1 e2
 omega
theorem AVt(xs:List Tie)(a:List Edge):xs.foldl (fun a x=>a++[ed x]) a=a++xs.map ed:=AVu ed xs a
theorem MA(n:Int)(ts:List Tie)(hs:ts.length≤400)(h:DC ((n,(ts,())),())=some (true,())):Ik ((n,(ts,())),())=some (ts.map ed,()):=by
 rw[AAG,NC]
 simp only[h,Ady]
 have e:=DH (step:=ER) (fun i (a:List Edge)=>(n,ts,a,(i:Int),())) ts (fun x a=>.inl (a++[ed x])) (fun a=>.inl (a,())) (fun i a=>a.length≤i) (by omega)
  (fun i x a hi hx ha=>by
   refine⟨fun m' h' => ?_,fun r h'=>(by cases h')⟩
   cases h'
   constructor
   ·rw[ER]
    simp only[AO]
    rw[AK,Adq hi]
    simp only[Ah hx]
    rw[BW (by simp;omega),AH (by omega)]
    rfl
   ·rw[Ad0];simp;omega)
  (fun a _=>by rw[ER,AO,AK,Adp (by omega)]) [] (Ad5 _)
 have e':AT ER many (n,ts,[],(0:Int),())=_:=e
 simp only[e']
 rw[BZ (fun x a=>a++[ed x]),AVt]
 rfl
def InV(N:Nat)(x:Int):Prop:=0≤x∧x<(N:Int)
instance (N:Nat)(x:Int):Decidable (InV N x):=inferInstanceAs (Decidable (_∧_))
theorem AHo{N:Nat}{out:List Int}(ho:out.length=N){u:Int}(h:InV N u):idx out u=some (cl out u):=by
 obtain⟨U,rfl⟩:=Adz h.1
 have:=h.2
 rw[Ch 0 (by omega)]
 unfold cl;rw[Aeo]
end Go.Pev.Pl
end
section
namespace Go.Pev.Pl
end Go.Pev.Pl
end
section
namespace Go.Pev.Pl
def Abu(l:List Edge)(u v:Int):Prop:=((u,(v,())):Edge)∈l∨((v,(u,())):Edge)∈l
instance (l:List Edge)(u v:Int):Decidable (Abu l u v):=inferInstanceAs (Decidable (_∨_))
def Aan(N:Nat)(l:List Edge)(u:Nat):List Edge:=((List.range (N-(u+1))).filter fun i=>decide (Abu l (u:Int) ((u+1+i:Nat):Int))).map fun(i:Nat)=>((u:Int),((u+1+i:Nat):Int),())
def YJ(N:Nat)(l:List Edge):List Edge:=(List.range N).flatMap fun u=>Aan N l u
theorem QN{α β:Type}(P:β→Prop)[DecidablePred P](g:β→α):∀ (xs:List β) (a:List α),xs.foldl (fun a x=>if P x then a++[g x]else a) a=a++(xs.filter fun x=>decide (P x)).map g:=by
 intro xs
 induction xs with
 |nil=>intro a;simp
 |cons x xs ih=>
  intro a
  rw[Aep,ih,AfD]
  by_cases h:P x
  ·simp[h]
  ·simp[h]
end Go.Pev.Pl
end
section
namespace Go.Pev.Pl
def Jd(N:Nat)(ts:List Tie)(l:List Edge):List Edge:=(YJ N l).filter fun x => !decide (x∈ts.map ed)
def X7(l:List Tie)(t:Tie):List Tie:=l.take (l.findIdx fun x => !decide (ahead x t))++t::l.drop (l.findIdx fun x => !decide (ahead x t))
end Go.Pev.Pl
end
section
namespace Go.Pev.Pl
def valid(N:Nat)(t:Tie):Prop:=0≤t.1∧t.1<t.2.1∧t.2.1<(N:Int)∧0≤t.2.2.1∧t.2.2.1≤HW N
theorem ahead.trans{a b c:Tie}(h:ahead a b)(h':ahead b c):ahead a c:=by
 unfold ahead at *
 omega
theorem J2(N:Nat)(ts:List Tie):oks N ts↔(∀ t∈ts,valid N t)∧ts.Pairwise ahead:=by
 constructor
 ·intro h
  have hv:∀ i,i<ts.length→K7 N ts i:=fun i hi=>h i (by simpa using hi)
  refine⟨fun t ht => ?_,?_⟩
  ·obtain⟨i,hi,rfl⟩:=Aer ht
   obtain⟨q1,q2,q3,q4,q5,_⟩:=hv i hi
   simp only[Ads,Adw hi,AeR]at q1 q2 q3 q4 q5
   exact⟨q1,q2,q3,q4,q5⟩
  ·have key:∀ (d i:Nat),i+d+1<ts.length→ahead (ts.getD i zT) (ts.getD (i+d+1) zT):=by
    intro d
    induction d with
    |zero=>
     intro i hi
     obtain⟨_,_,_,_,_,q⟩:=hv (i+0+1) hi
     rcases q with q|q
     ·omega
     ·simpa using q
    |succ d ih=>
     intro i hi
     have h1:=ih i (by omega)
     obtain⟨_,_,_,_,_,q⟩:=hv (i+(d+1)+1) hi
     rcases q with q|q
     ·omega
     ·rw[show i+(d+1)+1-1=i+d+1 by omega]at q
      exact h1.trans q
   rw[Aeq]
   intro i j hi hj hij
   have:=key (j-i-1) i (by omega)
   rw[show i+(j-i-1)+1=j by omega]at this
   simpa only[Ads,Adw hi,Adw hj,AeR]using this
 ·rintro⟨h1,h2⟩ i hi
  have hi:i<ts.length:=by simpa using hi
  have e:∀ j (hj:j<ts.length),ts.getD j zT=ts[j]:=fun j hj=>by
   simp only[Ads,Adw hj,AeR]
  obtain⟨q1,q2,q3,q4,q5⟩:=h1 ts[i] (Ae5 hi)
  unfold K7
  rw[e i hi]
  refine⟨q1,q2,q3,q4,q5,?_⟩
  by_cases h0:i=0
  ·exact .inl h0
  ·right
   rw[e (i-1) (by omega)]
   exact(Aeq.1 h2) (i-1) i (by omega) hi (by omega)
theorem ADC(l:List Tie)(t:Tie):(X7 l t).Perm (t::l):=by
 unfold X7
 refine List.perm_middle.trans ?_
 rw[Aef]
theorem AT4{l:List Tie}{t:Tie}(h:l.Pairwise ahead)(hn:∀ x∈l,¬ (x.1=t.1∧x.2.1=t.2.1)):(X7 l t).Pairwise ahead:=by
 induction l with
 |nil=>simp[X7]
 |cons a l ih=>
  rw[Aec]at h
  have hna:=hn a (by simp)
  have hnl:∀ x∈l,¬ (x.1=t.1∧x.2.1=t.2.1):=fun x hx=>hn x (by simp[hx])
  by_cases ha:ahead a t
  ·have e:X7 (a::l) t=a::X7 l t:=by
    unfold X7
    rw[AgN]
    simp[ha]
   rw[e,Aec]
   refine⟨fun x hx => ?_,ih h.2 hnl⟩
   rcases Adx.1 ((ADC l t).mem_iff.1 hx)with rfl|hx
   ·exact ha
   ·exact h.1 x hx
  ·have e:X7 (a::l) t=t::a::l:=by
    unfold X7
    rw[AgN]
    simp[ha]
   have hta:ahead t a:=by unfold ahead at *;omega
   rw[e,Aec,Aec]
   refine⟨fun x hx => ?_,h.1,h.2⟩
   rcases Adx.1 hx with rfl|hx
   ·exact hta
   ·exact hta.trans (h.1 x hx)
end Go.Pev.Pl
end
section
namespace Go.Pev.Pl
theorem APd(N:Nat)(l:List Edge)(x:Edge):x∈YJ N l↔0≤x.1∧x.1<x.2.1∧x.2.1<(N:Int)∧Abu l x.1 x.2.1:=by
 unfold YJ Aan
 simp only[Agv,AeC,Aei,Aen,Adt]
 constructor
 ·rintro⟨u,hu,i,⟨hi,he⟩,rfl⟩
  exact⟨by show(0:Int)≤(u:Int);omega,by show(u:Int)<((u+1+i:Nat):Int);omega,by show((u+1+i:Nat):Int)<(N:Int);omega,he⟩
 ·obtain⟨a,b,⟨⟩⟩:=x
  rintro⟨h1,h2,h3,h4⟩
  simp only at h1 h2 h3 h4
  obtain⟨u,rfl⟩:=Adz h1
  obtain⟨v,rfl⟩:=Adz (show 0≤b by omega)
  refine⟨u,by omega,v-(u+1),⟨by omega,?_⟩,?_⟩
  ·rw[show u+1+(v-(u+1))=v by omega];exact h4
  ·rw[show u+1+(v-(u+1))=v by omega]
def JA(p x:Edge):Prop:=p.1<x.1∨(p.1=x.1∧p.2.1<x.2.1)
theorem AJg(N:Nat)(l:List Edge):(YJ N l).Pairwise JA:=by
 unfold YJ
 rw[List.pairwise_flatMap]
 refine⟨fun u _ => ?_,?_⟩
 ·unfold Aan
  rw[AfF]
  refine Af6 _ ?_
  refine List.pairwise_lt_range.imp fun h => ?_
  exact .inr ⟨rfl,by show((u+1+_:Nat):Int)<((u+1+_:Nat):Int);omega⟩
 ·refine List.pairwise_lt_range.imp fun h x hx y hy => ?_
  unfold Aan at hx hy
  simp only[AeC]at hx hy
  obtain⟨i,_,rfl⟩:=hx
  obtain⟨j,_,rfl⟩:=hy
  exact .inl (by simp only;omega)
theorem SD(N:Nat)(ts:List Tie)(l:List Edge)(x:Edge):x∈Jd N ts l↔(0≤x.1∧x.1<x.2.1∧x.2.1<(N:Int)∧Abu l x.1 x.2.1)∧¬ x∈ts.map ed:=by
 unfold Jd
 rw[Aei,APd]
 simp
theorem ARA(N:Nat)(ts:List Tie)(l:List Edge):(Jd N ts l).Pairwise JA:=(AJg N l).filter _
end Go.Pev.Pl
end
section
namespace Go.Pev.Pl
open Tok
instance (n v:Int):Decidable (In n v):=inferInstanceAs (Decidable (_∧_))
instance (n:Int):Decidable (Sz n):=inferInstanceAs (Decidable (_∧_))
theorem JR(n v:Int):ALZ (n,v,())=some (decide (In n v),()):=by
 rw[Abq,AQO]
 simp only[Aq,Am]
 by_cases h1:1≤n<;>by_cases h2:n≤64<;>by_cases h3:0≤v<;>simp[In,h1,h2,h3]
theorem AD1(n u v:Int):AMn (n,u,v,())=some (D2 n u v,()):=by
 rw[AaE,AH3]
 simp only[JR,D2,Ak]
 by_cases h1:In n u
 ·by_cases h2:In n v
  ·by_cases h3:u=v
   ·simp[h1,h2,h3]
   ·obtain⟨a1,a2,a3,a4⟩:=h1
    obtain⟨b1,b2,b3,b4⟩:=h2
    have hb:=Fb a1 a2 a3 (by omega)
    have e1:u*n=n*u:=Int.mul_comm _ _
    have e2:n*(u+1)=n*u+n:=by rw[Agl,Agm]
    rw[e1,Af (n:=n*u) (by omega),Af (n:=n+n*u) (by omega),Af (n:=n+n*u+v) (by omega),e2]
    have e3:n+n*u+v=n*u+n+v:=by omega
    simp[In,a1,a2,a3,a4,b3,b4,h3,e3]
  ·simp[h1,h2]
 ·simp[h1]
theorem Tl(n t:Int)(ht:-9223372036854775808≤t∧t≤9223372036854775807):WS (n,t,())=some (NY (B6 n t)):=by
 rw[ANH,RT]
 simp only[JR,Am,Aq]
 by_cases hi:In n t
 ·simp only[hi,Ad2,B6,AeL,NY]
 ·simp only[hi,Ad8]
  by_cases h1:n<1
  ·have hs:¬ Sz n:=fun h=>by have:=h.1;omega
   simp only[h1,Ad2,B6,hi,Ad7,hs,AfL,NY]
  ·simp only[h1,Ad8]
   by_cases h2:64<n
   ·have hs:¬ Sz n:=fun h=>by have:=h.2;omega
    simp only[h2,Ad2,B6,hi,Ad7,hs,AfL,NY]
   ·have a1:1≤n:=by omega
    have a2:n≤64:=by omega
    have hb:=Fb (u:=n) a1 a2 (by omega) (by omega)
    have e3:n*(n+1)=n*n+n:=by rw[Agl,Agm]
    rw[Af (n:=n*n) (by omega),Af (n:=n+n*n) (by omega)]
    simp only[h2,Ad8]
    by_cases h3:t<n
    ·have:¬ n≤t:=by omega
     simp only[h3,Ad2,B6,hi,Ad7,this,AfL,and_false,NY]
    ·simp only[h3,Ad8]
     by_cases h4:n+n*n≤t
     ·have:¬ t<n*(n+1):=by omega
      simp only[h4,Ad2,B6,hi,Ad7,this,AfL,and_false,NY]
     ·obtain⟨d1,d2,d3⟩:=AHV (t:=t) ⟨a1,a2⟩ (by omega) (by omega)
      have q1:=d1.2.2.1
      have q2:=d1.2.2.2
      rw[Af (n:=t-n) (by omega)]
      have hq:(t-n).tdiv n=t/n-1:=by
       rw[Afk (by omega)]
       have:=Int.add_mul_ediv_right t (-1) (show n≠0 by omega)
       rw[show t-n=t + -1*n by omega,this];omega
      have hm:(t-n).tmod n=t % n:=by
       rw[Int.tmod_eq_emod_of_nonneg (by omega)]
       have:=Int.add_mul_emod_self_right t (-1) n
       rw[show t-n=t + -1*n by omega,this]
      simp only[h4,Ad8,Rl,PV,AFN,Vn]
      rw[Ad3 (by omega),Ad3 (by omega),hq,hm,Af (n:=t/n-1) (by omega)]
      simp only[]
      rw[Ak,B6,Ad3 hi]
      by_cases h5:t/n-1=t % n
      ·rw[Ad3 (by intro h;exact h.2.2.2 h5),Adq h5];rfl
      ·rw[Ad6 ⟨⟨a1,a2⟩,by omega,by omega,h5⟩,Adp h5];rfl
theorem ALK(xs ys:List (List Int))(hs:xs.length<9223372036854775808)(hi:∀ x∈xs,x.length<9223372036854775808):AGZ (xs,ys,())=some (decide (xs=ys),()):=by
 rw[APt,Sa,QB]
 by_cases hl:xs.length=ys.length
 ·rw[Adq hl]
  simp only[Ady]
  rcases AC0 (step:=Fe) (fun i=>(xs,ys,((i:Nat):Int),())) xs.length (fun i => !decide (xs.getD i []=ys.getD i [])) (fun _=>.inl (false,())) (.inr (.inl ())) hs (fun i hii=>by
   have hm:(xs.getD i []).length<9223372036854775808:=hi _ (by simp[hii])
   rw[Fe,AO,AK,Adq hii]
   simp (disch:=first|omega|exact hm) only[Ch ([]:List Int),AH,AQA]
   by_cases h:xs.getD i []=ys.getD i []
   ·rw[Adq h];simp
   ·rw[Adp h];simp) (by rw[Fe,AO,AK,Adp (by omega)])with⟨k,hk,hP,_,e⟩|⟨h,e⟩
  ·have e':AT Fe many (xs,ys,(0:Int),())=_:=e
   rw[e']
   have:xs≠ys:=UM ([]:List Int) (j:=k) (by simpa using hP)
   simp[this]
  ·have e':AT Fe many (xs,ys,(0:Int),())=_:=e
   rw[e']
   have:xs=ys:=FA ([]:List Int) hl fun j hj=>by simpa using h j hj
   simp[this]
 ·rw[Adp hl]
  have:xs≠ys:=fun e=>hl (by rw[e])
  simp[this]
theorem ALD(N:Nat)(hN:N≤64)(c:Int):∀ (k i n:Nat),i+k=N→k<n→AQ JM n ((N:Int),c,(N:Int),BJ i,(i:Int),())=some (.inl (c,(N:Int),BJ N,())):=by
 intro k
 induction k with
 |zero=>
  intro i n hi hn
  obtain⟨n,rfl⟩:∃ k,n=k+1:=⟨n-1,by omega⟩
  have:i=N:=by omega
  subst this
  rw[AQ,JM,AK,Adp (by omega)]
 |succ k ih=>
  intro i n hi hn
  obtain⟨n,rfl⟩:∃ k,n=k+1:=⟨n-1,by omega⟩
  rw[AQ,JM,AK,Adq (by omega)]
  simp only[AO,Tp,Ad1,AeF]
  rw[BW (by omega),AH (by omega)]
  simp only[Cw,← PL]
  exact ih (i+1) n (by omega) (by omega)
theorem APi(n:Int):AGU (n,())=some (G1 n):=by
 have hm:4294967296<many:=by simp only[many];omega
 rw[AUv,ZJ,G1]
 simp only[Am]
 by_cases h1:n<1
 ·have:¬ Sz n:=fun h=>by have:=h.1;omega
  simp[h1,this]
 ·by_cases h2:64<n
  ·have:¬ Sz n:=fun h=>by have:=h.2;omega
   simp[h1,h2,this]
  ·obtain⟨N,rfl⟩:=Adz (show 0≤n by omega)
   have hS:Sz (N:Int):=⟨by omega,by omega⟩
   have e:=ALD N (by omega) 0 N 0 many (by omega) (by omega)
   have e':AQ JM many ((N:Int),0,(N:Int),[],(0:Int),())=_:=e
   simp[h1,h2,hS,Ag,e']
end Go.Pev.Pl
end
section
namespace Go.Pev.Pl
theorem LU(xs:List Int)(t:Int)(hs:xs.length<9223372036854775808):Mj (xs,t,())=some (pos xs t,()):=by
 rw[AOb,Rq]
 have e:=Gw (step:=Hg) (fun i=>(xs,t,(i:Int),())) xs (fun x=>decide (x=t)) (fun i=>.inl ((i:Int),())) (.inr (.inl ())) hs
  (fun i x hi hx=>by
   rw[Hg,AO,AK,Adq hi]
   simp only[Ah hx,Ak]
   by_cases h:x=t
   ·simp[h]
   ·simp only[h,Ad8];rw[AH (by omega)];simp)
  (by rw[Hg,AO,AK,Adp (by omega)])
 have e':AT Hg many (xs,t,(0:Int),())=_:=e
 rw[e',AH4,pos]
 by_cases h:t∈xs<;>simp[h]
instance (xs:List Int):Decidable (Rt xs):=inferInstanceAs (Decidable (_∧_∧_))
theorem LQ(xs:List Int):PS (xs,())=some (decide (Rt xs),()):=by
 rw[AN2,Rj,AO,Am]
 by_cases hl:xs.length≤1000
 ·rw[Adp (by omega)]
  simp only[]
  rcases AC0 (step:=FU) (fun i=>(xs,((i:Nat):Int),())) xs.length (fun i=>decide (xs.getD i 0<0)||decide (10000<xs.getD i 0)||decide (xs.getD i 0∈xs.take i)) (fun _=>.inl (false,())) (.inr (.inl ())) (by omega) (fun i hi=>by
   rw[FU,AO,AK,Adq hi]
   have hpl:Mj (xs.take i,xs.getD i 0,())=some (pos (xs.take i) (xs.getD i 0),()):=LU _ _ (by simp;omega)
   simp (disch:=omega) only[Ch (0:Int),N6,hpl,AH,Am,Aq]
   by_cases h1:xs.getD i 0<0
   ·simp only[h1,Ad2];simp
   ·by_cases h2:10000<xs.getD i 0
    ·simp only[h1,h2,Ad2,Ad8];simp
    ·by_cases h3:xs.getD i 0∈xs.take i
     ·obtain⟨k,e,_⟩:=AFW h3
      rw[e]
      simp only[h1,h2,h3,Ad2,Ad8];simp
     ·rw[PZ h3]
      simp only[h1,h2,h3,Ad8];simp) (by rw[FU,AO,AK,Adp (by omega)])with⟨k,hk,hP,_,e⟩|⟨h,e⟩
  ·have e':AT FU many (xs,(0:Int),())=_:=e
   rw[e']
   have:¬ Rt xs:=by
    rintro⟨_,h1,h2⟩
    have hm:xs.getD k 0∈xs:=by
     rw[Ads,Adw hk,AeR];exact Ae5 hk
    have:=h1 _ hm
    have h3:=(Pr xs).1 h2 k hk
    have c1:¬ xs.getD k 0<0:=by omega
    have c2:¬ 10000<xs.getD k 0:=by omega
    rw[Adp c1,Adp c2,Adp h3]at hP
    cases hP
   simp[this]
  ·have e':AT FU many (xs,(0:Int),())=_:=e
   rw[e']
   have:Rt xs:=by
    have key:∀ j,j<xs.length→¬ xs.getD j 0<0∧¬ 10000<xs.getD j 0∧xs.getD j 0∉xs.take j:=fun j hj=>by
     have:=h j hj
     rw[Af4,Af4,Aeg,Aeg,Aeg]at this
     exact⟨this.1.1,this.1.2,this.2⟩
    refine⟨hl,fun x hx => ?_,(Pr xs).2 fun j hj=>(key j hj).2.2⟩
    obtain⟨j,hj,rfl⟩:=Aer hx
    obtain⟨k1,k2,_⟩:=key j hj
    rw[Ads,Adw hj,AeR]at k1 k2
    omega
   simp[this]
 ·rw[Adq (by omega)]
  have:¬ Rt xs:=fun h=>hl h.1
  simp[this]
theorem Og(xs:List Int)(t:Int)(hs:xs.length<9223372036854775808):Z2 (xs,t,())=some (Ih xs t):=by
 rw[AVs,Z1,Ih]
 simp only[LU xs t hs,LQ]
 by_cases hr:Rt xs
 ·have hl:=hr.1
  simp only[hr,Ad2,Ady,AfX]
  by_cases h:t∈xs
  ·have hk:xs.findIdx (fun x=>decide (x=t))<xs.length:=Ae8.2 ⟨t,h,by simp⟩
   rw[pos,Ad6 h,Ad6 h,A5,rot]
   generalize xs.findIdx (fun x=>decide (x=t))=k at *
   rw[Am,Adp (by omega)]
   simp only[GL (Afs hk),N6 (Afs hk)]
   rw[BW (by simp only[AO,AeF,AeY];omega)]
   simp only[]
   rw[BW (by simp only[AO,Cw,AeQ,AeD,AeY];omega)]
   simp only[Cw,AeQ]
  ·rw[PZ h,Ad3 h,Am]
   simp
 ·simp[hr]
theorem Ts(xs:List Int):We (xs,())=some (plain xs,()):=by
 rw[AOW,Ro,plain]
 simp only[LQ]
 by_cases hr:Rt xs
 ·have hl:=hr.1
  simp only[hr,Ad2,Ady,AfX]
  cases xs with
  |nil=>simp[AO,D0]
  |cons x xs=>
   rw[AO,Ak,Adp (by simp only[Ad1];omega)]
   have i0:idx (x::xs) (0:Int)=some x:=by rw[E3];rfl
   simp only[i0]
   have e:=DH (step:=He) (fun i (a:Int)=>(x::xs,a,(i:Int),())) (x::xs) (fun y a=>.inl (Bz a y)) (fun a=>.inl (x::xs,a,())) (fun _ _=>True) (by omega)
    (fun i y a hi hy _=>by
     refine⟨fun m' h' => ?_,fun r h'=>by cases h'⟩
     cases h'
     rw[He,AO,AK,Adq hi]
     simp only[Ah hy]
     rw[AH (by omega)]
     exact⟨rfl,trivial⟩)
    (fun a _=>by rw[He,AO,AK,Adp (by omega)]) x trivial
   have e':AT He many (x::xs,x,(0:Int),())=_:=e
   rw[e',BZ]
   have hmin:(x::xs).foldl (fun a y=>Bz a y) x=GY (x::xs):=by
    rw[Aep,GY]
    have:Bz x x=x:=by rw[Bz];split<;>rfl
    rw[this]
   rw[hmin]
   have hm:=(Ej (xs:=x::xs) (by simp)).1
   simp only[Og (x::xs) _ (by omega),Ih,hr,hm,AgU,AeL]
   simp
 ·simp[hr]
end Go.Pev.Pl
end
section
namespace Go.Pev.Pl
open Tok
noncomputable instance (n:Int) (xs:List Int):Decidable (TI n xs):=Classical.propDecidable _
end Go.Pev.Pl
end
section
namespace Go.Pev.Pl
open Tok
theorem AEr(n t u:Int)(ht:-9223372036854775808≤t∧t≤9223372036854775807):XV (n,t,u,())=some (Jo n t u,()):=by
 rw[AI0,N7,Jo]
 simp only[Tl n t ht,Ak]
 cases B6 n t with
 |none=>rfl
 |some x=>cases x with
  |ver v=>
   by_cases h:v=u<;>simp[NY,st,h]
  |arc p q=>
   by_cases h:q=u<;>simp[NY,st,h]
end Go.Pev.Pl
end
section
namespace Go.Pev.Pl
open Tok
theorem AaU(n:Int)(l:List Int)(i:Nat)(hi:i<l.length)(hl:l.length<1073741824)(d5 d6 d7 d8:Bool)(d9 d10:Int)(d11:Bool)(d12 d13 d14 d15 d16:Int)(d17:Bool)(d18 d19 d20 d21 d22 d23 d24 d25 d26:Int)(d27:Bool):
  ∀ (m k cnt:Nat) (acc:List Int),k+m=l.length→acc.length≤k→m<cnt →
  AQ JD cnt (n,l,(i:Int),acc,(k:Int),d5,d6,d7,d8,d9,d10,d11,d12,d13,d14,d15,d16,d17,d18,d19,d20,d21,d22,d23,d24,d25,d26,d27,()) =
   some (.inl (n,(i:Int),acc++(List.range' k m).map (fun k=>l.getD ((i+k) % l.length) 0),d5,d6,d7,d8,d9,d10,d11,d12,d13,d14,d15,d16,d17,d18,l,d19,d20,d21,d22,d23,d24,d25,d26,d27,())):=by
 intro m
 induction m with
 |zero=>
  intro k cnt acc hk ha hc
  obtain⟨cnt,rfl⟩:∃ c,cnt=c+1:=⟨cnt-1,by omega⟩
  rw[AQ,JD,AO,AK,Adp (by omega)]
  simp
 |succ m ih=>
  intro k cnt acc hk ha hc
  obtain⟨cnt,rfl⟩:∃ c,cnt=c+1:=⟨cnt-1,by omega⟩
  have hm:(i+k) % l.length<l.length:=Nat.mod_lt _ (by omega)
  rw[AQ,JD,AO,AK,Adq (by omega)]
  simp only[]
  rw[wrap_add (by omega),Wd (by omega)]
  simp only[Ch (0:Int) hm,Fv]
  rw[BW (by simp only[AO,Ad1,AeF];omega),AH (by omega)]
  simp only[Cw]
  rw[ih (k+1) cnt _ (by omega) (by simp;omega) (by omega)]
  simp[Agu]
theorem ANC(n:Int)(l:List Int)(i:Nat)(hi:i<l.length)(h1:1<l.length)(hl:l.length<1073741824)(hr:∀ x∈l, -9223372036854775808≤x∧x≤9223372036854775807):
  Df (n,l,false,(i:Int),())=if KA n l i then some (.inl (n,FV l i,true,((i+1:Nat):Int),()))else some (.inl (n,l,false,((i+1:Nat):Int),())):=by
 have hmany:4294967296<many:=by simp only[many];omega
 have m1:(i+1) % l.length<l.length:=Nat.mod_lt _ (by omega)
 have m2:(i+2) % l.length<l.length:=Nat.mod_lt _ (by omega)
 have m0:(i+l.length-1) % l.length<l.length:=Nat.mod_lt _ (by omega)
 have hin:∀ {k:Nat},k<l.length→l.getD k 0∈l:=fun {k} hk=>by
  rw[Ads,Adw hk,AeR];exact Ae5 hk
 have w2:IntKind.wrap .i64 ((i:Int)+2)=((i+2:Nat):Int):=by rw[Af (by omega)];omega
 have w3:IntKind.wrap .i64 ((i:Int)+(l.length:Int))=((i+l.length:Nat):Int):=wrap_add (by omega)
 have w4:IntKind.wrap .i64 (((i+l.length:Nat):Int)-1)=((i+l.length-1:Nat):Int):=Al (by omega)
 have f4:ile (4:Int) (l.length:Int)=decide (4≤l.length):=by
  rw[Aq]
  by_cases h:4≤l.length
  ·rw[Adq h,Adq (by omega)]
  ·rw[Adp h,Adp (by omega)]
 rw[Df,AO,AK,Adq hi]
 simp only[AeM,Ch (0:Int) hi]
 rw[AH (by omega),w2,Wd (by omega),Wd (by omega)]
 simp only[Ch (0:Int) m1,Ch (0:Int) m2,Fv,Tl n _ (hr _ (hin hi)),f4,KA]
 by_cases h4:4≤l.length
 ·simp only[h4,Ad2,AgF]
  cases ht:B6 n (l.getD i 0)with
  |none=>rfl
  |some t=>
   cases t with
   |ver v=>rfl
   |arc u v=>
    simp only[NY,Ak,AD1]
    by_cases c1:l.getD ((i+1) % l.length) 0=v
    ·simp only[c1,Ad2,AgF]
     by_cases c2:l.getD ((i+2) % l.length) 0=D2 n v u
     ·simp only[c2,Ad2,AgF,w3,w4]
      rw[Wd (by omega)]
      simp only[Ch (0:Int) m0,Fv,AEr n _ u (hr _ (hin m0))]
      cases Jo n (l.getD ((i+l.length-1) % l.length) 0) u
      ·rfl
      ·simp only[AeL,Ag]
       have e:=AaU n l i hi hl false true true true v v true (D2 n v u) n v u (D2 n v u) true n (i:Int) (l.length:Int) ((i+l.length:Nat):Int) ((i+l.length-1:Nat):Int) (l.length:Int) (((i+l.length-1) % l.length:Nat):Int) (l.getD ((i+l.length-1) % l.length) 0) u true (l.length-3) 3 many [] (by omega) (by simp) (by omega)
       have e':AQ JD many (n,l,(i:Int),[],(3:Int),_)=_:=e
       simp only[e',AH (show i+1<9223372036854775808 by omega)]
       rfl
     ·simp only[c2,Ad8,Afg,Ad4,Ad7]
    ·simp only[c1,Ad8,Afg,Ad4,Ad7]
 ·simp only[h4,Ad8,Afg,Ad4,Ad7]
theorem AaV(n:Int)(l:List Int)(h1:1<l.length)(hl:l.length<1073741824)(hr:∀ x∈l, -9223372036854775808≤x∧x≤9223372036854775807):
  ∀ (m i cnt:Nat),i+m=l.length→m+1<cnt →
  (∃ k,k<l.length∧KA n l k=true∧AQ Df cnt (n,l,false,(i:Int),())=some (.inl (n,FV l k,true,()))) ∨
  ((∀ k,i≤k→k<l.length→KA n l k=false)∧AQ Df cnt (n,l,false,(i:Int),())=some (.inl (n,l,false,()))):=by
 intro m
 induction m with
 |zero=>
  intro i cnt hi hc
  obtain⟨cnt,rfl⟩:∃ c,cnt=c+1:=⟨cnt-1,by omega⟩
  right
  refine⟨fun k q1 q2=>by omega,?_⟩
  rw[AQ,Df,AO,AK,Adp (by omega)]
 |succ m ih=>
  intro i cnt hi hc
  obtain⟨cnt,rfl⟩:∃ c,cnt=c+1:=⟨cnt-1,by omega⟩
  rw[AQ,ANC n l i (by omega) h1 hl hr]
  cases hlf:KA n l i
  ·simp only[Ad4,Ad7]
   rcases ih (i+1) cnt (by omega) (by omega)with h|⟨h,e⟩
   ·exact .inl h
   ·refine .inr ⟨fun k q1 q2 => ?_,e⟩
    by_cases ek:k=i
    ·rw[ek];exact hlf
    ·exact h k (by omega) q2
  ·simp only[AeL]
   obtain⟨cnt,rfl⟩:∃ c,cnt=c+1:=⟨cnt-1,by omega⟩
   refine .inl ⟨i,by omega,hlf,?_⟩
   rw[AQ,Df]
   cases ilt ((i+1:Nat):Int) (AM (FV l i))<;>rfl
theorem AaW(n:Int):∀ (m:Nat) (l:List Int) (cnt:Nat),l.length=m→l.length<1073741824→(∀ x∈l, -9223372036854775808≤x∧x≤9223372036854775807)→l.Nodup→m<cnt →
  (¬ TI n l∧AQ Me cnt (n,l,())=some (.inl (false,()))) ∨
  ∃ l',AQ Me cnt (n,l,())=some (.inr (.inl (n,l',())))∧l'.length≤1∧(TI n l↔TI n l'):=by
 intro m
 induction m using Nat.strongRecOn with
 |_ m ih=>
 intro l cnt hm hl hr hn hc
 have hmany:4294967296<many:=by simp only[many];omega
 obtain⟨cnt,rfl⟩:∃ c,cnt=c+1:=⟨cnt-1,by omega⟩
 rw[AQ,Me,AO,Am]
 by_cases h1:1<l.length
 ·rw[Adq (by omega)]
  simp only[Ag]
  rcases AaV n l h1 hl hr l.length 0 many (by omega) (by omega)with⟨k,k1,k2,e⟩|⟨k1,e⟩
  ·have e':AQ Df many (n,l,false,(0:Int),())=_:=e
   simp only[e',Ady]
   have hred:=AP1 k1 k2
   have hiff:=Acm hred hn
   have hlen:(FV l k).length=l.length-3:=by simp[FV]
   rcases ih (l.length-3) (by omega) (FV l k) cnt hlen (by omega) (fun x hx=>hr x (AOE k1 x hx)) (AT3 hred hn) (by omega)with⟨q1,q2⟩|⟨l',q1,q2,q3⟩
   ·exact .inl ⟨fun h=>q1 (hiff.1 h),q2⟩
   ·exact .inr ⟨l',q1,q2,hiff.trans q3⟩
  ·have e':AQ Df many (n,l,false,(0:Int),())=_:=e
   simp only[e',AeM]
   refine .inl ⟨fun h => ?_,by trivial⟩
   obtain⟨l',hl'⟩:=AdP h h1
   obtain⟨i,i1,i2⟩:=AOI hl'
   rw[k1 i (by omega) i1]at i2
   cases i2
 ·rw[Adp (by omega)]
  exact .inr ⟨l,rfl,by omega,Iff.rfl⟩
theorem AND(n:Int)(l:List Int)(hl:l.length<1073741824)(hr:∀ x∈l, -9223372036854775808≤x∧x≤9223372036854775807)(hn:l.Nodup):ANE (n,l,())=some (decide (TI n l),()):=by
 have hmany:4294967296<many:=by simp only[many];omega
 rw[ATQ,XN,BW (by simp only[AO,AeF];omega)]
 simp only[Cw,AeQ,Ag]
 rcases AaW n l.length l many rfl hl hr hn (by omega)with⟨q1,q2⟩|⟨l',q1,q2,q3⟩
 ·rw[q2,Adp q1]
 ·rw[q1]
  simp only[AO,Ak]
  match l',q2,q3 with
  |[],_,q3=>
   have:¬ TI n l:=fun h=>AaM n (q3.1 h)
   simp[this]
  |[t],_,q3=>
   rw[AaL]at q3
   have i0:idx [t] (0:Int)=some t:=by rw[E3];rfl
   have d0:AN [t] 0 (0:Int)=t:=rfl
   rw[Adq (by simp)]
   simp only[i0,d0,JR]
   by_cases h:In n t
   ·rw[Adq h,Adq (q3.2 h)]
   ·rw[Adp h,Adp (fun h2=>h (q3.1 h2))]
end Go.Pev.Pl
end
section
namespace Go.Pev.Pl
open Tok
noncomputable instance (n:Int) (rings:List (List Int)):Decidable (RF n rings):=Classical.propDecidable _
noncomputable instance (n:Int) (xs:List Int):Decidable (RG n xs):=Classical.propDecidable _
end Go.Pev.Pl
end
end
section
section
namespace Go.Pev.Pl
open Tok
theorem ABf(N:Nat)(hN:N≤64)(l:List Int)(hl:l.length<1073741824)(h0:∀ t∈l,0≤t)(d1:List (List Int))(d3 d5:Int)(d8:List Int)(d9:Int)(d10:Bool)(d11:Int)(d12:List Int)(d13 d14:Bool)(d15 d16:List Int)(d17:List (List Int))(d18:List Int)(d19:List (List Int))(d20 d21:Bool)(d22:List Int)(d23 d24:Int)(d25:Bool):
  ∀ (m k cnt:Nat) (met:List Bool) (seen:List Int),k+m=l.length→MB N met seen→(l.drop k).Nodup→seen.length+m<4611686018427387904→m<cnt →
  ((∀ t∈l.drop k,t<(N:Int)→t∉seen)∧∃ met',AQ EJ cnt ((N:Int),d1,met,d3,(seen.length:Int),d5,l,(k:Int),d8,d9,d10,d11,d12,d13,d14,d15,d16,d17,d18,d19,d20,d21,d22,d23,d24,d25,()) =
    some (.inr (.inl ((N:Int),d1,met',d3,((seen++(l.drop k).filter (fun t=>decide (t<(N:Int)))).length:Int),d5,d8,d9,d10,d11,d12,d13,d14,d15,d16,d17,d18,d19,d20,d21,d22,d23,d24,d25,())))∧MB N met' (seen++(l.drop k).filter (fun t=>decide (t<(N:Int))))) ∨
  (¬ (∀ t∈l.drop k,t<(N:Int)→t∉seen)∧AQ EJ cnt ((N:Int),d1,met,d3,(seen.length:Int),d5,l,(k:Int),d8,d9,d10,d11,d12,d13,d14,d15,d16,d17,d18,d19,d20,d21,d22,d23,d24,d25,())=some (.inl (false,()))):=by
 intro m
 induction m with
 |zero=>
  intro k cnt met seen hk hm hn hsl hc
  obtain⟨cnt,rfl⟩:∃ c,cnt=c+1:=⟨cnt-1,by omega⟩
  have e:l.drop k=[]:=Ae2 (by omega)
  rw[e]
  refine .inl ⟨by simp,met,?_,by simpa using hm⟩
  rw[AQ,EJ,AO,AK,Adp (by omega)]
  simp
 |succ m ih=>
  intro k cnt met seen hk hm hn hsl hc
  obtain⟨cnt,rfl⟩:∃ c,cnt=c+1:=⟨cnt-1,by omega⟩
  have hk':k<l.length:=by omega
  have e:l.drop k=l.getD k 0::l.drop (k+1):=by
   rw[Aea hk',Ads,Adw hk',AeR]
  have hpos:0≤l.getD k 0:=h0 _ (by rw[Ads,Adw hk',AeR];exact Ae5 hk')
  rw[AQ,EJ,AO,AK,Adq hk']
  simp only[Ch (0:Int) hk']
  rw[e]at hn ⊢
  generalize l.getD k 0=t at *
  rw[AeP]at hn
  rw[AH (show k+1<9223372036854775808 by omega),Am]
  by_cases ht:t<(N:Int)
  ·rw[Adq ht]
   obtain⟨q,rfl⟩:=Adz hpos
   have hq:q<met.length:=by rw[hm.1];omega
   have hmq:=hm.2 q (by omega)
   simp only[Ch false hq,Fv,AHS,hmq]
   by_cases hs:(q:Int)∈seen
   ·rw[Adq hs]
    exact .inr ⟨fun h=>h (q:Int) (by simp) ht hs,rfl⟩
   ·rw[Adp hs]
    simp only[]
    have hm':MB N (met.set q true) (seen++[(q:Int)]):=by
     refine⟨by simp[hm.1],fun y hy => ?_⟩
     by_cases e2:y=q
     ·subst e2
      simp[Ads,hq]
     ·have h3:=hm.2 y hy
      have e3:¬ (y:Int)=(q:Int):=by omega
      rw[Ads,Ael (Aej e2),← Ads,h3]
      simp[e3]
    have hlen:(((seen.length:Nat):Int))=((seen.length:Nat):Int):=rfl
    have hw:IntKind.wrap .i64 ((seen.length:Int)+1)=((seen++[(q:Int)]).length:Int):=by
     rw[Af (by omega)];simp
    rw[hw]
    have hiff:(∀ y∈(q:Int)::l.drop (k+1),y<(N:Int)→y∉seen)↔∀ y∈l.drop (k+1),y<(N:Int)→y∉seen++[(q:Int)]:=by
     constructor
     ·intro h y hy hyn hm2
      simp only[Adu,AeK]at hm2
      rcases hm2 with h2|rfl
      ·exact h y (AeH _ hy) hyn h2
      ·exact hn.1 hy
     ·intro h y hy hyn hm2
      rcases Adx.1 hy with rfl|hy
      ·exact hs hm2
      ·exact h y hy hyn (by simp[hm2])
    rcases ih (k+1) cnt _ _ (by omega) hm' hn.2 (by simp;omega) (by omega)with⟨q1,met',q2,q3⟩|⟨q1,q2⟩
    ·refine .inl ⟨hiff.2 q1,met',?_,?_⟩
     ·rw[Agi (by simpa using ht)]
      rw[q2,Aed]
      rfl
     ·rw[Agi (by simpa using ht)]
      simpa using q3
    ·exact .inr ⟨fun h=>q1 (hiff.1 h),q2⟩
  ·rw[Adp ht]
   simp only[]
   have hiff:(∀ y∈t::l.drop (k+1),y<(N:Int)→y∉seen)↔∀ y∈l.drop (k+1),y<(N:Int)→y∉seen:=by
    constructor
    ·intro h y hy;exact h y (AeH _ hy)
    ·intro h y hy hyn
     rcases Adx.1 hy with rfl|hy
     ·exact absurd hyn ht
     ·exact h y hy hyn
   rcases ih (k+1) cnt _ _ (by omega) hm hn.2 (by omega) (by omega)with⟨q1,met',q2,q3⟩|⟨q1,q2⟩
   ·refine .inl ⟨hiff.2 q1,met',?_,?_⟩
    ·rw[Agj (by simpa using ht)]
     exact q2
    ·rw[Agj (by simpa using ht)]
     exact q3
   ·exact .inr ⟨fun h=>q1 (hiff.1 h),q2⟩
theorem Vm(N:Nat)(hN1:1≤N)(hN:N≤64)(rings:List (List Int))(hlen:rings.length≤64)(hr:∀ l∈rings,l.length<9223372036854775808∧∀ x∈l, -9223372036854775808≤x∧x≤9223372036854775807):
  ∀ (ls:List (List Int)) (i cnt:Nat) (met:List Bool) (last:Int) (seen:List Int),rings.drop i=ls→i≤rings.length→MB N met seen→seen.length≤i*1073741824→ls.length<cnt →
  (okR (N:Int) seen last ls∧∃ met' seen',AQ EK cnt ((N:Int),rings,met,last,(seen.length:Int),(i:Int),())=some (.inr (.inl ((N:Int),rings,(seen'.length:Int),())))∧MB N met' seen'∧seen'=seen++ls.flatten.filter (fun t=>decide (t<(N:Int)))) ∨
  (¬ okR (N:Int) seen last ls∧AQ EK cnt ((N:Int),rings,met,last,(seen.length:Int),(i:Int),())=some (.inl (false,()))):=by
 have hmany:4294967296<many:=by simp only[many];omega
 intro ls
 induction ls with
 |nil=>
  intro i cnt met last seen hd hi hm hsl hc
  obtain⟨cnt,rfl⟩:∃ c,cnt=c+1:=⟨cnt-1,by simp at hc;omega⟩
  have:rings.length≤i:=by simpa using hd
  refine .inl ⟨trivial,met,seen,?_,hm,by simp⟩
  rw[AQ,EK,AO,AK,Adp (by omega)]
 |cons l ls ih=>
  intro i cnt met last seen hd hi hm hsl hc
  simp only[Ad1]at hc
  obtain⟨cnt,rfl⟩:∃ c,cnt=c+1:=⟨cnt-1,by omega⟩
  have hi':i<rings.length:=by
   refine Aeb fun h => ?_
   rw[Ae2 (by omega)]at hd
   cases hd
  rw[Aea hi']at hd
  simp only[AeJ]at hd
  obtain⟨hd1,hd2⟩:=hd
  have hx:rings[i]? = some l:=by rw[Adw hi',hd1]
  have hmem:l∈rings:=Ad9 hx
  obtain⟨hl,hlr⟩:=hr l hmem
  rw[AQ,EK,AO,AK,Adq hi',okR]
  simp only[Ah hx,LQ]
  by_cases c2:Rt l
  ·rw[Adq c2]
   have hl:l.length<1073741824:=by have:=c2.1;omega
   simp only[Ady]
   cases l with
   |nil=>
    rw[AO,Ak,Adq (by simp)]
    exact .inr ⟨fun h=>h.1.2.1 rfl,rfl⟩
   |cons x tl=>
    rw[AO,Ak,Adp (by simp only[Ad1];omega)]
    simp only[AND (N:Int) (x::tl) hl hlr c2.2.2]
    by_cases c4:TI (N:Int) (x::tl)
    ·rw[Adq c4]
     simp only[Ady,Ts]
     rw[ALK _ _ (by simp) (by
      intro y hy
      simp only[AeK]at hy
      subst hy
      obtain⟨a,b,q1,q2⟩:=Hd c2 (by simp)
      have:=AfK List.length q1
      rw[q2]
      simp only[Ad1,Ad0]at this hl ⊢
      omega)]
     have hps:=YI c2 (by simp)
     have hps2:([plain (x::tl)]=[x::tl])↔GY (x::tl)=x:=by simpa using hps
     by_cases c3:GY (x::tl)=x
     ·rw[Adq (hps2.2 c3)]
      have i0:idx (x::tl) (0:Int)=some x:=by rw[E3];rfl
      simp only[Ady,i0,Agb,Aq]
      by_cases c1:x≤last
      ·rw[Adq c1]
       exact .inr ⟨fun h=>by omega,rfl⟩
      ·rw[Adp c1]
       simp only[Ag]
       have hRG:RG (N:Int) (x::tl):=⟨c2,by simp,c3,c4⟩
       rcases ABf N hN (x::tl) hl (fun t ht=>(c2.2.1 t ht).1) rings x (i:Int) (x::tl) ((x::tl).length:Int) false (N:Int) (x::tl) true false (x::tl) (plain (x::tl)) [plain (x::tl)] (x::tl) [x::tl] true false (x::tl) x last false (x::tl).length 0 many met seen (by omega) hm (by rw[Afw];exact c2.2.2) (by omega) (by omega)with⟨q1,met',q2,q3⟩|⟨q1,q2⟩
       ·rw[Afw]at q1 q3 q2
        have q2':AQ EJ many ((N:Int),rings,met,x,(seen.length:Int),(i:Int),x::tl,(0:Int),x::tl,((x::tl).length:Int),false,(N:Int),x::tl,true,false,x::tl,plain (x::tl),[plain (x::tl)],x::tl,[x::tl],true,false,x::tl,x,last,false,())=_:=q2
        simp only[q2',AH (show i+1<9223372036854775808 by omega)]
        have hfl:((x::tl).filter (fun t=>decide (t<(N:Int)))).length≤(x::tl).length:=Af1 _ _
        rcases ih (i+1) cnt met' x (seen++(x::tl).filter (fun t=>decide (t<(N:Int)))) hd2 (by omega) q3 (by rw[Ad0];omega) (by omega)with⟨p1,met2,seen2,p2,p3,p4⟩|⟨p1,p2⟩
        ·refine .inl ⟨⟨hRG,by omega,q1,p1⟩,met2,seen2,p2,p3,?_⟩
         rw[p4,AfU,AfQ,Aed]
        ·exact .inr ⟨fun h=>p1 h.2.2.2,p2⟩
       ·rw[Afw]at q1
        have q2':AQ EJ many ((N:Int),rings,met,x,(seen.length:Int),(i:Int),x::tl,(0:Int),x::tl,((x::tl).length:Int),false,(N:Int),x::tl,true,false,x::tl,plain (x::tl),[plain (x::tl)],x::tl,[x::tl],true,false,x::tl,x,last,false,())=_:=q2
        simp only[q2']
        exact .inr ⟨fun h=>q1 h.2.2.1,by trivial⟩
     ·rw[Adp (fun h=>c3 (hps2.1 h))]
      exact .inr ⟨fun h=>c3 h.1.2.2.1,rfl⟩
    ·rw[Adp c4]
     exact .inr ⟨fun h=>c4 h.1.2.2.2,rfl⟩
  ·rw[Adp c2]
   exact .inr ⟨fun h=>c2 h.1.1,rfl⟩
theorem GN(n:Int)(rings:List (List Int))(hlen:rings.length<1073741824)(hr:∀ l∈rings,l.length<9223372036854775808∧∀ x∈l, -9223372036854775808≤x∧x≤9223372036854775807):
  Wa ((n,(rings,())),())=some (decide (RF n rings),()):=by
 have hmany:4294967296<many:=by simp only[many];omega
 rw[AN1,Ri]
 simp only[Am,AO]
 by_cases h1:n<1
 ·rw[Adq h1,Adp (show ¬ RF n rings from fun h=>by have:=h.1.1;omega)]
 ·rw[Adp h1]
  simp only[]
  by_cases h2:64<n
  ·rw[Adq h2,Adp (show ¬ RF n rings from fun h=>by have:=h.1.2;omega)]
  ·rw[Adp h2]
   simp only[]
   by_cases h3:n<(rings.length:Int)
   ·rw[Adq h3,Adp (show ¬ RF n rings from fun h=>by
     have:=ASK (by omega) h.2.1 (by omega) (by omega)
     omega)]
   ·rw[Adp h3]
    obtain⟨N,rfl⟩:=Adz (show 0≤n by omega)
    have f1:Kz (N:Int)=true:=(JW _).2 (by omega)
    have f2:ile (N:Int) (N:Int)=true:=by rw[Aq];simp
    simp only[f1,f2,Af2,AgG,Ag]
    have hMB:MB N (JY (AE (N:Int)) false) []:=by
     refine⟨by simp[JY,KP],fun k hk => ?_⟩
     simp[JY,KP,hk]
    rcases Vm N (by omega) (by omega) rings (by omega) hr rings 0 many _ (-1) [] (by simp) (by omega) hMB (by simp) (by omega)with⟨p1,met,seen,p2,p3,p4⟩|⟨p1,p2⟩
    ·have p2':AQ EK many ((N:Int),rings,JY (AE (N:Int)) false, -1,(0:Int),(0:Int),())=_:=p2
     simp only[p2',Ak]
     obtain⟨q1,q2⟩:=AUe p1 (by simp)
     rw[← p4]at q1
     have hsub:∀ x∈seen,x∈(List.range N).map (fun(k:Nat)=>(k:Int)):=by
      intro x hx
      rw[p4]at hx
      simp only[AeQ,Aei,Ags,Adt]at hx
      obtain⟨⟨l,hl,hxl⟩,hxn⟩:=hx
      have:=((q2 l hl).1.2.1 x hxl).1
      rw[AeC]
      exact⟨x.toNat,by rw[Aen];omega,by omega⟩
     have hv:∀ v,v∈seen↔(v<(N:Int)∧v∈rings.flatten):=fun v=>by rw[p4,AeQ,Aei,Adt,and_comm]
     have hS:Sz (N:Int):=⟨by omega,by omega⟩
     by_cases hc:(seen.length:Int)=(N:Int)
     ·rw[Adq hc,Adq]
      refine⟨hS,p1,fun v v1 v2 => ?_⟩
      have:=Pq q1 hsub (by simp;omega) v (by rw[AeC];exact⟨v.toNat,by rw[Aen];omega,by omega⟩)
      exact((hv v).1 this).2
     ·rw[Adp hc,Adp]
      rintro⟨_,_,h⟩
      have a1:=C9 q1 hsub
      have hrn:((List.range N).map (fun(k:Nat)=>(k:Int))).Nodup:=by
       rw[List.Nodup,AfF]
       exact List.nodup_range.imp fun h e=>h (by omega)
      have a2:=C9 (a:=(List.range N).map (fun(k:Nat)=>(k:Int))) (b:=seen) hrn fun x hx=>by
       rw[AeC]at hx
       obtain⟨k,hk,rfl⟩:=hx
       rw[Aen]at hk
       exact(hv _).2 ⟨by omega,h (k:Int) (by omega) (by omega)⟩
      simp only[Aek,AeV]at a1 a2
      omega
    ·have p2':AQ EK many ((N:Int),rings,JY (AE (N:Int)) false, -1,(0:Int),(0:Int),())=_:=p2
     simp only[p2']
     rw[Adp (fun h=>p1 h.2.1)]
end Go.Pev.Pl
end
section
namespace Go.Pev.Pl
open Tok
theorem Tt(n:Int)(rings:List (List Int))(v:Int)(hlen:rings.length<1073741824)(hr:∀ l∈rings,l.length<9223372036854775808):Mi ((n,(rings,())),v,())=some (plc rings v,()):=by
 rw[AOa,Rp]
 have e:=Gw (step:=Hf) (fun i=>(v,n,rings,(i:Int),())) rings (fun l=>decide (v∈l)) (fun i=>.inl ((i:Int),())) (.inr (.inl ())) (by omega)
  (fun i l hi hx=>by
   have hl:=hr l (Ad9 hx)
   rw[Hf,AO,AK,Adq hi]
   simp only[Ah hx,LU l v (by omega)]
   rw[AH (by omega),Aq]
   by_cases h:v∈l
   ·obtain⟨k,e,_⟩:=AFW h
    rw[e,Adq (by omega),Adq h];rfl
   ·rw[PZ h,Adp (by omega),Adp h];rfl)
  (by rw[Hf,AO,AK,Adp (by omega)])
 have e':AT Hf many (v,n,rings,(0:Int),())=_:=e
 simp only[e',plc]
 cases rings.any (fun l=>decide (v∈l))<;>rfl
end Go.Pev.Pl
end
section
namespace Go.Pev.Pl
open Tok
theorem AT5(rest:List (List Int))(r:List Int)(hlen:rest.length<1073741824)(hne:∀ l∈rest,l≠[])(hp:plain r≠[]):AR2 (rest,r,())=some (X8 rest (plain r),()):=by
 rw[AXg,AFR]
 simp only[Ts]
 generalize plain r=p at *
 have e:=Gw (step:=LR) (fun i=>(rest,p,(i:Int),())) rest (fun x => !decide (hd x<hd p)) (fun i=>.inl (rest,p,(i:Int),())) (.inl (rest,p,(rest.length:Int),())) (by omega)
  (fun i x hi hx=>by
   rw[LR,AO,AK,Adq hi]
   simp only[Ah hx,ASg (hne x (Ad9 hx)),ASg hp,AZv,Am]
   rw[AH (by omega)]
   by_cases h:hd x<hd p
   ·rw[Adq h];rfl
   ·rw[Adp h];rfl)
  (by rw[LR,AO,AK,Adp (by omega)])
 have e':AT LR many (rest,p,(0:Int),())=_:=e
 have hk:(if rest.any (fun x => !decide (hd x<hd p))then(.inl (rest,p,((rest.findIdx fun x => !decide (hd x<hd p):Nat):Int),()):(List (List Int)×List Int×Int×Unit)⊕Unit)else .inl (rest,p,(rest.length:Int),())) = .inl (rest,p,((rest.findIdx fun x => !decide (hd x<hd p):Nat):Int),()):=by
  split
  ·rfl
  ·rename_i h
   rw[List.findIdx_eq_length.2 fun x hx=>by
    refine Aeb fun hc=>h (Aez.2 ⟨x,hx,by simpa using hc⟩)]
 rw[e',hk]
 have hle:(rest.findIdx fun x => !decide (hd x<hd p))≤rest.length:=List.findIdx_le_length
 rw[X8]
 generalize (rest.findIdx fun x => !decide (hd x<hd p))=k at *
 simp only[N6 hle,GL hle]
 rw[BW (by simp only[AO,AeF,AeD];omega)]
 simp only[]
 rw[BW (by simp only[AO,Cw,Ad0,Ad1,AeF,AeD];omega)]
 simp only[]
 rw[BW (by simp only[AO,Cw,Ad0,Ad1,AeF,AeD,AeY];omega)]
 simp only[Cw,AeQ,Aed,AfO]
theorem Nd(l:List (List Int))(i:Nat)(hi:i<l.length)(hlen:l.length<1073741824):HE (l,(i:Int),())=some (l.eraseIdx i,()):=by
 rw[AEH,LA]
 rw[AH (by omega)]
 simp only[N6 (Afs hi),GL (show i+1≤l.length by omega)]
 rw[BW (by simp only[AO,AeF,AeD];omega)]
 simp only[]
 rw[BW (by simp only[AO,Cw,Ad0,AeF,AeD,AeY];omega)]
 simp only[Cw,AeQ,List.eraseIdx_eq_take_drop_succ]
end Go.Pev.Pl
end
section
namespace Go.Pev.Pl
open Tok
theorem AaZ(n:Int)(rings:List (List Int))(v:Int)(hD:Dom rings):tof ((n,(rings,())),v,())=some (if RF n rings∧In n v then plc rings v else -1,()):=by
 rw[AWx,ARl]
 simp only[WU,N2 n rings hD.1 hD.2,HU n rings v hD.1 (fun l hl=>(hD.2 l hl).1)]
 by_cases h1:In n v
 ·by_cases h2:RF n rings<;>simp[h1,h2]
 ·simp[h1]
end Go.Pev.Pl
end
section
namespace Go.Pev.Pl
open Go.RowKit Tok
end Go.Pev.Pl
end
section
namespace Go.Pev.Pl
open Tok
end Go.Pev.Pl
end
section
namespace Go.Pev.Pl
open Tok
theorem ALL{n:Int}{rings:List (List Int)}{u v:Int}(h:FR n rings)(iu:In n u)(iv:In n v)(hp:plc rings u=plc rings v):
  LH ((n,(rings,())),u,v,())=some (n,rings,5,())∧Sc ((n,(rings,())),u,v,())=some (n,rings,5,()):=by
 have hD:=h.dom
 have hRF:=Ka.2 h
 constructor
 ·rw[HY,Gz]
  simp only[HM n rings u v hD,hRF,iu,iv,AgU,AeL,Ak,HU n rings _ hD.1 (fun l hl=>(hD.2 l hl).1),hp,Ad2,Ady]
 ·rw[M5,JO]
  simp only[GN n rings hD.1 hD.2,hRF,JR,iu,iv,Ad2,Ady,Tt n rings _ hD.1 (fun l hl=>(hD.2 l hl).1),Ak,hp]
theorem AY5{n:Int}{rings:List (List Int)}{u v:Int}{i j:Nat}{A B:List Int}(h:FR n rings)(iu:In n u)(iv:In n v)(hi:rings[i]? = some A)(hj:rings[j]? = some B)(hu:u∈A)(hv:v∈B)(hij:i≠j):
  ∃ zs rest,LH ((n,(rings,())),u,v,())=some (n,zs,0,())∧Sc ((n,(rings,())),u,v,())=some (n,zs,0,())∧FR n zs∧rings.Perm (A::B::rest)∧zs.Perm (plain (A7 n A B u v)::rest)∧Dis n A B:=by
 have hD:=h.dom
 have hRF:=Ka.2 h
 have rA:=h.rg A (Ad9 hi)
 have rB:=h.rg B (Ad9 hj)
 have hil:=(AeI.1 hi).1
 have hjl:=(AeI.1 hj).1
 have pu:plc rings u=(i:Int):=h.YH hi iu.2.2.2 hu
 have pv:plc rings v=(j:Int):=h.YH hj iv.2.2.2 hv
 have hperm:rings.Perm (A::B::(rings.eraseIdx (max i j)).eraseIdx (min i j)):=by
  rcases Agd hij with g|g
  ·rw[AgB (by omega),Aew (by omega)]
   exact Ij g hi hj
  ·rw[AgI (by omega),AgV (by omega)]
   exact(Ij g hj hi).trans (List.Perm.swap _ _ _)
 have hdis:Dis n A B:=by
  have:=JZ hperm h.dis
  rw[Aec]at this
  exact this.1 B (by simp)
 obtain⟨l1,l2,l3,huv,ho⟩:=M4 rA.2.2.2 rB.2.2.2 hu hv iu iv hdis
 obtain⟨hRG,hrot⟩:=AAv l1
 have hall:A7 n A B u v=u::D2 n u v::(A5 B v++D2 n v u::(A5 A u).tail):=rfl
 have lA:(A5 A u).length≤1000:=by rw[← (CX hu).perm.length_eq];exact rA.1.1
 have lB:(A5 B v).length≤1000:=by rw[← (CX hv).perm.length_eq];exact rB.1.1
 have hsub:((rings.eraseIdx (max i j)).eraseIdx (min i j)).Sublist rings:=(AgS _ _).trans (AgS _ _)
 have hw1:HE (rings,((max i j:Nat):Int),())=some (rings.eraseIdx (max i j),()):=Nd _ _ (by omega) hD.1
 have hel:(rings.eraseIdx (max i j)).length=rings.length-1:=by rw[List.length_eraseIdx];rw[Ad6 (by omega)]
 have hw2:HE (rings.eraseIdx (max i j),((min i j:Nat):Int),())=some ((rings.eraseIdx (max i j)).eraseIdx (min i j),()):=Nd _ _ (by omega) (by have:=hD.1;omega)
 have hdrop:Ci (fun k=>decide ((k:Int)∈[(i:Int),(j:Int)])) 0 rings=(rings.eraseIdx (max i j)).eraseIdx (min i j):=by
  rcases Agd hij with g|g
  ·rw[AgB (by omega),Aew (by omega)]
   exact KO _ i j g rings 0 (by omega) fun k _=>Afc.2 (by simp only[Adx,Afm,AgT];omega)
  ·rw[AgI (by omega),AgV (by omega)]
   exact KO _ j i g rings 0 (by omega) fun k _=>Afc.2 (by simp only[Adx,Afm,AgT];omega)
 have hrl:((rings.eraseIdx (max i j)).eraseIdx (min i j)).length≤rings.length:=hsub.length_le
 generalize (rings.eraseIdx (max i j)).eraseIdx (min i j)=rest at *
 have hupr:rest.Pairwise (fun a b=>hd a<hd b):=h.up.sublist hsub
 have hner:∀ l∈rest,l≠[]:=fun l hl=>(h.rg l (hsub.subset hl)).2.1
 have hdd:=JZ hperm h.dis
 rw[Aec,Aec]at hdd
 have hheads:∀ x∈rest,hd x≠hd (plain (A7 n A B u v)):=by
  intro x hx e
  have g1:=NO hRG
  have g2:=(l3 _ g1.2.2.2).1 (hrot.perm.mem_iff.2 (So hRG.2.1))
  have g3:hd (plain (A7 n A B u v))∈x:=e▸So (hner x hx)
  rcases g2 with g|g
  ·exact hdd.1 x (by simp[hx]) _ g g1.2.2.2 g3
  ·exact hdd.2.1 x hx _ g g1.2.2.2 g3
 have hup:=AR1 hupr hheads
 have hpz:=ADD rest (plain (A7 n A B u v))
 refine⟨X8 rest (plain (A7 n A B u v)),rest,?_,?_,AS7 h hperm hRG (fun t ht=>by rw[← hrot.perm.mem_iff];exact l3 t ht) hpz hup,hperm,hpz,hdis⟩
 ·obtain⟨ys,y1,y2,y3⟩:=ACg n rings [(i:Int),(j:Int)] [A7 n A B u v] hD.1 (by simp) (by simp) (fun l hl=>(h.rg l hl).2.1) (by simp;exact hRG.2.1)
  have hys:ys=X8 rest (plain (A7 n A B u v)):=by
   refine To hup (y2.trans ?_) y3
   rw[hdrop]
   exact(AfP (l₁:=rest) (l₂:=[plain (A7 n A B u v)])).trans hpz.symm
  rw[hys]at y1
  rw[HY,Gz]
  have s1:CH (A5 A u) (0:Int) (1:Int)=some [u]:=by
   have:=RV (xs:=A5 A u) (l:=0) (h:=1) (by omega) (by rw[l2];simp)
   rw[l2]at this ⊢
   exact this
  have s2:CH (A5 A u) (1:Int) (AM (A5 A u))=some (A5 A u).tail:=by
   have:=GL (xs:=A5 A u) (l:=1) (by rw[l2];simp)
   rw[Afj]at this
   exact this
  have d1:Da 0 (AE (AM [u])) (A5 A u)=[u]:=by rw[l2];rfl
  have d2:Da 1 (AE (AM (A5 A u).tail)) (A5 A u)=(A5 A u).tail:=by
   rw[Da,AO,KP,Afj,AfR]
  have hcat:Im ([[u],[D2 n u v],A5 B v,[D2 n v u],(A5 A u).tail],())=some (A7 n A B u v,()):=by
   rw[MH _ (by simp) (by simp;omega)]
   simp[A7]
  have ne:((i:Int))≠(j:Int):=by omega
  simp only[HM n rings u v hD,hRF,iu,iv,AgU,AeL,Ak,HU n rings _ hD.1 (fun l hl=>(hD.2 l hl).1),pu,pv,ne,Ad2,Ad8,Ady,Ah hi,Ah hj,AC9,Ih,rA.1,rB.1,hu,hv,s1,s2,AIz,d1,d2,hcat,y1]
 ·rw[M5,JO]
  have s2:CH (A5 A u) (1:Int) (AM (A5 A u))=some (A5 A u).tail:=by
   have:=GL (xs:=A5 A u) (l:=1) (by rw[l2];simp)
   rw[Afj]at this
   exact this
  have d2:Da 1 (AE (AM (A5 A u).tail)) (A5 A u)=(A5 A u).tail:=by
   rw[Da,AO,KP,Afj,AfR]
  have ne:((i:Int))≠(j:Int):=by omega
  have f1:fits (AM [u,D2 n u v]+AM (A5 B v))=true:=BW (by simp only[AO,Ad1,AeF];omega)
  have f2:fits (AM (A8 [u,D2 n u v] (A5 B v))+AM [D2 n v u])=true:=BW (by simp only[AO,Cw,Ad0,Ad1,AeF];omega)
  have f3:fits (AM (A8 (A8 [u,D2 n u v] (A5 B v)) [D2 n v u])+AM (A5 A u).tail)=true:=BW (by simp only[AO,Cw,Ad0,Ad1,AeF,List.length_tail];omega)
  have hcat:A8 (A8 (A8 [u,D2 n u v] (A5 B v)) [D2 n v u]) (A5 A u).tail=A7 n A B u v:=by simp[Cw,A7]
  have hput:AR2 (rest,A7 n A B u v,())=some (X8 rest (plain (A7 n A B u v)),()):=AT5 rest _ (by have:=hD.1;omega) hner hRG.2.1
  simp only[GN n rings hD.1 hD.2,hRF,JR,iu,iv,Ad2,Ady,Tt n rings _ hD.1 (fun l hl=>(hD.2 l hl).1),pu,pv,Ak,ne,Ad8,Ah hi,Ah hj,Og A u (by have:=rA.1.1;omega),Og B v (by have:=rB.1.1;omega),Ih,rA.1,rB.1,hu,hv,AgU,AeL,AD1,f1,f2,s2,d2,f3,AZK,AZJ,hw1,hw2,hcat,hput]
theorem ACC{n:Int}{rings:List (List Int)}{u v:Int}(hD:Dom rings)(h:¬ (RF n rings∧In n u∧In n v)):
  ∃ e,e≠0∧(∃ b,e=b∧(b=1∨b=10))∧LH ((n,(rings,())),u,v,())=some (n,rings,e,())∧Sc ((n,(rings,())),u,v,())=some (n,rings,e,()):=by
 by_cases h1:RF n rings
 ·have h2:¬ (In n u∧In n v):=fun h2=>h ⟨h1,h2⟩
  refine⟨10,by omega,⟨10,rfl,.inr rfl⟩,?_,?_⟩
  ·rw[HY,Gz]
   simp only[HM n rings u v hD,h1,h2,AeL,Ad7,Ak]
   rfl
  ·rw[M5,JO]
   simp only[GN n rings hD.1 hD.2,h1,JR,Ad2,Ady]
   by_cases hu:In n u
   ·have hv:¬ In n v:=fun hv=>h2 ⟨hu,hv⟩
    simp[hu,hv]
   ·simp[hu]
 ·refine⟨1,by omega,⟨1,rfl,.inl rfl⟩,?_,?_⟩
  ·rw[HY,Gz]
   simp only[HM n rings u v hD,h1,Ad7,Ak]
   rfl
  ·rw[M5,JO]
   simp only[GN n rings hD.1 hD.2,h1,Ad8,AeM]
theorem ARN{n:Int}{rings:List (List Int)}(u v:Int)(hD:Dom rings):∃ zs e,LH ((n,(rings,())),u,v,())=some (n,zs,e,())∧Sc ((n,(rings,())),u,v,())=some (n,zs,e,())∧Dom zs:=by
 by_cases h:RF n rings∧In n u∧In n v
 ·obtain⟨h1,iu,iv⟩:=h
  have hF:=Ka.1 h1
  obtain⟨i,A,pu,hi,hu,_⟩:=LS (hF.cov u iu)
  obtain⟨j,B,pv,hj,hv,_⟩:=LS (hF.cov v iv)
  by_cases hij:i=j
  ·obtain⟨q1,q2⟩:=ALL hF iu iv (by rw[pu,pv,hij])
   exact⟨_,_,q1,q2,hD⟩
  ·obtain⟨zs,rest,q1,q2,q3,_⟩:=AY5 hF iu iv hi hj hu hv hij
   exact⟨_,_,q1,q2,q3.dom⟩
 ·obtain⟨e,_,_,q1,q2⟩:=ACC hD h
  exact⟨_,_,q1,q2,hD⟩
end Go.Pev.Pl
end
section
namespace Go.Pev.Pl
open Tok
def sel(l:List Edge)(bs:List Bool):List Edge:=((l.zip bs).filter fun p=>p.2).map fun p=>p.1
end Go.Pev.Pl
end
section
namespace Go.Pev.Pl
open Tok
instance (n v:Int):Decidable (In n v):=inferInstanceAs (Decidable (_∧_))
instance (n:Int):Decidable (Sz n):=inferInstanceAs (Decidable (_∧_))
end Go.Pev.Pl
end
section
namespace Go.Pev.Pl
instance (xs:List Int):Decidable (Rt xs):=inferInstanceAs (Decidable (_∧_∧_))
end Go.Pev.Pl
end
section
namespace Go.Pev.Pl
open Tok
noncomputable instance (n:Int) (xs:List Int):Decidable (TI n xs):=Classical.propDecidable _
end Go.Pev.Pl
end
section
namespace Go.Pev.Pl
open Tok
noncomputable instance (n:Int) (rings:List (List Int)):Decidable (RF n rings):=Classical.propDecidable _
noncomputable instance (n:Int) (xs:List Int):Decidable (RG n xs):=Classical.propDecidable _
end Go.Pev.Pl
end
section
namespace Go.Pev.Pl
open Tok
theorem AIy(n:Int)(rings:List (List Int))(l:List (Int×Int×Unit))(hD:Dom rings)(hs:l.length<9223372036854775808):AEp ((n,(rings,())),l,())=some (AH1 n rings (l.all fun e=>decide (In n e.1)&&decide (In n e.2.1)),()):=by
 rw[ANL,RU]
 simp only[GN n rings hD.1 hD.2,AH1]
 by_cases h:RF n rings
 ·simp only[h,Ad2,Ady,AeL]
  have e:=Gw (step:=HZ) (fun i=>(l,n,rings,(i:Int),())) l (fun e => !(decide (In n e.1)&&decide (In n e.2.1))) (fun _=>.inl ((10:Int),())) (.inr (.inl ())) hs
   (fun i x hi hx=>by
    rw[HZ,AO,AK,Adq hi]
    simp only[Ah hx,Am,Aq]
    rw[AH (by omega)]
    have q1:=ARY (v:=x.1) h.1
    have q2:=ARY (v:=x.2.1) h.1
    by_cases c1:x.1<0
    ·rw[Adq c1,Bool.true_or]at q1
     have:decide (In n x.1)=false:=by simpa using q1.symm
     simp[c1,this]
    ·by_cases c2:n≤x.1
     ·rw[Adq c2,Bool.or_true]at q1
      have:decide (In n x.1)=false:=by simpa using q1.symm
      simp[c1,c2,this]
     ·rw[Adp c1,Adp c2]at q1
      have g1:decide (In n x.1)=true:=by simpa using q1.symm
      by_cases c3:x.2.1<0
      ·rw[Adq c3,Bool.true_or]at q2
       have:decide (In n x.2.1)=false:=by simpa using q2.symm
       simp[c1,c2,c3,this]
      ·by_cases c4:n≤x.2.1
       ·rw[Adq c4,Bool.or_true]at q2
        have:decide (In n x.2.1)=false:=by simpa using q2.symm
        simp[c1,c2,c3,c4,this]
       ·rw[Adp c3,Adp c4]at q2
        have g2:decide (In n x.2.1)=true:=by simpa using q2.symm
        simp[c1,c2,c3,c4,g1,g2])
   (by rw[HZ,AO,AK,Adp (by omega)])
  have e':AT HZ many (l,n,rings,(0:Int),())=_:=e
  rw[e',List.any_eq_not_all_not]
  simp only[Bool.not_not]
  cases l.all fun e=>decide (In n e.1)&&decide (In n e.2.1)<;>rfl
 ·simp[h]
end Go.Pev.Pl
end
section
namespace Go.Pev.Pl
open Tok
end Go.Pev.Pl
end
section
namespace Go.Pev.Pl
open Tok
end Go.Pev.Pl
end
section
namespace Go.Pev.Pl
open Tok
end Go.Pev.Pl
end
section
namespace Go.Pev.Pl
open Tok
theorem AJY{N:Nat}(h1:1≤N)(hN:N≤64){ts:List Tie}(hs:ts.length≤400)(ho:oks N ts){out:List Int}(hc:K9 (N:Int) (trs ts ts.length) out):
  DC (((N:Int),(ts,())),())=some (decide ((cnt out N:Int)=(N:Int)-(trs ts ts.length).length),()):=by
 have R:=PR N hN ts hs
 rw[Ad6 ho]at R
 have hin:=AM8 hN ho
 have hlen:=AER ts ts.length
 obtain⟨o2,e2,c2⟩:=Ca (N:Int) (trs ts ts.length) ⟨by omega,by omega⟩ (by omega) hin
 have:=K9.unique h1 hN hc c2
 subst this
 have hol:out.length=N:=by have:=hc.len;omega
 rw[FT,Ee]
 simp only[Am,AO]
 rw[Adp (show ¬ (N:Int)<1 by omega),Adp (show ¬ 64<(N:Int) by omega),Adp (show ¬ 400<(ts.length:Int) by omega)]
 simp only[R,e2,Ng N hN _ _ out hol,Ak]
 rw[Af (by omega)]
end Go.Pev.Pl
end
section
namespace Go.Pev.Pl
open Tok
theorem Con.perm{l l':List Edge}(h:∀ e,e∈l↔e∈l'){a b:Int}:Con l a b↔Con l' a b:=
 ⟨fun c=>c.mono fun e he=>⟨e,(h e).1 he,.inl ⟨rfl,rfl⟩⟩,fun c=>c.mono fun e he=>⟨e,(h e).2 he,.inl ⟨rfl,rfl⟩⟩⟩
theorem K9.congr{n:Int}{l l':List Edge}{out:List Int}(h:∀ a b,Con l a b↔Con l' a b)(hc:K9 n l out):K9 n l' out:=
 ⟨hc.len,fun a b ia ib=>(hc.same a b ia ib).trans (h a b),hc.isin,fun a ia=>(h a _).1 (hc.con a ia),fun a b ia ib c=>hc.least a b ia ib ((h a b).2 c)⟩
end Go.Pev.Pl
end
section
namespace Go.Pev.Pl
open Tok
def ACt(x:Edge)(b:Bool):Tie:=(x.1,x.2.1,0,b,())
def WO(ts:List Tie)(xs:List Edge)(bs:List Bool)(k:Nat):List Tie:=(List.range k).foldl (fun a i=>X7 a (ACt (xs.getD i (0,0,())) (bs.getD i false))) ts
end Go.Pev.Pl
end
section
namespace Go.Pev.Pl
open Tok
def APQ(xs:List Edge)(bs:List Bool)(k:Nat):List Tie:=(List.range k).map fun i=>ACt (xs.getD i (0,0,())) (bs.getD i false)
theorem AD3(ts:List Tie)(xs:List Edge)(bs:List Bool)(k:Nat):WO ts xs bs (k+1)=X7 (WO ts xs bs k) (ACt (xs.getD k (0,0,())) (bs.getD k false)):=by
 unfold WO
 rw[AfA,List.foldl_append]
 rfl
theorem TP(ts:List Tie)(xs:List Edge)(bs:List Bool):∀ k,(WO ts xs bs k).Perm (ts++APQ xs bs k):=by
 intro k
 induction k with
 |zero=>simp[WO,APQ]
 |succ k ih=>
  rw[AD3]
  refine(ADC _ _).trans ?_
  unfold APQ at *
  rw[AfA,Ae9,← Aed]
  refine(List.Perm.cons _ ih).trans ?_
  exact(List.perm_append_singleton _ _).symm
end Go.Pev.Pl
end
section
namespace Go.Pev.Pl
open Tok
theorem AaH{N:Nat}{ts:List Tie}(h:oks N ts)(hv0:0≤HW N){xs:List Edge}(bs:List Bool)(hp:xs.Pairwise JA)(hx:∀ e∈xs,0≤e.1∧e.1<e.2.1∧e.2.1<(N:Int))(hn:∀ e∈xs,¬ e∈ts.map ed):oks N (WO ts xs bs xs.length):=by
 rw[J2]at h ⊢
 obtain⟨h1,h2⟩:=h
 have hget:∀ i (hi:i<xs.length),xs.getD i (0,0,())=xs[i]:=fun i hi=>by
  simp only[Ads,Adw hi,AeR]
 have hmem:∀ k,k≤xs.length→∀ t∈WO ts xs bs k,t∈ts∨∃ i,i<k∧t=ACt (xs.getD i (0,0,())) (bs.getD i false):=by
  intro k hk t ht
  rcases Adu.1 ((TP ts xs bs k).mem_iff.1 ht)with h|h
  ·exact .inl h
  ·unfold APQ at h
   obtain⟨i,hi,rfl⟩:=AeC.1 h
   exact .inr ⟨i,by simpa using hi,rfl⟩
 refine⟨fun t ht => ?_,?_⟩
 ·rcases hmem _ (Ad5 _) t ht with h|⟨i,hi,rfl⟩
  ·exact h1 t h
  ·rw[hget i hi]
   obtain⟨q1,q2,q3⟩:=hx xs[i] (Ae5 hi)
   exact⟨q1,q2,q3,by show(0:Int)≤0;omega,hv0⟩
 ·have key:∀ k,k≤xs.length→(WO ts xs bs k).Pairwise ahead:=by
   intro k
   induction k with
   |zero=>intro _;exact h2
   |succ k ih=>
    intro hk
    rw[AD3]
    refine AT4 (ih (by omega)) fun t ht => ?_
    rw[hget k (by omega)]
    rintro⟨e1,e2⟩
    rcases hmem k (by omega) t ht with h|⟨i,hi,rfl⟩
    ·refine hn xs[k] (Ae5 (by omega)) (AeC.2 ⟨t,h,?_⟩)
     unfold ed
     rw[e1,e2]
     rfl
    ·rw[hget i (by omega)]at e1 e2
     have:=(Aeq.1 hp) i k (by omega) (by omega) hi
     unfold JA at this
     simp only[ACt]at e1 e2
     omega
  exact key _ (Ad5 _)
end Go.Pev.Pl
end
section
namespace Go.Pev.Pl
open Tok
theorem AWk(ts:List Tie):∀ k,k≤ts.length→trs ts k=((ts.take k).filter fun t=>t.2.2.2.1).map ed:=by
 intro k
 induction k with
 |zero=>intro _;simp[trs]
 |succ k ih=>
  intro hk
  have hk':k<ts.length:=by omega
  rw[XE,ih (by omega),AfC hk',AfQ,Ae9]
  simp only[Ads,Adw hk',AeR]
  cases h:ts[k].2.2.2.1
  ·simp[h]
  ·simp[h]
theorem AES(ts:List Tie):trs ts ts.length=(ts.filter fun t=>t.2.2.2.1).map ed:=by
 rw[AWk ts _ (Ad5 _),AfR]
end Go.Pev.Pl
end
section
namespace Go.Pev.Pl
open Tok
theorem AYt{xs:List Edge}{bs:List Bool}(h:bs.length=xs.length):APQ xs bs xs.length=(xs.zip bs).map fun p=>ACt p.1 p.2:=by
 unfold APQ
 apply Agq
 ·simp[h]
 ·intro i h1 h2
  have hi:i<xs.length:=by simpa using h1
  simp[hi,show i<bs.length by omega]
theorem AaG(ts:List Tie){xs:List Edge}{bs:List Bool}(h:bs.length=xs.length):(trs (WO ts xs bs xs.length) (WO ts xs bs xs.length).length).Perm (trs ts ts.length++sel xs bs):=by
 rw[AES,AES]
 refine(((TP ts xs bs xs.length).filter _).map ed).trans ?_
 rw[AfQ,Ae9,AYt h,List.filter_map,List.map_map]
 exact List.Perm.refl _
theorem AaI(ts:List Tie)(xs:List Edge)(bs:List Bool):∀ k,(WO ts xs bs k).length=ts.length+k:=by
 intro k
 rw[(TP ts xs bs k).length_eq]
 simp[APQ]
end Go.Pev.Pl
end
end
section
section
namespace Go.Pev.Pl
open Tok
theorem AZ3{N:Nat}(hN:N≤64)(ts:List Tie)(l:List Edge):∀ e∈Jd N ts l,In (N:Int) e.1∧In (N:Int) e.2.1:=by
 intro e he
 obtain⟨⟨a,b,c,_⟩,_⟩:=(SD N ts l e).1 he
 exact⟨⟨by omega,by omega,a,by omega⟩,⟨by omega,by omega,by omega,c⟩⟩
end Go.Pev.Pl
end
section
namespace Go.Pev.Pl
open Tok
theorem ALX{N:Nat}(h1:1≤N)(hN:N≤64){a:Int}(h:0≤a∧a<(N:Int)):In (N:Int) a:=⟨by omega,by omega,h.1,h.2⟩
theorem AZI{N:Nat}{e:Edge}(h:In (N:Int) e.1∧In (N:Int) e.2.1):InE N e:=⟨⟨h.1.2.2.1,h.1.2.2.2⟩,⟨h.2.2.2.1,h.2.2.2.2⟩⟩
theorem AdM{N:Nat}(h1:1≤N)(hN:N≤64){l:List Edge}{out:List Int}(hc:K9 (N:Int) l out):cnt out N=cc N l:=by
 unfold cnt cc
 rw[List.countP_eq_length_filter]
 congr 1
 refine Agk fun k hk => ?_
 have hk:k<N:=by simpa using hk
 have ik:=ALX h1 hN (a:=(k:Int)) ⟨by omega,by omega⟩
 have hg:out.getD k 0=cl out (k:Int):=by unfold cl;rw[Aeo]
 rw[hg,Aex,AeS,Hn]
 constructor
 ·intro h j hj hcn
  have:=hc.least (k:Int) (j:Int) ik (ALX h1 hN ⟨by omega,by omega⟩) hcn.symm
  omega
 ·intro h
  have a1:=hc.isin _ ik
  have a2:=hc.con _ ik
  have a3:=hc.least (k:Int) (k:Int) ik ik (.refl _)
  obtain⟨m,hm⟩:=Adz a1.2.2.1
  rw[hm]at a2 a3 ⊢
  by_cases hlt:m<k
  ·exact absurd a2.symm (h m hlt)
  ·omega
theorem FC.congr{n:Int}{rings:List (List Int)}{l l':List Edge}(h:FC n rings l)(hm:∀ e∈l,e∈l')(hc:∀ e∈l',Con l e.1 e.2.1):FC n rings l':=
 ⟨h.fr,fun a b ia ib=>(h.sam a b ia ib).trans ⟨fun c=>c.sub hm,fun c=>c.cut hc⟩,fun A hA u v ho hu=>by
  obtain⟨e,he,q⟩:=h.arcs A hA u v ho hu
  exact⟨e,hm e he,q⟩⟩
theorem AJX{N:Nat}(h1:1≤N)(hN:N≤64){ts:List Tie}(hs:ts.length≤400)(ho:oks N ts):DC (((N:Int),(ts,())),())=some (true,())↔Fo N (trs ts ts.length):=by
 have hlen:=AER ts ts.length
 obtain⟨o,_,c⟩:=Ca (N:Int) (trs ts ts.length) ⟨by omega,by omega⟩ (by omega) (AM8 hN ho)
 rw[AJY h1 hN hs ho c,AdM h1 hN c]
 unfold Fo
 constructor
 ·intro h
  have:decide ((cc N (trs ts ts.length):Int)=(N:Int)-(trs ts ts.length).length)=true:=by injection h with h;injection h
  have:=Afh this
  omega
 ·intro h
  rw[Adq (by omega)]
end Go.Pev.Pl
end
section
namespace Go.Pev.Pl
open Tok
end Go.Pev.Pl
end
section
namespace Go.Pev.Pl.SE
open Go.Sort
def ok(_:Int×Int×Unit):Prop:=True
def okz:Int×Int×Unit:=(0,0,())
theorem ZC:ok okz:=trivial
def lt(x y:Int×Int×Unit):Bool:=decide (x.1<y.1∨(x.1=y.1∧x.2.1<y.2.1))
theorem swo:SWO lt:=⟨fun x=>by simp[lt],fun x y z h1 h2=>by simp only[lt,Adt]at *;omega,fun x y z h1 h2=>by simp only[lt,Aeg]at *;omega⟩
end Go.Pev.Pl.SE
end
section
namespace Go.Pev.Pl.ST
open Go.Sort
def ok(_:Int×Int×Int×Bool×Unit):Prop:=True
def okz:Int×Int×Int×Bool×Unit:=(0,0,0,false,())
theorem ZC:ok okz:=trivial
def lt(x y:Int×Int×Int×Bool×Unit):Bool:=decide (x.1<y.1∨(x.1=y.1∧x.2.1<y.2.1))
theorem swo:SWO lt:=⟨fun x=>by simp[lt],fun x y z h1 h2=>by simp only[lt,Adt]at *;omega,fun x y z h1 h2=>by simp only[lt,Aeg]at *;omega⟩
end Go.Pev.Pl.ST
end
section
namespace Go.Pev.Pl
open Tok
section
variable {α β:Type} [DecidableEq α]
end
end Go.Pev.Pl
end
section
namespace Go.Pev.Pl
open Tok
theorem Aam:∀ (xs b:List Edge),sel xs (gfl b xs)=K8 b xs:=by
 intro xs
 induction xs with
 |nil=>intro b;rfl
 |cons x xs ih=>
  intro b
  have:=ih (b++[x])
  unfold sel at *
  rw[gfl,K8,List.zip_cons_cons,AfD]
  by_cases h:Ds b x.1 x.2.1=true
  ·simp[h,this]
  ·simp[h,this]
theorem AcQ{N:Nat}{b xs:List Edge}(h:Fo N b)(hx:∀ e∈xs,InE N e):Fo N (b++K8 b xs):=by
 have h1:=NJ xs b hx
 have h2:cc N (b++xs)=cc N (b++K8 b xs):=AAe fun a c=>AAZ xs b
 unfold Fo at *
 rw[Ad0]
 omega
theorem Tk{N:Nat}(hN:N≤64):0≤HW N:=by
 have:((List.range 65).all fun k=>decide (0≤HW k))=true:=by kernel_rfl
 exact Afh (AeG.1 this N (by simp;omega))
noncomputable def grown(N:Nat)(ts:List Tie)(l:List Edge):List Tie:=WO ts (Jd N ts l) (gfl (trs ts ts.length) (Jd N ts l)) (Jd N ts l).length
theorem AVe(N:Nat)(ts:List Tie)(l:List Edge):(grown N ts l).length=ts.length+(Jd N ts l).length:=AaI ..
theorem AVc(N:Nat)(ts:List Tie)(l:List Edge):(trs (grown N ts l) (grown N ts l).length).Perm (trs ts ts.length++K8 (trs ts ts.length) (Jd N ts l)):=by
 have:=AaG ts (xs:=Jd N ts l) (bs:=gfl (trs ts ts.length) (Jd N ts l)) (Ab5 _ _)
 rw[Aam]at this
 exact this
theorem AVd{N:Nat}(hN:N≤64){ts:List Tie}(ho:oks N ts)(l:List Edge):oks N (grown N ts l):=
 AaH ho (Tk hN) _ (ARA N ts l) (fun e he=>by
  obtain⟨⟨a,b,c,_⟩,_⟩:=(SD N ts l e).1 he
  exact⟨a,b,c⟩) (fun e he=>((SD N ts l e).1 he).2)
theorem AV9{N:Nat}(hN:N≤64)(ts:List Tie)(l:List Edge):∀ e∈Jd N ts l,InE N e:=fun e he=>AZI (AZ3 hN ts l e he)
theorem AZY{N:Nat}(hN:N≤64){ts:List Tie}(h:Fo N (trs ts ts.length))(l:List Edge):Fo N (trs (grown N ts l) (grown N ts l).length):=
 (AcQ h (AV9 hN ts l)).perm (AVc N ts l).symm
structure RG2(N:Nat)(ts:List Tie):Prop where
 h1:1≤N
 hN:N≤64
 ht:ts.length≤400
 oks:oks N ts
 fo:Fo N (trs ts ts.length)
theorem RG2.r21{N:Nat}{ts:List Tie}(h:RG2 N ts):DC (((N:Int),(ts,())),())=some (true,()):=(AJX h.h1 h.hN h.ht h.oks).2 h.fo
theorem RG2.lr{N:Nat}{ts:List Tie}(h:RG2 N ts):Gl (((N:Int),(ts,())),())=some (true,()):=by
 obtain⟨b,h1,h2,_⟩:=AAp (N:Int) ts (by have:=h.ht;omega)
 rw[h.r21]at h1
 cases h1
 exact h2
theorem Rk(n:Int)(ts:List Tie)(hl:ts.length<4611686018427387904):(DC ((n,(ts,())),())=some (false,())∧Gl ((n,(ts,())),())=some (false,()))∨∃ N:Nat,n=(N:Int)∧RG2 N ts:=by
 obtain⟨b,h1,h2,h3⟩:=AAp n ts hl
 cases b
 ·exact .inl ⟨h1,h2⟩
 ·obtain⟨N,rfl,q1,q2,q3,q4⟩:=h3 rfl
  exact .inr ⟨N,rfl,q1,q2,q3,q4,(AJX q1 q2 q3 q4).1 h1⟩
theorem RG2.inE{N:Nat}{ts:List Tie}(h:RG2 N ts):∀ e∈ts.map ed,In (N:Int) e.1∧In (N:Int) e.2.1:=AdK h.hN h.oks
theorem RG2.grown{N:Nat}{ts:List Tie}(h:RG2 N ts){l:List Edge}(hf:ts.length+(Jd N ts l).length≤400):RG2 N (grown N ts l):=
 ⟨h.h1,h.hN,by rw[AVe];exact hf,AVd h.hN h.oks l,AZY h.hN h.fo l⟩
end Go.Pev.Pl
end
section
namespace Go.Pev.Pl
open Tok
def CA(u v:Int)(t:Tie):Bool:=decide (t.1=min u v∧t.2.1=max u v)
theorem AQh{N:Nat}{ts:List Tie}(h:RG2 N ts)(u v:Int):Sv (((N:Int),(ts,())),u,v,())=some (if ts.any (CA u v)then((ts.findIdx (CA u v):Nat):Int)else -1,()):=by
 have ht:=h.ht
 rw[ADn,QO]
 simp only[h.r21,Ady]
 have e:=Gw (step:=Fs) (fun i=>(u,v,(N:Int),ts,(i:Int),())) ts (CA u v) (fun i=>.inl ((i:Int),())) (.inr (.inl ())) (by omega)
  (fun i x hi hx=>by
   rw[Fs,AO,AK,Adq hi]
   simp only[Ah hx,M9,P9,Ak]
   rw[AH (by omega)]
   unfold CA
   by_cases h1:x.1=min u v
   ·by_cases h2:x.2.1=max u v
    ·rw[Adq h1,Adq h2,Adq (show x.1=min u v∧x.2.1=max u v from⟨h1,h2⟩)]
     rfl
    ·rw[Adq h1,Adp h2,Adp (fun h:x.1=min u v∧x.2.1=max u v=>h2 h.2)]
     rfl
   ·rw[Adp h1,Adp (fun h:x.1=min u v∧x.2.1=max u v=>h1 h.1)]
    rfl)
  (by rw[Fs,AO,AK,Adp (by omega)])
 have e':AT Fs many (u,v,(N:Int),ts,(0:Int),())=_:=e
 rw[e']
 by_cases ha:ts.any (CA u v)=true
 ·rw[Ad6 ha,Ad6 ha]
 ·rw[Ad3 ha,Ad3 ha]
theorem AZo{N:Nat}{ts:List Tie}(ho:oks N ts){t:Tie}(hm:t∈ts):ts.any (CA t.1 t.2.1)=true∧∃ k,ts.findIdx (CA t.1 t.2.1)=k∧k<ts.length∧ts[k]? = some t:=by
 obtain⟨hv,hp⟩:=(J2 N ts).1 ho
 obtain⟨_,hlt,_⟩:=hv t hm
 have hself:CA t.1 t.2.1 t=true:=by
  unfold CA
  rw[Int.min_eq_left (by omega),Int.max_eq_right (by omega)]
  simp
 refine⟨Aez.2 ⟨t,hm,hself⟩,_,rfl,Ae8.2 ⟨t,hm,hself⟩,?_⟩
 have hk:ts.findIdx (CA t.1 t.2.1)<ts.length:=Ae8.2 ⟨t,hm,hself⟩
 have hg:=Af8 (xs:=ts) (p:=CA t.1 t.2.1) (w:=hk)
 rw[Adw hk]
 obtain⟨j,hj,rfl⟩:=Aer hm
 generalize ts.findIdx (CA ts[j].1 ts[j].2.1)=k at hk hg
 unfold CA at hg
 rw[Int.min_eq_left (by omega),Int.max_eq_right (by omega),AeS]at hg
 rw[Aeq]at hp
 unfold ahead at hp
 rcases Af3 j k with h|h|h
 ·have:=hp j k hj hk h;omega
 ·subst h;rfl
 ·have:=hp k j hk hj h;omega
end Go.Pev.Pl
end
end
section
namespace Go.Pev.Pl
open Tok
theorem AWm(ts:List Tie)(t:Tie)(k:Int):trk (ts++[t]) k=trk ts k++if t.2.2.2.1=true∧k≤t.2.2.1 then [ed t]else []:=by
 rw[Be]
 congr 1
 unfold trk
 rw[AfD]
 by_cases h:t.2.2.2.1=true∧k≤t.2.2.1
 ·rw[Ad6 h,h.1,Adq h.2];rfl
 ·rw[Ad3 h,Ad3]
  ·rfl
  ·rw[Adv,Adt];exact h
theorem AIl(k:Int):∀ (ts a:List Tie) (acc:List Edge),acc=trk a k→ts.foldl (fun acc t=>if t.2.2.2.1=true∧k≤t.2.2.1 then acc++[ed t]else acc) acc=trk (a++ts) k:=by
 intro ts
 induction ts with
 |nil=>intro a acc h;simpa using h
 |cons t ts ih=>
  intro a acc h
  rw[Aep,ih (a++[t])]
  ·simp
  ·rw[AWm,← h]
   split<;>simp
theorem ARk(ts:List Tie)(k:Int):(trk ts k).length≤ts.length:=by
 unfold trk
 rw[Aek]
 exact Af1 _ _
theorem AET(ts:List Tie)(k:Int):∀ e∈trk ts k,e∈ts.map ed:=by
 intro e he
 obtain⟨t,h1,_,_,rfl⟩:=Cu.1 he
 exact AeC.2 ⟨t,h1,rfl⟩
theorem ALF(n:Int)(ts:List Tie)(hs:ts.length≤400)(k:Int):OQ ((n,(ts,())),k,())=some (trk ts k,()):=by
 rw[SW,Ls]
 have e:=DH (step:=Cf) (fun i (a:List Edge)=>(k,a,ts,AM ts,(i:Int),())) ts (fun t a=>.inl (if t.2.2.2.1=true∧k≤t.2.2.1 then a++[ed t]else a)) (fun a=>.inl (a,())) (fun i a=>a.length≤i) (by omega)
  (fun i x a hi hx ha=>by
   refine⟨fun m' h' => ?_,fun r h'=>(by cases h')⟩
   cases h'
   constructor
   ·rw[Cf,AO,AK,Adq hi]
    simp only[Ah hx,AO]
    rw[AH (by omega),Aq,BW (by simp only[Ad1,AeF];omega)]
    cases h4:x.2.2.2.1
    ·simp
    ·by_cases h5:k≤x.2.2.1
     ·simp[h5,ed,A8]
     ·simp[h5]
   ·split
    ·rw[Ad0];simp;omega
    ·omega)
  (fun a _=>by rw[Cf,AO,AK,Adp (by omega)]) [] (Ad5 _)
 have e':AT Cf many (k,[],ts,AM ts,(0:Int),())=_:=e
 simp only[e']
 rw[BZ (fun(t:Tie) (a:List Edge)=>if t.2.2.2.1=true∧k≤t.2.2.1 then a++[ed t]else a),AIl k ts [] [] rfl]
 rfl
theorem Mc(n:Int)(ts:List Tie)(hs:ts.length≤400)(k:Int):IP ((n,(ts,())),k,())=some (trk ts k,()):=by
 rw[XM,Md]
 have e:=DH (step:=EF) (fun i (a:List Edge)=>(k,n,ts,a,(i:Int),())) ts (fun t a=>.inl (if t.2.2.2.1=true∧k≤t.2.2.1 then a++[ed t]else a)) (fun a=>.inl (a,())) (fun i a=>a.length≤i) (by omega)
  (fun i x a hi hx ha=>by
   refine⟨fun m' h' => ?_,fun r h'=>(by cases h')⟩
   cases h'
   constructor
   ·rw[EF,AO,AK,Adq hi]
    simp only[Ah hx,AO]
    rw[AH (by omega),Aq,BW (by simp only[Ad1,AeF];omega)]
    cases h4:x.2.2.2.1
    ·simp
    ·by_cases h5:k≤x.2.2.1
     ·simp[h5,ed,A8]
     ·simp[h5]
   ·split
    ·rw[Ad0];simp;omega
    ·omega)
  (fun a _=>by rw[EF,AO,AK,Adp (by omega)]) [] (Ad5 _)
 have e':AT EF many (k,n,ts,[],(0:Int),())=_:=e
 simp only[e']
 rw[BZ (fun(t:Tie) (a:List Edge)=>if t.2.2.2.1=true∧k≤t.2.2.1 then a++[ed t]else a),AIl k ts [] [] rfl]
 rfl
theorem AIj{N:Nat}{ts:List Tie}(h:oks N ts):trs ts ts.length=trk ts 0:=by
 rw[AES]
 unfold trk
 congr 1
 refine Agk fun t ht => ?_
 have:=((J2 N ts).1 h).1 t ht
 rw[Adq this.2.2.2.1,AgG]
theorem RG2.fo0{N:Nat}{ts:List Tie}(h:RG2 N ts):Fo N (trk ts 0):=by rw[← AIj h.oks];exact h.fo
theorem RG2.inK{N:Nat}{ts:List Tie}(h:RG2 N ts)(k:Int):∀ e∈trk ts k,In (N:Int) e.1∧In (N:Int) e.2.1:=fun e he=>h.inE e (AET ts k e he)
theorem RG2.AdC{N:Nat}{ts:List Tie}(h:RG2 N ts)(k:Int):(trk ts k).length≤400:=Ae3 (ARk ts k) h.ht
theorem RG2.AdH{N:Nat}{ts:List Tie}(h:RG2 N ts)(k:Int):∃ zs,M6 (((N:Int),(ts,())),k,())=some (((N:Int),(zs,())),0,())∧FC (N:Int) zs (trk ts k):=by
 have hl:=h.AdC k
 have h1:=h.h1
 have hN:=h.hN
 rcases(ASo (N:Int) (trk ts k) ⟨by omega,by omega⟩ (by omega)).symm with⟨hno,_⟩|⟨_,zs,e,hF⟩
 ·exact absurd (h.inK k) hno
 refine⟨zs,?_,hF⟩
 rw[OR,JP]
 simp only[h.lr,Ady,ALF (N:Int) ts h.ht k,e]
theorem RG2.ASv{N:Nat}{ts:List Tie}(h:RG2 N ts)(k:Int):∃ out,Cj ((N:Int),trk ts k,())=some (out,())∧K9 (N:Int) (trk ts k) out:=by
 have:=h.AdC k
 have h1:=h.h1
 have hN:=h.hN
 exact Ca (N:Int) (trk ts k) ⟨by omega,by omega⟩ (by omega) (h.inK k)
end Go.Pev.Pl
end
section
namespace Go.Pev.Pl
open Tok
noncomputable def IS(p:Prop):Bool:=@decide p (Classical.propDecidable _)
theorem C8(p:Prop):IS p=true↔p:=by
 unfold IS
 exact @decide_eq_true_iff _ (Classical.propDecidable _)
theorem PY{p:Prop}{b:Bool}(h:b=true↔p):b=IS p:=by rw[Aex,C8];exact h
def VD(ts:List Tie):Prop:=∀ e∈ts.map ed,Con (trk ts 0) e.1 e.2.1
def AH9(ts:List Tie):Prop:=∀ t∈ts,t.2.2.2.1=false→Con (trk ts t.2.2.1) t.1 t.2.1
def Ql(N:Nat)(ts:List Tie):Prop:=∀ k:Nat,(k:Int)≤HW N→∀ v:Nat,v<N→csz N (trk ts k) v≤max 1 (N/2 ^ k)
theorem AWG{N:Nat}(h1:1≤N)(hN:N≤64){l l':List Edge}{o o':List Int}(hc:K9 (N:Int) l o)(hc':K9 (N:Int) l' o')(hl:∀ e∈l,In (N:Int) e.1∧In (N:Int) e.2.1)(hl':∀ e∈l',In (N:Int) e.1∧In (N:Int) e.2.1):
  o=o'↔(∀ e∈l,Con l' e.1 e.2.1)∧(∀ e∈l',Con l e.1 e.2.1):=by
 constructor
 ·rintro rfl
  refine⟨fun e he => ?_,fun e he => ?_⟩
  ·obtain⟨i1,i2⟩:=hl e he
   exact(hc'.same _ _ i1 i2).1 ((hc.same _ _ i1 i2).2 (.edge e he))
  ·obtain⟨i1,i2⟩:=hl' e he
   exact(hc.same _ _ i1 i2).1 ((hc'.same _ _ i1 i2).2 (.edge e he))
 ·rintro⟨q1,q2⟩
  exact K9.unique h1 hN hc (K9.congr (fun a b=>⟨fun c=>c.cut q2,fun c=>c.cut q1⟩) hc')
noncomputable def APM(ts:List Tie)(t:Tie):Bool := !t.2.2.2.1 && !Ds (trk ts t.2.2.1) t.1 t.2.1
theorem AbL(ts:List Tie):(!ts.any (APM ts))=IS (AH9 ts):=by
 refine PY ?_
 rw[Ae0,Afu]
 unfold APM AH9
 constructor
 ·intro h t ht hf
  have:=h t ht
  rw[hf]at this
  rw[← BN]
  simpa using this
 ·intro h t ht
  cases hf:t.2.2.2.1
  ·have:=h t ht hf
   rw[← BN]at this
   simp[this]
  ·simp
theorem RG2.tie{N:Nat}{ts:List Tie}(h:RG2 N ts){t:Tie}(ht:t∈ts):In (N:Int) t.1∧In (N:Int) t.2.1∧t.1<t.2.1∧0≤t.2.2.1∧t.2.2.1≤HW N:=by
 have h1:=((J2 N ts).1 h.oks).1 t ht
 have h2:=h.inE (ed t) (AeC.2 ⟨t,ht,rfl⟩)
 exact⟨h2.1,h2.2,h1.2.1,h1.2.2.2.1,h1.2.2.2.2⟩
end Go.Pev.Pl
end
section
namespace Go.Pev.Pl
open Tok
noncomputable def AHx(N:Nat)(ts:List Tie)(k:Nat):Bool:=(List.range N).any fun v=>decide (max 1 (N/2 ^ k)<csz N (trk ts k) (v:Int))
def Bq(N:Nat):Nat:=(HW N).toNat
theorem Es{N:Nat}(hN:N≤64):HW N=(Bq N:Int):=by
 have:=Tk hN
 unfold Bq
 omega
theorem AEb{N:Nat}(hN:N≤64):Bq N<64:=by
 have:((List.range 65).all fun k=>decide (HW k<64))=true:=by kernel_rfl
 have h1:=Afh (AeG.1 this N (by simp;omega))
 have:=Es hN
 omega
theorem AaD{N:Nat}(hN:N≤64)(ts:List Tie):(!(List.range (Bq N+1)).any (AHx N ts))=IS (Ql N ts):=by
 refine PY ?_
 rw[Ae0,Afu]
 unfold AHx Ql
 constructor
 ·intro h k hk v hv
  have h1:=h k (by rw[Aen];have:=Es hN;omega)
  rw[AgC,Afu]at h1
  have:=h1 v (by simpa using hv)
  rw[AeS]at this
  omega
 ·intro h k hk
  rw[Aen]at hk
  rw[AgC,Afu]
  intro v hv
  have:=h k (by rw[Es hN];omega) v (by simpa using hv)
  rw[AeS]
  omega
theorem ND(N:Nat)(l:List Edge)(v:Int):csz N l v≤N:=by
 unfold csz
 have:=List.countP_le_length (p:=fun(w:Nat)=>Ds l v (w:Int)) (l:=List.range N)
 rw[AeV]at this
 exact this
theorem AWZ(n:Nat)(h:n<18446744073709551616):IntKind.wrap .u64 (n:Int)=(n:Int):=IntWalk.u64_in _ (by omega)
theorem RG2.snd{N:Nat}{ts:List Tie}(h:RG2 N ts)(hs:VD ts∧AH9 ts∧Ql N ts):Snd N (Bq N:Int) ts:=by
 refine⟨fun x hx => ?_,fun x hx=>AZI (h.inE _ (AeC.2 ⟨x,hx,rfl⟩)),h.fo0,hs.2.1,fun k hk v hv=>hs.2.2 k (by rw[Es h.hN];exact hk) v hv⟩
 rw[← Es h.hN]
 exact(h.tie hx).2.2.2
theorem Snd.parts{N:Nat}{ts:List Tie}(h:RG2 N ts)(hs:Snd N (Bq N:Int) ts):VD ts∧AH9 ts∧Ql N ts:=by
 refine⟨fun e he=>(hs.span _ _).1 (.edge e he),hs.lie,fun k hk v hv=>hs.halv k (by rw[← Es h.hN];exact hk) v hv⟩
end Go.Pev.Pl
end
section
namespace Go.Pev.Pl
open Tok
theorem AaX{N:Nat}(hN:N≤64):N/2 ^ Bq N≤1:=by
 have:((List.range 65).all fun k=>decide (k/2 ^ Bq k≤1))=true:=by kernel_rfl
 exact Afh (AeG.1 this N (by simp;omega))
theorem RG2.below{N:Nat}{ts:List Tie}(h:RG2 N ts)(hs:Snd N (Bq N:Int) ts){t:Tie}(ht:t∈ts):t.2.2.1<(Bq N:Int):=
 hs.below (AaX h.hN) ht (by have:=(h.tie ht).2.2.1;omega)
end Go.Pev.Pl
end
section
namespace Go.Pev.Pl
open Tok
noncomputable def EO(N:Nat)(l:List Edge)(v:Int):List Int:=((List.range N).filter fun(w:Nat)=>Ds l v (w:Int)).map fun(w:Nat)=>(w:Int)
theorem Hl(N:Nat)(l:List Edge)(v:Int):(EO N l v).length=csz N l v:=by
 unfold EO csz
 rw[Aek,List.countP_eq_length_filter]
theorem ZG{N:Nat}{l:List Edge}{v x:Int}:x∈EO N l v↔(0≤x∧x<(N:Int))∧Con l v x:=by
 unfold EO
 simp only[AeC,Aei,Aen,BN]
 constructor
 ·rintro⟨w,⟨h1,h2⟩,rfl⟩
  exact⟨by omega,h2⟩
 ·rintro⟨⟨h1,h2⟩,h3⟩
  obtain⟨w,rfl⟩:=Adz h1
  exact⟨w,⟨by omega,h3⟩,rfl⟩
theorem D3{N:Nat}(h1:1≤N)(hN:N≤64)(ts:List Tie)(ht:ts.length≤400)(hin:∀ e∈ts.map ed,In (N:Int) e.1∧In (N:Int) e.2.1)(v:Nat)(hv:v<N)(k:Int):Fc (((N:Int),(ts,())),(v:Int),k,())=some (EO N (trk ts k) (v:Int),()):=by
 obtain⟨o,e1,c1⟩:=Ca (N:Int) (trk ts k) ⟨by omega,by omega⟩ (by have:=ARk ts k;omega) (fun e he=>hin e (AET ts k e he))
 have ho:o.length=N:=by have:=c1.len;omega
 have hi:∀ k:Nat,k<N→In (N:Int) (k:Int):=fun k hk=>ALX h1 hN ⟨by omega,by omega⟩
 have hg:∀ k:Nat,o.getD k 0=cl o (k:Int):=fun k=>by unfold cl;rw[Aeo]
 rw[Pu,IW]
 simp only[Mc (N:Int) ts ht,e1]
 have e:=DH (step:=Ct) (fun i (a:List Int)=>((v:Int),(N:Int),ts,o,a,(i:Int),())) (List.range N) (fun(w:Nat) a=>.inl (if Ds (trk ts k) (v:Int) (w:Int)=true then a++[(w:Int)]else a)) (fun a=>.inl (a,())) (fun i a=>a.length≤i) (by simp;omega)
  (fun i x a hx0 hx ha=>by
   refine⟨fun m' h' => ?_,fun r h'=>(by cases h')⟩
   cases h'
   have:=DR hx
   subst this
   rw[AeV]at hx0
   constructor
   ·rw[Ct,AK,Adq hx0]
    simp only[Ch 0 (show x<o.length by omega),Ch 0 (show v<o.length by omega),Fv,Ak]
    rw[BW (by simp only[AO,Ad1,AeF];omega),AH (by omega)]
    have:decide (o.getD x 0=o.getD v 0)=Ds (trk ts k) (v:Int) (x:Int):=by
     rw[Aex,AeS,BN,hg,hg,c1.same _ _ (hi x hx0) (hi v hv)]
     exact⟨fun c=>c.symm,fun c=>c.symm⟩
    rw[this]
    cases Ds (trk ts k) (v:Int) (x:Int)<;>simp[A8]
   ·split
    ·rw[Ad0];simp;omega
    ·omega)
  (fun a _=>by rw[Ct,AeV,AK,Adp (by omega)]) [] (Ad5 _)
 have e':AT Ct many ((v:Int),(N:Int),ts,o,[],(0:Int),())=_:=e
 simp only[e']
 rw[BZ (fun(w:Nat) (a:List Int)=>if Ds (trk ts k) (v:Int) (w:Int)=true then a++[(w:Int)]else a),QN (fun w:Nat=>Ds (trk ts k) (v:Int) (w:Int)=true) (fun w:Nat=>(w:Int))]
 unfold EO
 simp
theorem ADi(l:List Int)(x:Int)(hs:l.length<1073741824):AZX (l,x,())=some (decide (x∈l),()):=by
 rw[AZW,AG5]
 have e:=Gw (step:=L4) (fun i=>(l,x,(i:Int),())) l (fun y=>decide (y=x)) (fun _=>.inl (true,())) (.inr (.inl ())) (by omega)
  (fun i y hi hy=>by
   rw[L4,AO,AK,Adq hi]
   simp only[Ah hy,Ak]
   rw[AH (by omega)]
   by_cases h:y=x<;>simp[h])
  (by rw[L4,AO,AK,Adp (by omega)])
 have e':AT L4 many (l,x,(0:Int),())=_:=e
 simp only[e']
 rw[AH4]
 by_cases h:x∈l
 ·simp[h]
 ·simp[h]
theorem ALY(n:Int)(ts:List Tie)(v:Int):Abp ((n,(ts,())),v,())=some (decide (0≤v∧v<n),()):=by
 rw[Abo,AQN,Aq]
 by_cases h:0≤v
 ·rw[Adq h,Am]
  by_cases h2:v<n
  ·rw[Adq h2,Adq (show 0≤v∧v<n from⟨h,h2⟩)]
  ·rw[Adp h2,Adp (fun q:0≤v∧v<n=>h2 q.2)]
 ·rw[Adp h,Adp (fun q:0≤v∧v<n=>h q.1)]
noncomputable def BD(N:Nat)(ts:List Tie)(u v k:Int):List Int:=
 if IS (RG2 N ts)=true then
  if Ds (trk ts k) u v=true then []else
  if csz N (trk ts k) u<csz N (trk ts k) v∨(csz N (trk ts k) u=csz N (trk ts k) v∧(EO N (trk ts k) u).headD 0<(EO N (trk ts k) v).headD 0)then EO N (trk ts k) u else EO N (trk ts k) v
 else []
theorem ATk(N:Nat)(ts:List Tie)(u v k:Int):(BD N ts u v k).length≤N:=by
 unfold BD
 have h1:=ND N (trk ts k) u
 have h2:=ND N (trk ts k) v
 split
 ·split
  ·simp
  ·split
   ·rw[Hl];exact h1
   ·rw[Hl];exact h2
 ·simp
theorem Mv{N:Nat}{l:List Edge}{v:Nat}(hv:v<N):idx (EO N l (v:Int)) (0:Int)=some ((EO N l (v:Int)).headD 0):=by
 have:(v:Int)∈EO N l (v:Int):=ZG.2 ⟨⟨by omega,by omega⟩,.refl _⟩
 cases hm:EO N l (v:Int)with
 |nil=>rw[hm]at this;cases this
 |cons a b=>rw[E3];rfl
theorem ANj{N:Nat}(hN:N≤64)(ts:List Tie)(ht:ts.length≤400)(u v:Nat)(hu:u<N)(hv:v<N)(k:Int):∃ e,ANk (((N:Int),(ts,())),(u:Int),(v:Int),k,())=some (BD N ts u v k,e,()):=by
 rw[Ra,LL]
 rcases Rk (N:Int) ts (by omega)with⟨r,_⟩|⟨N',hn,h⟩
 ·have:IS (RG2 N ts)=false:=by
   rw[← AgC,C8]
   intro h
   rw[h.r21]at r;cases r
  refine⟨1,?_⟩
  unfold BD
  rw[this]
  simp only[r,AeM]
  rfl
 ·have:N'=N:=by omega
  subst this
  have hu1:=D3 h.h1 h.hN ts ht h.inE u hu k
  have hv1:=D3 h.h1 h.hN ts ht h.inE v hv k
  have l1:=Hl N' (trk ts k) (u:Int)
  have l2:=Hl N' (trk ts k) (v:Int)
  have b1:=ND N' (trk ts k) (u:Int)
  have hh:=ADi (EO N' (trk ts k) (u:Int)) (v:Int) (by omega)
  have hd:decide ((v:Int)∈EO N' (trk ts k) (u:Int))=Ds (trk ts k) (u:Int) (v:Int):=by
   rw[Aex,AeS,BN,ZG]
   exact⟨fun q=>q.2,fun q=>⟨⟨by omega,by omega⟩,q⟩⟩
  rw[hd]at hh
  unfold BD
  rw[(C8 _).2 h,Ad6 rfl]
  simp only[h.r21,Ady,ALY,hu1,hv1,hh]
  rw[Adq (show 0≤(u:Int)∧(u:Int)<(N':Int) by omega),Adq (show 0≤(v:Int)∧(v:Int)<(N':Int) by omega)]
  simp only[Ady]
  cases hc:Ds (trk ts k) (u:Int) (v:Int)
  ·simp only[Ad4,Ad7,AO,l1,l2,AK,QA]
   by_cases q1:csz N' (trk ts k) (u:Int)<csz N' (trk ts k) (v:Int)
   ·rw[Adq q1,Ad6 (.inl q1)]
    exact⟨0,rfl⟩
   ·rw[Adp q1]
    by_cases q2:csz N' (trk ts k) (u:Int)=csz N' (trk ts k) (v:Int)
    ·rw[Adq q2]
     have hg:∀ l:List Int,AN l 0 0=l.headD 0:=fun l=>by cases l<;>rfl
     simp only[Mv hu,Mv hv,hg,Am]
     by_cases q3:(EO N' (trk ts k) (u:Int)).headD 0<(EO N' (trk ts k) (v:Int)).headD 0
     ·rw[Adq q3,Ad6 (.inr ⟨q2,q3⟩)]
      exact⟨0,rfl⟩
     ·rw[Adp q3,Ad3 (fun q=>by rcases q with q|q;exact q1 q;exact q3 q.2)]
      exact⟨0,rfl⟩
    ·rw[Adp q2,Ad3 (fun q=>by rcases q with q|q;exact q1 q;exact q2 q.1)]
     exact⟨0,rfl⟩
  ·simp only[AeL]
   exact⟨5,rfl⟩
end Go.Pev.Pl
end
section
namespace Go.Pev.Pl
open Tok
theorem AEM{α:Type}{A R:List α}{x:α}{i:Nat}(h:A.length=i):(A++x::R)[i]? = some x:=by
 rw[Aee (by omega),h,Afp];rfl
theorem AEL{α:Type}{A R:List α}{x y:α}{i:Nat}(h:A.length=i):An (A++x::R) (AE (i:Int)) y=A++y::R:=by
 rw[AHS,List.set_append_right _ _ (by omega),h,Afp];rfl
noncomputable def Ao(s:List Int)(w:Int):Bool:=decide (w∈s)
def IE(S:Int→Bool)(i:Int)(ts:List Tie):Nat:=ts.countP fun t=>t.2.2.2.1&&(decide (t.2.2.1=i)&&both S t)
end Go.Pev.Pl
end
section
namespace Go.Pev.Pl
open Tok
noncomputable def Iz(N u v:Nat)(top:Int):Nat→List Tie→Nat→List Tie×Option Edge×Nat
 |0,O,r=>(O,none,r)
 |i+1,O,r=>match(A3 (Ao (BD N O u v i)) top i (O.map (rT (Ao (BD N O u v i)) top i))).2.2 with
  |some e=>((A3 (Ao (BD N O u v i)) top i (O.map (rT (Ao (BD N O u v i)) top i))).1,some e,r+IE (Ao (BD N O u v i)) i O+(A3 (Ao (BD N O u v i)) top i (O.map (rT (Ao (BD N O u v i)) top i))).2.1)
  |none=>Iz N u v top i (A3 (Ao (BD N O u v i)) top i (O.map (rT (Ao (BD N O u v i)) top i))).1 (r+IE (Ao (BD N O u v i)) i O+(A3 (Ao (BD N O u v i)) top i (O.map (rT (Ao (BD N O u v i)) top i))).2.1)
theorem ADI(S:Int→Bool)(top i:Int):∀ ts:List Tie,(A3 S top i ts).1.length=ts.length∧(A3 S top i ts).2.1≤ts.length:=by
 intro ts
 induction ts with
 |nil=>exact⟨rfl,Ad5 _⟩
 |cons t ts ih=>
  rw[A3]
  split
  ·exact⟨by simp[ih.1],by have:=ih.2;simp;omega⟩
  ·split
   ·exact⟨by simp[ih.1],by have:=ih.2;simp;omega⟩
   ·split
    ·exact⟨by simp,by simp⟩
    ·exact⟨by simp[ih.1],by have:=ih.2;simp;omega⟩
theorem AYH(S:Int→Bool)(top i:Int):∀ ts:List Tie,(A3 S top i ts).1.map ed=ts.map ed:=by
 intro ts
 induction ts with
 |nil=>rfl
 |cons t ts ih=>
  rw[A3]
  split
  ·rw[AeB,AeB,ih]
  ·split
   ·rw[AeB,AeB,ih];rfl
   ·split
    ·rw[AeB,AeB];rfl
    ·rw[AeB,AeB,ih]
theorem ASu(S:Int→Bool)(i:Int)(ts:List Tie):IE S i ts≤ts.length:=List.countP_le_length
def AcR(tree:Bool)(f:Option Edge)(r:Nat):Bool×Bool×Edge×Int×Unit:=(tree,f.isSome,((f.getD (0,0,())).1,((f.getD (0,0,())).2.1,())),(r:Int),())
def Tj:Bool×Bool×Edge×Int×Unit:=(false,(false,(((0:Int),((0:Int),())),((0:Int),()))))
noncomputable def DW(N:Nat)(ts:List Tie)(p:Nat)(t:Tie):List Tie×Option Edge×Nat:=
 if t.2.2.2.1=true then Iz N t.1.toNat t.2.1.toNat (Bq N:Int) (t.2.2.1.toNat+1) (ts.take p++ts.drop (p+1)) 0 else(ts.take p++ts.drop (p+1),none,0)
end Go.Pev.Pl
end
section
namespace Go.Pev.Pl
open Tok
theorem AXU{N:Nat}(h1:1≤N)(hN:N≤64){O:List Tie}(ht:O.length≤400)(hE:(O.map ed).Pairwise JA)(hlt:∀ e∈O.map ed,e.1<e.2.1)(hin:∀ x∈O,InE N (ed x))(hl:∀ x∈O,0≤x.2.2.1∧x.2.2.1≤(Bq N:Int))(hfo:Fo N (trk O 0)):RG2 N O:=by
 have ho:oks N O:=by
  rw[J2]
  refine⟨fun t ht => ?_,?_⟩
  ·have a:=hlt (ed t) (AeC.2 ⟨t,ht,rfl⟩)
   obtain⟨⟨b1,b2⟩,c1,c2⟩:=hin t ht
   have d:=hl t ht
   rw[← Es hN]at d
   exact⟨b1,a,c2,d.1,d.2⟩
  ·rw[AfF]at hE
   exact hE
 exact⟨h1,hN,ht,ho,by rw[AIj ho];exact hfo⟩
theorem RG2.edP{N:Nat}{ts:List Tie}(h:RG2 N ts):(ts.map ed).Pairwise JA:=by
 rw[AfF]
 exact((J2 N ts).1 h.oks).2
theorem RG2.Adk{N:Nat}{ts:List Tie}(h:RG2 N ts):∀ e∈ts.map ed,e.1<e.2.1:=by
 intro e he
 obtain⟨t,ht,rfl⟩:=AeC.1 he
 exact(h.tie ht).2.2.1
theorem AE7{N:Nat}{O:List Tie}(h:RG2 N O){u v i:Nat}(hu:u<N)(hv:v<N)(hn:¬ Con (trk O i) (u:Int) (v:Int)):∃ c,MS N ((u:Int),((v:Int),())) i O (Ao (BD N O u v i)) c:=by
 unfold BD
 rw[(C8 _).2 h,Ad6 rfl,Ad3 (by rw[BN];exact hn)]
 have key:∀ c:Nat,c<N→∀ w:Nat,w<N→(Ao (EO N (trk O i) (c:Int)) (w:Int)=true↔Con (trk O i) (c:Int) (w:Int)):=by
  intro c hc w hw
  unfold Ao
  rw[AeS,ZG]
  exact⟨fun q=>q.2,fun q=>⟨⟨by omega,by omega⟩,q⟩⟩
 split
 ·rename_i q
  exact⟨u,hu,.inl rfl,key u hu,by show 2*_≤csz N (trk O i) (u:Int)+csz N (trk O i) (v:Int);omega⟩
 ·rename_i q
  exact⟨v,hv,.inr rfl,key v hv,by show 2*_≤csz N (trk O i) (u:Int)+csz N (trk O i) (v:Int);omega⟩
theorem AXB{N:Nat}(h1:1≤N)(hN:N≤64){u v:Nat}(hu:u<N)(hv:v<N):∀ (m:Nat) (O:List Tie) (r:Nat),m≤Bq N+1→O.length≤400→(O.map ed).Pairwise JA→(∀ e∈O.map ed,e.1<e.2.1)→Ir N (Bq N:Int) ((u:Int),((v:Int),())) (m:Int) O →
  (Iz N u v (Bq N:Int) m O r).1.map ed=O.map ed∧Snd N (Bq N:Int) (Iz N u v (Bq N:Int) m O r).1 ∧
  ((Iz N u v (Bq N:Int) m O r).2.1=none→¬ Con (trk (Iz N u v (Bq N:Int) m O r).1 0) (u:Int) (v:Int)) ∧
  ((Iz N u v (Bq N:Int) m O r).2.1≠none→Con (trk (Iz N u v (Bq N:Int) m O r).1 0) (u:Int) (v:Int)):=by
 intro m
 induction m with
 |zero=>
  intro O r _ _ _ _ hG
  obtain⟨q1,q2⟩:=hG.end
  exact⟨rfl,q1,fun _=>q2,fun h=>absurd rfl h⟩
 |succ i ih=>
  intro O r hm hO hE hlt hG
  have hG':Ir N (Bq N:Int) ((u:Int),((v:Int),())) ((i:Int)+1) O:=hG
  have hit:(i:Int)≤(Bq N:Int):=by omega
  have hR:RG2 N O:=AXU h1 hN hO hE hlt hG.ins hG.lvl (hG.fo.front (PI hG.ins 0) (fun e he=>by rw[AeK]at he;subst he;exact hG.it))
  obtain⟨c,hL⟩:=AE7 hR hu hv (i:=i) (hG'.apart i)
  rw[Iz]
  generalize Ao (BD N O u v (i:Int))=S at *
  have hme:((O.map (rT S (Bq N:Int) i)).map ed)=O.map ed:=by
   rw[List.map_map]
   exact List.map_congr_left fun t _=>X6 S _ _ t
  have hpe:=AYH S (Bq N:Int) i (O.map (rT S (Bq N:Int) i))
  have hpl:=ADI S (Bq N:Int) i (O.map (rT S (Bq N:Int) i))
  rw[hme]at hpe
  cases hp:(A3 S (Bq N:Int) i (O.map (rT S (Bq N:Int) i))).2.2 with
  |none=>
   obtain⟨q1,q2⟩:=AOt S (Bq N:Int) i _ hp
   have hN':=hG'.next hit hL q2
   rw[← q1]at hN'
   simp only[]
   have:=ih (A3 S (Bq N:Int) i (O.map (rT S (Bq N:Int) i))).1 (r+IE S i O+(A3 S (Bq N:Int) i (O.map (rT S (Bq N:Int) i))).2.1) (by omega) (by rw[hpl.1,Aek];exact hO) (by rw[hpe];exact hE) (by rw[hpe];exact hlt) hN'
   rw[hpe]at this
   exact this
  |some e=>
   obtain⟨A,x,B,e1,e2,e3,e4,e5,e6⟩:=AOs S (Bq N:Int) i e _ hp
   obtain⟨q1,q2⟩:=hG'.found hit hL e1 e3 e4 e5
   rw[← e2]at q1 q2
   simp only[]
   exact⟨hpe,q1,fun h=>(by cases h),fun _=>q2⟩
theorem AVl{N:Nat}{ts:List Tie}(h:RG2 N ts)(hs:Snd N (Bq N:Int) ts){p:Nat}{t:Tie}(hp:ts[p]? = some t):
  RG2 N (DW N ts p t).1∧Snd N (Bq N:Int) (DW N ts p t).1∧(DW N ts p t).1.map ed=(ts.take p++ts.drop (p+1)).map ed ∧
  (t.2.2.2.1=true→((DW N ts p t).2.1≠none↔Con ((ts.take p++ts.drop (p+1)).map ed) t.1 t.2.1))∧(t.2.2.2.1=false→(DW N ts p t).2.1=none∧(DW N ts p t).2.2=0):=by
 have hpl:p<ts.length:=(AeI.1 hp).1
 have hpe:ts[p]=t:=(AeI.1 hp).2
 have hsp:ts=ts.take p++t::ts.drop (p+1):=by
  conv=>lhs;rw[← Aef p ts,Aea hpl,hpe]
 have hm:t∈ts:=hpe▸Ae5 hpl
 obtain⟨i1,i2,hlt,l1,l2⟩:=h.tie hm
 have hT:=Es h.hN
 have hsub:((ts.take p++ts.drop (p+1)).map ed).Sublist (ts.map ed):=by
  conv=>rhs;rw[hsp]
  exact(List.Sublist.append_left (List.sublist_cons_self _ _) _).map ed
 have hlen:(ts.take p++ts.drop (p+1)).length≤400:=by
  have:=h.ht
  rw[Ad0,AeD,AeY];omega
 have hE:=h.edP.sublist hsub
 have hL:∀ e∈(ts.take p++ts.drop (p+1)).map ed,e.1<e.2.1:=fun e he=>h.Adk e (hsub.subset he)
 have fin:∀ O':List Tie,O'.map ed=(ts.take p++ts.drop (p+1)).map ed→Snd N (Bq N:Int) O'→RG2 N O':=fun O' he hO=>AXU h.h1 h.hN (by
   have:=AfK List.length he
   rw[Aek,Aek]at this
   omega) (by rw[he];exact hE) (by rw[he];exact hL) hO.ins hO.lvl hO.fo
 unfold DW
 cases h4:t.2.2.2.1
 ·simp only[Ad4,Ad7]
  have hO:Snd N (Bq N:Int) (ts.take p++ts.drop (p+1)):=by
   rw[hsp]at hs
   exact hs.other h4
  exact⟨fin _ rfl hO,hO,trivial,fun q=>q.elim,fun _=>⟨trivial,trivial⟩⟩
 ·simp only[AeL]
  obtain⟨a,ha⟩:=Adz i1.2.2.1
  obtain⟨b,hb⟩:=Adz i2.2.2.1
  obtain⟨lv,hlv⟩:=Adz l1
  have haN:a<N:=by have:=i1.2.2.2;omega
  have hbN:b<N:=by have:=i2.2.2.2;omega
  have hst:Ir N (Bq N:Int) ((a:Int),((b:Int),())) ((lv+1:Nat):Int) (ts.take p++ts.drop (p+1)):=by
   have hs':=hs
   rw[hsp]at hs'
   have:=hs'.AdX h4
   have e1:ed t=((a:Int),((b:Int),())):=by unfold ed;rw[ha,hb]
   rw[e1,hlv]at this
   exact this
  have e2:t.1.toNat=a:=by omega
  have e3:t.2.1.toNat=b:=by omega
  have e4:t.2.2.1.toNat+1=lv+1:=by omega
  rw[e2,e3,e4]
  obtain⟨q1,q2,q3,q4⟩:=AXB h.h1 h.hN haN hbN (lv+1) (ts.take p++ts.drop (p+1)) 0 (by omega) hlen hE hL hst
  refine⟨fin _ q1 q2,q2,q1,fun _ => ?_,fun q=>by cases q⟩
  rw[← q1,q2.span,ha,hb]
  constructor
  ·exact q4
  ·intro hc hn
   exact q3 hn hc
end Go.Pev.Pl
end
section
namespace Go.Pev.Pl
open Tok
noncomputable def AK4(ts:List Tie)(k:Nat):Bool:=ts.any fun t => !t.2.2.2.1&&(decide (t.2.2.1=(k:Int)) && !Ds (trk ts k) t.1 t.2.1)
theorem AI2{N:Nat}{ts:List Tie}(h:RG2 N ts)(s:Int)(k:Nat){o:List Int}(hc:K9 (N:Int) (trk ts k) o):
  AT DL many ((N:Int),ts,s,(k:Int),o,(0:Int),())=some (if AK4 ts k then .inl (false,())else .inr (.inl ((N:Int),ts,s,(k:Int),()))):=by
 have ht:=h.ht
 have ho:o.length=N:=by have:=hc.len;omega
 have e:=Gw (step:=DL) (fun i=>((N:Int),ts,s,(k:Int),o,(i:Int),())) ts (fun t => !t.2.2.2.1&&(decide (t.2.2.1=(k:Int)) && !Ds (trk ts k) t.1 t.2.1)) (fun _=>.inl (false,())) (.inr (.inl ((N:Int),ts,s,(k:Int),()))) (by omega)
  (fun i x hi hx=>by
   obtain⟨i1,i2,_,l1,l2⟩:=h.tie (Ad9 hx)
   rw[DL,AO,AK,Adq hi]
   simp only[Ah hx,AHo ho (show InV N x.1 from⟨i1.2.2.1,i1.2.2.2⟩),AHo ho (show InV N x.2.1 from⟨i2.2.2.1,i2.2.2.2⟩)]
   have hd:∀ w:Int,AN o (AE w) 0=cl o w:=fun _=>rfl
   rw[AH (by omega),hd,hd,Ak,Ak]
   have:decide (cl o x.1=cl o x.2.1)=Ds (trk ts k) x.1 x.2.1:=by
    rw[Aex,AeS,BN]
    exact hc.same _ _ i1 i2
   rw[this]
   generalize Ds (trk ts (k:Int)) x.1 x.2.1=c
   generalize decide (x.2.2.1=(k:Int))=d
   generalize x.2.2.2.1=f
   cases f<;>cases d<;>cases c<;>rfl)
  (by rw[DL,AO,AK,Adp (by omega)])
 have e':AT DL many ((N:Int),ts,s,(k:Int),o,(0:Int),())=_:=e
 rw[e']
 rfl
theorem AI3{N:Nat}{ts:List Tie}(h:RG2 N ts)(k:Nat):
  AT DK many ((N:Int),ts,((N/2 ^ k:Nat):Int),(k:Int),(0:Int),())=some (if AHx N ts k then .inl (false,())else .inr (.inl ((N:Int),ts,((N/2 ^ k:Nat):Int),(k:Int),()))):=by
 have hN:=h.hN
 have e:=Gw (step:=DK) (fun i=>((N:Int),ts,((N/2 ^ k:Nat):Int),(k:Int),(i:Int),())) (List.range N) (fun v=>decide (max 1 (N/2 ^ k)<csz N (trk ts k) (v:Int))) (fun _=>.inl (false,())) (.inr (.inl ((N:Int),ts,((N/2 ^ k:Nat):Int),(k:Int),()))) (by simp;omega)
  (fun i x hi hx=>by
   have:=DR hx
   subst this
   rw[AeV]at hi
   have hle:=ND N (trk ts k) (x:Int)
   have hdl:N/2 ^ k≤N:=Nat.div_le_self _ _
   rw[DK,AK,Adq hi]
   simp only[D3 h.h1 h.hN ts h.ht h.inE x hi,AO,Hl,P9]
   rw[AH (by omega),Am]
   have:decide (max (1:Int) ((N/2 ^ k:Nat):Int)<(csz N (trk ts k) (x:Int):Int))=decide (max 1 (N/2 ^ k)<csz N (trk ts k) (x:Int)):=Afc.2 (by omega)
   rw[this]
   cases decide (max 1 (N/2 ^ k)<csz N (trk ts k) (x:Int))<;>simp)
  (by rw[DK,AeV,AK,Adp (by omega)])
 have e':AT DK many ((N:Int),ts,((N/2 ^ k:Nat):Int),(k:Int),(0:Int),())=_:=e
 rw[e']
 rfl
theorem AbM{N:Nat}{ts:List Tie}(h:RG2 N ts):((List.range (Bq N+1)).any fun k=>AK4 ts k)=ts.any (APM ts):=by
 rw[Aex,Aez,Aez]
 constructor
 ·rintro⟨k,_,hk⟩
  unfold AK4 at hk
  rw[Aez]at hk
  obtain⟨t,ht,q⟩:=hk
  simp only[Adv,Adt]at q
  refine⟨t,ht,?_⟩
  unfold APM
  rw[q.2.1,Adv]
  exact⟨q.1,q.2.2⟩
 ·rintro⟨t,ht,q⟩
  unfold APM at q
  rw[Adv]at q
  obtain⟨_,_,_,l1,l2⟩:=h.tie ht
  obtain⟨k,hk⟩:=Adz l1
  have hT:=Es h.hN
  refine⟨k,by rw[Aen];omega,?_⟩
  unfold AK4
  rw[Aez]
  refine⟨t,ht,?_⟩
  rw[hk]at q
  simp only[Adv,Adt]
  exact⟨q.1,hk,q.2⟩
theorem LJ{N:Nat}{ts:List Tie}(h:RG2 N ts):Et (((N:Int),(ts,())),())=some (IS (VD ts∧AH9 ts∧Ql N ts),()):=by
 have ht:=h.ht
 have h1:=h.h1
 have hN:=h.hN
 have hT:=AEb h.hN
 have hTe:=Es h.hN
 obtain⟨o1,e1,c1⟩:=Ca (N:Int) (ts.map ed) ⟨by omega,by omega⟩ (by rw[Aek];omega) h.inE
 obtain⟨o2,e2,c2⟩:=h.ASv 0
 have l1:o1.length=N:=by have:=c1.len;omega
 have l2:o2.length=N:=by have:=c2.len;omega
 rw[N8,JF]
 simp only[h.r21,Ady,MA (N:Int) ts h.ht h.r21,e1,Mc (N:Int) ts h.ht,e2]
 have f0:=Gw (step:=EH) (fun i=>((N:Int),ts,o1,o2,(i:Int),())) (List.range N) (fun k => !decide (o1.getD k 0=o2.getD k 0)) (fun _=>.inl (false,())) (.inr (.inl ((N:Int),ts,()))) (by simp;omega)
  (fun i x hi hx=>by
   have:=DR hx
   subst this
   rw[AeV]at hi
   rw[EH,AK,Adq hi]
   simp only[Ch 0 (show x<o1.length by omega),Ch 0 (show x<o2.length by omega),Fv,Ak]
   rw[AH (by omega)]
   cases decide (o1.getD x 0=o2.getD x 0)<;>simp)
  (by rw[EH,AeV,AK,Adp (by omega)])
 have f0':AT EH many ((N:Int),ts,o1,o2,(0:Int),())=_:=f0
 have hsame:(!(List.range N).any fun k => !decide (o1.getD k 0=o2.getD k 0))=IS (VD ts):=by
  refine PY ?_
  have e0:(!(List.range N).any fun k => !decide (o1.getD k 0=o2.getD k 0))=true↔o1=o2:=by
   rw[Ae0,Afu]
   constructor
   ·intro hh
    refine FA 0 (by omega) fun k hk => ?_
    have:=hh k (by rw[Aen];omega)
    simpa using this
   ·rintro rfl k _
    simp
  rw[e0,AWG h1 hN c1 c2 h.inE (h.inK 0)]
  exact⟨fun q=>q.1,fun q=>⟨q,fun e he=>.edge e (AET ts 0 e he)⟩⟩
 have f1:=Gw (step:=EG) (fun i=>((N:Int),ts,((N/2 ^ i:Nat):Int),(i:Int),())) (List.range (Bq N+1)) (fun k=>AK4 ts k||AHx N ts k) (fun _=>.inl (false,())) (.inr (.inl ())) (by simp;omega)
  (fun i x hi hx=>by
   have:=DR hx
   subst this
   rw[AeV]at hi
   obtain⟨o,g1,g2⟩:=h.ASv x
   have hdl:N/2 ^ x≤N:=Nat.div_le_self _ _
   rw[EG]
   simp only[RR N h.hN,hTe]
   rw[Bm,Adq (by omega)]
   simp only[Mc (N:Int) ts h.ht,g1,AI2 h _ x g2]
   cases AK4 ts x
   ·simp only[Ad4,Ad7,AI3 h x,Bool.false_or]
    cases AHx N ts x
    ·simp only[Ad4,Ad7]
     rw[AXf (by omega),AH (by omega)]
     simp only[]
     rw[Nat.pow_succ,Nat.div_div_eq_div_mul]
    ·rfl
   ·rfl)
  (by
   rw[EG,AeV]
   simp only[RR N h.hN,hTe]
   rw[Bm,Adp (by omega)])
 have hz:((N/2 ^ 0:Nat):Int)=(N:Int):=by simp
 have f1':AT EG many ((N:Int),ts,((N/2 ^ 0:Nat):Int),(0:Int),())=_:=f1
 rw[hz]at f1'
 have hor:((List.range (Bq N+1)).any fun k=>AK4 ts k||AHx N ts k)=(ts.any (APM ts)||(List.range (Bq N+1)).any (AHx N ts)):=by
  rw[← AbM h]
  generalize List.range (Bq N+1)=xs
  induction xs with
  |nil=>rfl
  |cons x xs ih=>simp only[List.any_cons,ih];cases AK4 ts x<;>cases AHx N ts x<;>simp
 have b1:=AbL ts
 have b2:=AaD hN ts
 rw[hor]at f1'
 simp only[f0']
 have fin:IS (VD ts∧AH9 ts∧Ql N ts)=(IS (VD ts)&&(IS (AH9 ts)&&IS (Ql N ts))):=by
  symm
  refine PY ?_
  rw[Adv,Adv,C8,C8,C8]
 rw[fin,← hsame,← b1,← b2]
 cases (List.range N).any fun k => !decide (o1.getD k 0=o2.getD k 0)
 ·simp only[Ad4,Ad7,f1']
  cases ts.any (APM ts)<;>cases (List.range (Bq N+1)).any (AHx N ts)<;>rfl
 ·rfl
theorem AV4{A B:List Edge}{x:Edge}(h:(A++x::B).Pairwise JA):A++B=(A++x::B).filter fun e=>decide (e≠x):=by
 have hA:∀ e∈A,e≠x:=fun e he=>by
  rw[Afr]at h
  have:=h.2.2 e he x (by simp)
  rintro rfl
  unfold JA at this;omega
 have hB:∀ e∈B,e≠x:=fun e he=>by
  rw[Afr,Aec]at h
  have:=h.2.1.1 e he
  rintro rfl
  unfold JA at this;omega
 rw[AfQ,AfD,Ad3 (by simp),Afv.2 (fun e he=>Adq (hA e he)),Afv.2 (fun e he=>Adq (hB e he))]
end Go.Pev.Pl
end
section
namespace Go.Pev.Pl
section
variable {N top:Nat} {ts w:List Tie} (hp:w.Perm ts) (hi:∀ x∈ts,InE N (ed x)) (hl:∀ t∈ts,0≤t.2.2.1∧t.2.2.1≤(top:Int)) (hfo:Fo N (trk ts 0)) (hlie:∀ x∈ts,x.2.2.2.1=false→Con (trk ts x.2.2.1) x.1 x.2.1)
include hp hi
include hl hfo hlie
end
end Go.Pev.Pl
end
section
namespace Go.Pev.Pl
open Tok
end Go.Pev.Pl
end
section
namespace Go.Pev.Pl
open Tok
def bef(x y:Tie):Prop:=y.2.2.1<x.2.2.1∨(x.2.2.1=y.2.2.1∧ahead x y)
theorem bef.trans{x y z:Tie}(h:bef x y)(h':bef y z):bef x z:=by
 unfold bef ahead at *
 omega
def Mrg(u v w:List Tie):Prop:=w.Perm (u++v)∧w.Pairwise bef
end Go.Pev.Pl
end
section
namespace Go.Pev.Pl
open Tok
noncomputable section
end
theorem Mrg.append{u1 u2 v1 v2 w1 w2:List Tie}(h1:Mrg u1 v1 w1)(h2:Mrg u2 v2 w2)(hu:(u1++u2).Pairwise bef)(hv:(v1++v2).Pairwise bef)(c1:∀ x∈u1,∀ y∈v2,bef x y)(c2:∀ y∈v1,∀ x∈u2,bef y x):Mrg (u1++u2) (v1++v2) (w1++w2):=by
 rw[Afr]at hu hv
 refine⟨?_,?_⟩
 ·refine(h1.1.append h2.1).trans ?_
  rw[Aed,Aed]
  refine List.Perm.append_left _ ?_
  rw[← Aed,← Aed]
  exact List.Perm.append_right _ AfP
 ·rw[Afr]
  refine⟨h1.2,h2.2,fun x hx y hy => ?_⟩
  have hx:=Adu.1 (h1.1.mem_iff.1 hx)
  have hy:=Adu.1 (h2.1.mem_iff.1 hy)
  rcases hx with hx|hx<;>rcases hy with hy|hy
  ·exact hu.2.2 x hx y hy
  ·exact c1 x hx y hy
  ·exact c2 x hx y hy
  ·exact hv.2.2 x hx y hy
end Go.Pev.Pl
end
section
namespace Go.Pev.Pl
open Tok
end Go.Pev.Pl
end
section
namespace Go.Pev.Pl
open Tok
end Go.Pev.Pl
end
section
namespace Go.Pev.Pl
open Tok
theorem AJQ(l:List Edge)(hs:l.length<1073741824):Re (l,l,())=some (true,()):=by
 rw[AC6,PN,AO,Ak]
 have e:=Gw (step:=FQ) (fun i=>(l,l,(i:Int),())) l (fun _=>false) (fun _=>.inl (false,())) (.inr (.inl ())) (by omega)
  (fun i x hi hx=>by
   rw[FQ,AO,AK,Adq hi]
   simp only[Ah hx,Ak,Ad2,Af2,Ady]
   rw[AH (by omega)]
   rfl)
  (by rw[FQ,AO,AK,Adp (by omega)])
 have e':AT FQ many (l,l,(0:Int),())=_:=e
 have hf:(l.any fun _=>false)=false:=by simp
 rw[e',hf]
 simp
def lvl(ts:List Tie)(k:Int):List Tie:=ts.filter fun t=>decide (t.2.2.1=k)
end Go.Pev.Pl
end
section
namespace Go.Pev.Pl
open Tok
section
variable (n:Int) (ts:List Tie)
end
end Go.Pev.Pl
end
section
namespace Go.Pev.Pl
open Tok
def mid(f:Int→Int)(xs:List Int)(i:Nat):List Int:=(xs.take i).map f++xs.drop i
def lb(at0:List Int)(v:Int):Int:=at0.getD v.toNat 0
end Go.Pev.Pl
end
section
namespace Go.Pev.Pl
open Tok
end Go.Pev.Pl
end
section
namespace Go.Pev.Pl
section
variable {α β:Type} [DecidableEq α]
theorem APs(es:List (α×β))(k:α)(v:β)(j:α):AR (Ai es k v) j=if j=k then some v else AR es j:=by
 induction es with
 |nil=>
  simp only[Ai,AR]
  by_cases h:j=k
  ·rw[Ad6 h,Ad6 h.symm]
  ·rw[Ad3 h,Ad3 (Aej h)]
 |cons e es ih=>
  obtain⟨a,x⟩:=e
  by_cases h1:a=k
  ·subst h1
   simp only[Ai,AR,AeL]
   by_cases h:j=a
   ·rw[Ad6 h,Ad6 h.symm]
   ·rw[Ad3 h,Ad3 (Aej h),Ad3 (Aej h)]
  ·simp only[Ai,AR,h1,Ad7,ih]
   by_cases h:a=j
   ·subst h
    rw[Ad6 rfl,Ad3 h1,Ad6 rfl]
   ·rw[Ad3 h,Ad3 h]
end
end Go.Pev.Pl
end
section
namespace Go.Pev.Pl
open Tok
end Go.Pev.Pl
end
section
namespace Go.Pev.Pl
open Tok
theorem Px(p x:Tie):DV (p,x,())=some (if ahead p x then -1 else if p.1=x.1∧p.2.1=x.2.1 then 0 else 1,()):=by
 rw[Lv,Hp]
 simp only[KW,AGD]
 congr 2
 unfold O0 ahead
 repeat' split
 all_goals omega
theorem AaB{ts:List Tie}(ht:ts.length≤400)(hp:ts.Pairwise ahead)(g:Tie):∃ k:Nat,k≤ts.length∧(∀ j t,ts[j]? = some t→(j<k↔ahead t g)) ∧
  AWS (ts,g,())=some ((k:Int),match ts[k]? with|some t=>decide (t.1=g.1∧t.2.1=g.2.1)|none=>false,()):=by
 have hahead:∀ (i j:Nat) (t t':Tie),i≤j→ts[i]? = some t→ts[j]? = some t'→ahead t' g→ahead t g:=by
  intro i j t t' hij h1 h2 h3
  by_cases e:i=j
  ·subst e
   rw[h1]at h2
   cases h2
   exact h3
  ·have hj:=(AeI.1 h2).1
   have hi:=(AeI.1 h1).1
   have:=Aeq.1 hp i j hi hj (by omega)
   rw[(AeI.1 h1).2,(AeI.1 h2).2]at this
   exact this.trans h3
 obtain⟨g1,g2,g3,g4,⟨⟩⟩:=g
 obtain⟨k,_,k2,k3,k4,k5⟩:=Adl (step:=KX) (fun i j=>(ts,g1,g2,g3,g4,(ts.length:Int),(i:Int),(j:Int),())) (fun i=>match ts[i]? with|some t=>decide (ahead t (g1,g2,g3,g4,()))|none=>false)
  (fun i=>.inl (ts,g1,g2,g3,g4,(ts.length:Int),(i:Int),())) 0 ts.length (AgJ _) (by omega)
  (fun i j _ hij hj=>by
   have hm:(i+j)/2<ts.length:=by omega
   have hx:ts[(i+j)/2]? = some ts[(i+j)/2]:=by simp[hm]
   have hs:shr? .u64 (((i+j:Nat)):Int) (1:Int)=some (((i+j)/2:Nat):Int):=WZ (i+j) 1 (by omega)
   rw[KX,AK,Adq hij]
   simp only[]
   rw[show((i:Int)+(j:Int))=((i+j:Nat):Int) by omega,Af (n:=((i+j:Nat):Int)) (by omega),AWZ (i+j) (by omega)]
   simp only[hs,Af (n:=(((i+j)/2:Nat):Int)) (by omega),Ah hx]
   have hc:=Px ts[(i+j)/2] (g1,g2,g3,g4,())
   have hc':DV (((ts[(i+j)/2]).1,((ts[(i+j)/2]).2.1,((ts[(i+j)/2]).2.2.1,((ts[(i+j)/2]).2.2.2.1,())))),(g1,(g2,(g3,(g4,())))),())=_:=hc
   simp only[hc',hx]
   by_cases ha:ahead ts[(i+j)/2] (g1,g2,g3,g4,())
   ·simp only[Ad6 ha,Adq ha,AeL]
    rw[Am,Adq (by omega),AH (by omega)]
   ·simp only[Ad3 ha,Adp ha]
    rw[Am,Adp (by split<;>omega)]
    rfl)
  (fun i _ _=>by rw[KX,AK,Adp (by omega)])
  (fun x y _ hxy hy h=>by
   have hx':x<ts.length:=by omega
   have e1:ts[x]? = some ts[x]:=by simp[hx']
   have e2:ts[y]? = some ts[y]:=by simp[hy]
   simp only[e2,AeS]at h
   simp only[e1,AeS]
   exact hahead x y _ _ hxy e1 e2 h)
 refine⟨k,k2,fun j t hj => ?_,?_⟩
 ·have hjl:=(AeI.1 hj).1
  constructor
  ·intro h
   have:=k3 j (AgJ _) h
   simpa [hj]using this
  ·intro h
   refine Aeb fun hn => ?_
   have:=k4 j (by omega) hjl
   simp[hj]at this
   exact this h
 ·rw[AS0,AHw]
  have k5':AT KX many (ts,g1,g2,g3,g4,AM ts,(0:Int),AM ts,())=_:=k5
  simp only[k5']
  by_cases hk:k<ts.length
  ·have hx:ts[k]? = some ts[k]:=by simp[hk]
   have hna:¬ ahead ts[k] (g1,g2,g3,g4,()):=by
    have:=k4 k (Ad5 _) hk
    simpa [hx]using this
   have hc:=Px ts[k] (g1,g2,g3,g4,())
   have hc':DV (((ts[k]).1,((ts[k]).2.1,((ts[k]).2.2.1,((ts[k]).2.2.2.1,())))),(g1,(g2,(g3,(g4,())))),())=_:=hc
   rw[AK,Adq hk]
   simp only[Ah hx,hc',hx,Ad3 hna,Ak]
   by_cases he:(ts[k]).1=g1∧(ts[k]).2.1=g2
   ·simp only[Ad6 he,Adq he,Ad2]
   ·simp only[Ad3 he,Adp he]
    rfl
  ·have hx:ts[k]? = none:=Aeh (by omega)
   rw[AK,Adp hk]
   simp only[hx]
theorem AU7{N:Nat}{ts:List Tie}(h:RG2 N ts)(u v:Int):ALO (((N:Int),(ts,())),u,v,())=some (if ts.any (CA u v)then((ts.findIdx (CA u v):Nat):Int)else -1,()):=by
 have hp:=((J2 N ts).1 h.oks).2
 obtain⟨k,k1,k2,k3⟩:=AaB h.ht hp (min u v,max u v,0,false,())
 rw[ALN,Wl]
 simp only[h.lr,Ady,ADU,Pw,M9,P9]
 have k3':AWS (ts,(min u v,(max u v,((0:Int),(false,())))),())=_:=k3
 simp only[k3']
 cases hx:ts[k]? with
 |none=>
  have hall:ts.any (CA u v)=false:=by
   rw[Afu]
   intro t ht hat
   obtain⟨j,hj,rfl⟩:=Aer ht
   have hj':ts[j]? = some ts[j]:=by simp[hj]
   have hjk:j<k:=by
    have:=List.getElem?_eq_none_iff.1 hx
    omega
   have ha:=(k2 j _ hj').1 hjk
   unfold CA at hat
   rw[AeS]at hat
   unfold ahead at ha
   simp only at ha
   omega
  rw[hall]
  rfl
 |some t=>
  by_cases he:t.1=min u v∧t.2.1=max u v
  ·have hk:=(AeI.1 hx)
   obtain⟨hkl,hke⟩:=hk
   have hat:CA u v t=true:=by unfold CA;rw[AeS];exact he
   have hany:ts.any (CA u v)=true:=Aez.2 ⟨t,Ad9 hx,hat⟩
   have hfi:ts.findIdx (CA u v)=k:=by
    rw[List.findIdx_eq hkl,hke]
    refine⟨hat,fun j hj => ?_⟩
    have hj':ts[j]? = some ts[j]:=by simp
    have ha:=(k2 j _ hj').1 hj
    unfold CA
    rw[Aeg]
    unfold ahead at ha
    simp only at ha
    omega
   simp only[Adq he,Ady]
   rw[hany,hfi]
   rfl
  ·have hall:ts.any (CA u v)=false:=by
    rw[Afu]
    intro t' ht' hat
    obtain⟨j,hj,rfl⟩:=Aer ht'
    have hj':ts[j]? = some ts[j]:=by simp[hj]
    unfold CA at hat
    rw[AeS]at hat
    obtain⟨hkl,hke⟩:=AeI.1 hx
    rcases Af3 j k with hjk|hjk|hjk
    ·have ha:=(k2 j _ hj').1 hjk
     unfold ahead at ha
     simp only at ha
     omega
    ·subst hjk
     rw[hke]at hat
     exact he hat
    ·have ha:=Aeq.1 hp k j hkl hj hjk
     rw[hke]at ha
     have hna:¬ ahead t (min u v,max u v,0,false,()):=fun hh=>by
      have:=(k2 k t hx).2 hh
      omega
     unfold ahead at ha hna
     simp only at hna
     omega
   simp only[Adp he,AeM]
   rw[hall]
   rfl
end Go.Pev.Pl
end
section
namespace Go.Pev.Pl.SI
open Go.Sort
theorem B0(x y:Int):D4 (x,y,())=some (ltInt x y,()):=by
 simp only[ALP,Wm,Wj,SC,Am,D0,ltInt]
 by_cases h:x<y<;>simp[h]
theorem Abk(a b i:Nat):∀ (j:Nat) (d:Array Int) (n:Nat),j<d.size→d.size<4611686018427387904→j<n →
  AQ M7 n (d.toList,(a:Int),(b:Int),(i:Int),(j:Int),())=some (.inl ((insInner ltInt a j d).toList,(a:Int),(b:Int),(i:Int),())):=by
 intro j
 induction j with
 |zero=>
  intro d n hj hs hn
  obtain⟨n,rfl⟩:∃ k,n=k+1:=⟨n-1,by omega⟩
  have h0:ilt (a:Int) ((0:Nat):Int)=false:=by rw[AK];simp
  simp only[AQ,M7,h0,insInner]
 |succ j ih=>
  intro d n hj hs hn
  obtain⟨n,rfl⟩:∃ k,n=k+1:=⟨n-1,by omega⟩
  have e1:IntKind.wrap .i64 (((j+1:Nat):Int)-1)=(j:Int):=by rw[Af (by omega)];omega
  have hj':j<d.size:=by omega
  simp only[AQ,M7,AK,e1,Ad hj,Ad hj',Ap hj,Ap hj',B0,insInner,Afo]
  by_cases h1:a<j+1
  ·cases h2:ltInt d[j+1]! d[j]!
   ·simp only[h1,Ad2,h2,Agf,Ad4,Ad7]
   ·simp only[h1,Ad2,h2,AgG,AeL,Cv]
    rw[Ad (by simpa using hj')]
    simp only[C2]
    exact ih (swp d (j+1) j) n (by rw[size_swp];omega) (by rw[size_swp];omega) (by omega)
  ·simp only[h1,Ad8,Afg,Ad4,Ad7]
theorem CW(lt:Int→Int→Bool)(a j:Nat)(d:Array Int):(insInner lt a j d).size=d.size:=by
 induction j generalizing d with
 |zero=>rfl
 |succ j ih=>
  rw[insInner]
  split
  ·rw[ih,size_swp]
  ·rfl
theorem AZD(a b:Nat):∀ (k i:Nat) (d:Array Int) (n:Nat),b-i=k→b≤d.size→d.size<4611686018427387904→d.size<many→k<n →
  AQ M8 n (d.toList,(a:Int),(b:Int),(i:Int),())=some (.inl ((insOuter ltInt a b i d).toList,())):=by
 intro k
 induction k with
 |zero=>
  intro i d n hk hb hs hm hn
  obtain⟨n,rfl⟩:∃ k,n=k+1:=⟨n-1,by omega⟩
  have h0:¬ i<b:=by omega
  rw[insOuter]
  simp only[AQ,M8,AK,h0,Ad8,Ad7]
 |succ k ih=>
  intro i d n hk hb hs hm hn
  obtain⟨n,rfl⟩:∃ k,n=k+1:=⟨n-1,by omega⟩
  have h0:i<b:=by omega
  have e1:IntKind.wrap .i64 ((i:Int)+1)=((i+1:Nat):Int):=by rw[Af (by omega)];omega
  rw[insOuter]
  simp only[AQ,M8,AK,h0,Ad2,AeL,Ag]
  rw[Abk a b i i d many (by omega) hs (by omega)]
  simp only[e1]
  exact ih (i+1) _ n (by omega) (by rw[CW];omega) (by rw[CW];omega) (by rw[CW];omega) (by omega)
theorem AZC(d:Array Int)(a b:Nat)(hab:a≤b)(hb:b≤d.size)(hs:d.size<4294967296):AVL (d.toList,(a:Int),(b:Int),())=some ((insertionSort ltInt d a b).toList,()):=by
 have hm:d.size<many:=by simp only[many];omega
 have e1:IntKind.wrap .i64 ((a:Int)+1)=((a+1:Nat):Int):=by rw[Af (by omega)];omega
 rw[ASf,AGs]
 simp only[e1,Ag]
 rw[AZD a b (b-(a+1)) (a+1) d many rfl hb (by omega) hm (by omega)]
 rfl
end Go.Pev.Pl.SI
end
section
namespace Go.Pev.Pl.SI
open Go.Sort
theorem ANh(hi first:Nat):∀ (k root:Nat) (d:Array Int) (n:Nat),hi-root=k→root≤hi→first+hi≤d.size→d.size<4294967296→(hi=0∨root<hi)→k<n →
  AQ JG n (d.toList,(hi:Int),(first:Int),(root:Int),())=some (.inl ((siftDown ltInt hi first root d).toList,())) ∨
  AQ JG n (d.toList,(hi:Int),(first:Int),(root:Int),())=some (.inr (.inl ((siftDown ltInt hi first root d).toList,()))):=by
 intro k
 induction k using Nat.strongRecOn with
 |_ k ih=>
 intro root d n hk hr hf hs hz hn
 obtain⟨n,rfl⟩:∃ k,n=k+1:=⟨n-1,by omega⟩
 rw[siftDown]
 simp (disch:=omega) only[AQ,JG,ACf,AH,wrap_add,Bm,AK]
 by_cases h1:hi≤2*root+1
 ·simp only[h1,Ad2,ge_iff_le,dite_true,true_or]
 ·have i0:first+root<d.size:=by omega
  have i1:first+(2*root+1)<d.size:=by omega
  simp only[h1,Ad8,ge_iff_le,Ad7,dite_false]
  simp (disch:=omega) only[Ad,Ap,B0]
  by_cases h2:2*root+1+1<hi
  ·have i2:first+(2*root+2)<d.size:=by omega
   have i3:2*root+1+1=2*root+2:=by omega
   have i4:first+(2*root+1)+1=first+(2*root+2):=by omega
   have h3:2*root+2<hi:=by omega
   simp only[i3,i4,h3,Ad2]
   simp (disch:=omega) only[Ad,Ap,B0,Cv]
   cases h4:ltInt d[first+(2*root+1)]! d[first+(2*root+2)]!
   ·simp only[Agf,Ad4,Ad7]
    cases h5:ltInt d[first+root]! d[first+(2*root+1)]!
    ·simp
    ·simp only[Ady,Ad4,Ad7]
     rw[Ad (by simpa using i1)]
     simp only[C2]
     exact ih (hi-(2*root+1)) (by omega) (2*root+1) _ n rfl (by omega) (by rw[size_swp];omega) (by rw[size_swp];omega) (by omega) (by omega)
   ·simp only[AgG,AeL]
    cases h5:ltInt d[first+root]! d[first+(2*root+2)]!
    ·simp
    ·simp only[Ady,Ad4,Ad7,dite_true]
     rw[Ad (by simpa using i2)]
     simp only[C2]
     exact ih (hi-(2*root+2)) (by omega) (2*root+2) _ n rfl (by omega) (by rw[size_swp];omega) (by rw[size_swp];omega) (by omega) (by omega)
  ·simp only[h2,Ad8,Afg,Ad4,Ad7,Cv]
   cases h5:ltInt d[first+root]! d[first+(2*root+1)]!
   ·simp
   ·simp only[Ady,Ad4,Ad7]
    rw[Ad (by simpa using i1)]
    simp only[C2]
    exact ih (hi-(2*root+1)) (by omega) (2*root+1) _ n rfl (by omega) (by rw[size_swp];omega) (by rw[size_swp];omega) (by omega) (by omega)
theorem ACx(d:Array Int)(root hi first:Nat)(hf:first+hi≤d.size)(hs:d.size<4294967296)(hz:hi=0∧root=0∨root<hi):ACy (d.toList,(root:Int),(hi:Int),(first:Int),())=some ((siftDown ltInt hi first root d).toList,()):=by
 have hm:d.size<many:=by simp only[many];omega
 rw[AJG,WX]
 simp only[Ag]
 rcases ANh hi first (hi-root) root d many rfl (by omega) hf hs (by omega) (by omega)with h|h<;>rw[h]
theorem Ba(lt:Int→Int→Bool)(hi first:Nat):∀ (k root:Nat) (d:Array Int),hi-root=k→(siftDown lt hi first root d).size=d.size:=by
 intro k
 induction k using Nat.strongRecOn with
 |_ k ih=>
 intro root d hk
 rw[siftDown]
 split
 ·rfl
 ·split
  ·split
   ·rfl
   ·split
    ·rw[ih (hi-(2*root+2)) (by omega) _ _ rfl,size_swp]
    ·rfl
  ·split
   ·rfl
   ·rw[ih (hi-(2*root+1)) (by omega) _ _ rfl,size_swp]
theorem ALp(hi first:Nat):∀ (k:Nat) (d:Array Int) (n:Nat),(hi=0∧k≤1∨k≤hi)→first+hi≤d.size→d.size<4294967296→k<n →
  AQ JT n (d.toList,(first:Int),(0:Int),(hi:Int),(k:Int)-1,())=some (.inl ((heapBuild ltInt hi first k d).toList,(first:Int),(0:Int),(hi:Int),())):=by
 intro k
 induction k with
 |zero=>
  intro d n hk hf hs hn
  obtain⟨n,rfl⟩:∃ k,n=k+1:=⟨n-1,by omega⟩
  rw[AQ,JT,Aq,Adp (by omega)]
  rfl
 |succ k ih=>
  intro d n hk hf hs hn
  obtain⟨n,rfl⟩:∃ k,n=k+1:=⟨n-1,by omega⟩
  have e0:((k+1:Nat):Int)-1=(k:Int):=by omega
  rw[AQ,JT,e0,Aq,Adq (by omega)]
  simp only[ACx d k hi first hf hs (by omega)]
  rw[Af (by omega)]
  exact ih _ n (by omega) (by rw[Ba _ _ _ _ _ _ rfl];omega) (by rw[Ba _ _ _ _ _ _ rfl];omega) (by omega)
theorem DM(lt:Int→Int→Bool)(hi first:Nat):∀ (k:Nat) (d:Array Int),(heapBuild lt hi first k d).size=d.size:=by
 intro k
 induction k with
 |zero=>intro d;rfl
 |succ k ih=>intro d;rw[heapBuild,ih,Ba _ _ _ _ _ _ rfl]
theorem AVY(first:Nat):∀ (k:Nat) (d:Array Int) (n:Nat),first+k≤d.size→d.size<4294967296→k<n →
  AQ JS n (d.toList,(first:Int),(0:Int),(k:Int)-1,())=some (.inl ((heapPop ltInt first k d).toList,())):=by
 intro k
 induction k with
 |zero=>
  intro d n hf hs hn
  obtain⟨n,rfl⟩:∃ k,n=k+1:=⟨n-1,by omega⟩
  rw[AQ,JS,Aq,Adp (by omega)]
  rfl
 |succ k ih=>
  intro d n hf hs hn
  obtain⟨n,rfl⟩:∃ k,n=k+1:=⟨n-1,by omega⟩
  have e0:((k+1:Nat):Int)-1=(k:Int):=by omega
  have i0:first<d.size:=by omega
  have i1:first+k<d.size:=by omega
  rw[AQ,JS,e0,Aq,Adq (by omega)]
  simp (disch:=omega) only[wrap_add,Ad,Ap,Cv]
  rw[Ad (by simpa using i1)]
  simp only[C2]
  have:=ACx (swp d first (first+k)) 0 k first (by rw[size_swp];omega) (by rw[size_swp];omega) (by omega)
  simp only[Int.natCast_zero]at this
  simp only[this]
  rw[Af (by omega)]
  exact ih _ n (by rw[Ba _ _ _ _ _ _ rfl,size_swp];omega) (by rw[Ba _ _ _ _ _ _ rfl,size_swp];omega) (by omega)
theorem AVX(d:Array Int)(a b:Nat)(hab:a<b)(hb:b≤d.size)(hs:d.size<4294967296):ADh (d.toList,(a:Int),(b:Int),())=some ((heapSort ltInt d a b).toList,()):=by
 have hm:4294967296<many:=by simp only[many];omega
 rw[ALo,Wo]
 simp (disch:=omega) only[Bd,Al,AXf,Ag]
 have e:(((b-a-1)/2:Nat):Int)=(((b-a-1)/2+1:Nat):Int)-1:=by omega
 rw[e,ALp (b-a) a _ d many (by omega) (by omega) hs (by omega)]
 have e2:(((b-a-1:Nat)):Int)=((b-a:Nat):Int)-1:=by omega
 simp (disch:=omega) only[Al,e2]
 rw[AVY a (b-a) _ many (by rw[DM];omega) (by rw[DM];omega) (by omega)]
 rfl
end Go.Pev.Pl.SI
end
section
namespace Go.Pev.Pl.SI
open Go.Sort
theorem ATz:∀ (k i j:Nat) (d:Array Int) (n:Nat),j-i=k→(j<d.size)→d.size<4294967296→k<n →
  AQ PT n (d.toList,(i:Int),(j:Int),())=some (.inl ((reverseLoop i j d).toList,())):=by
 intro k
 induction k using Nat.strongRecOn with
 |_ k ih=>
 intro i j d n hk hj hs hn
 obtain⟨n,rfl⟩:∃ k,n=k+1:=⟨n-1,by omega⟩
 rw[reverseLoop,AQ,PT]
 simp only[AK]
 by_cases h:i<j
 ·have hi:i<d.size:=by omega
  simp only[h,Ad2,AeL,Ad hj,Ad hi,Ap hi,Ap hj,Cv]
  rw[Ad (by simpa using hj)]
  simp (disch:=omega) only[C2,AH,Al]
  exact ih (j-1-(i+1)) (by omega) (i+1) (j-1) _ n rfl (by rw[size_swp];omega) (by rw[size_swp];omega) (by omega)
 ·simp only[h,Ad8,Ad7]
theorem AXX(d:Array Int)(a b:Nat)(hab:a<b)(hb:b≤d.size)(hs:d.size<4294967296):AT0 (d.toList,(a:Int),(b:Int),())=some ((reverseRange d a b).toList,()):=by
 have hm:4294967296<many:=by simp only[many];omega
 rw[AR0,AFJ]
 simp (disch:=omega) only[Al,Ag]
 rw[ATz (b-1-a) a (b-1) d many rfl (by omega) hs (by omega)]
 rfl
theorem Dx{d:Array Int}{i j:Nat}(hi:i<d.size)(hj:j<d.size):idx (An d.toList (AE (i:Int)) (AN d.toList (AE (j:Int)) 0)) (j:Int)=some (d.setIfInBounds i d[j]!)[j]! ∧
  An (An d.toList (AE (i:Int)) (AN d.toList (AE (j:Int)) 0)) (AE (j:Int)) (AN d.toList (AE (i:Int)) 0)=(swp d i j).toList:=by
 rw[Ap hi,Ap hj,Cv,Cv]
 exact⟨Ad (by simpa using hj),rfl⟩
theorem AFB(step:List Int×Int×Int×Int×Unit→Option ((List Int×Int×Int×Int×Unit)⊕(List Int×Int×Int×Int×Unit)⊕Unit))(p:Int→Bool)(d:Array Int)(a j:Nat)(hs:d.size<4294967296)(hj:j<d.size)
  (h:∀ i:Nat,i≤d.size→step (d.toList,(a:Int),(i:Int),(j:Int),())=if i≤j∧p d[i]! then some (.inl (d.toList,(a:Int),((i+1:Nat):Int),(j:Int),()))else some (.inr (.inl (d.toList,(a:Int),(i:Int),(j:Int),())))) :
  ∀ (k i n:Nat),j+1-i=k→i≤d.size→k<n→AQ step n (d.toList,(a:Int),(i:Int),(j:Int),())=some (.inl (d.toList,(a:Int),((scanUp p d j i:Nat):Int),(j:Int),())):=by
 intro k
 induction k using Nat.strongRecOn with
 |_ k ih=>
 intro i n hk hi hn
 obtain⟨n,rfl⟩:∃ k,n=k+1:=⟨n-1,by omega⟩
 rw[scanUp,AQ,h i hi]
 by_cases h1:i≤j∧p d[i]! = true
 ·rw[Ad6 h1,Ad6 (by simpa using h1)]
  exact ih (j+1-(i+1)) (by omega) (i+1) n rfl (by omega) (by omega)
 ·rw[Ad3 h1,Ad3 (by simpa using h1)]
theorem Rb(step:List Int×Int×Int×Int×Unit→Option ((List Int×Int×Int×Int×Unit)⊕(List Int×Int×Int×Int×Unit)⊕Unit))(p:Int→Bool)(d:Array Int)(a i:Nat)(hi:1≤i)
  (h:∀ j:Nat,j<d.size→step (d.toList,(a:Int),(i:Int),(j:Int),())=if i≤j∧p d[j]! then some (.inl (d.toList,(a:Int),(i:Int),((j-1:Nat):Int),()))else some (.inr (.inl (d.toList,(a:Int),(i:Int),(j:Int),())))) :
  ∀ (j n:Nat),j<d.size→j<n→AQ step n (d.toList,(a:Int),(i:Int),(j:Int),())=some (.inl (d.toList,(a:Int),(i:Int),((scanDown p d i j:Nat):Int),())):=by
 intro j
 induction j with
 |zero=>
  intro n hj hn
  obtain⟨n,rfl⟩:∃ k,n=k+1:=⟨n-1,by omega⟩
  rw[AQ,h 0 hj,Ad3 (by omega)]
  rfl
 |succ j ih=>
  intro n hj hn
  obtain⟨n,rfl⟩:∃ k,n=k+1:=⟨n-1,by omega⟩
  rw[scanDown,AQ,h (j+1) hj]
  by_cases h1:i≤j+1∧p d[j+1]! = true
  ·rw[Ad6 h1,Ad6 (by simpa using h1)]
   exact ih n (by omega) (by omega)
  ·rw[Ad3 h1,Ad3 (by simpa using h1)]
section
variable (d:Array Int) (a i j:Nat) (hs:d.size<4294967296) (ha:a<d.size) (hj:j<d.size)
include hs ha hj
theorem AKg(hi:i≤d.size):Lg (d.toList,(a:Int),(i:Int),(j:Int),())=if i≤j∧(fun x=>ltInt x d[a]!) d[i]! = true then some (.inl (d.toList,(a:Int),((i+1:Nat):Int),(j:Int),()))else some (.inr (.inl (d.toList,(a:Int),(i:Int),(j:Int),()))):=by
 rw[Lg]
 simp only[Bm]
 by_cases h:i≤j
 ·have hi':i<d.size:=by omega
  simp (disch:=omega) only[h,Ad2,Ad,Ap,B0,AH,AfX]
  cases ltInt d[i]! d[a]!<;>simp
 ·simp only[h,Ad8,AfL,Ad7]
theorem AKb(hi:i≤d.size):Ld (d.toList,(a:Int),(i:Int),(j:Int),())=if i≤j∧(fun x=>ltInt x d[a]!) d[i]! = true then some (.inl (d.toList,(a:Int),((i+1:Nat):Int),(j:Int),()))else some (.inr (.inl (d.toList,(a:Int),(i:Int),(j:Int),()))):=by
 rw[Ld]
 simp only[Bm]
 by_cases h:i≤j
 ·have hi':i<d.size:=by omega
  simp (disch:=omega) only[h,Ad2,Ad,Ap,B0,AH,AfX]
  cases ltInt d[i]! d[a]!<;>simp
 ·simp only[h,Ad8,AfL,Ad7]
theorem AKe(hi:1≤i):Lf (d.toList,(a:Int),(i:Int),(j:Int),())=if i≤j∧(fun x => !ltInt x d[a]!) d[j]! = true then some (.inl (d.toList,(a:Int),(i:Int),((j-1:Nat):Int),()))else some (.inr (.inl (d.toList,(a:Int),(i:Int),(j:Int),()))):=by
 rw[Lf]
 simp only[Bm]
 by_cases h:i≤j
 ·simp (disch:=omega) only[h,Ad2,Ad,Ap,B0,Al,AfX]
  cases ltInt d[j]! d[a]!<;>simp
 ·simp only[h,Ad8,AfL,Ad7]
theorem AKZ(hi:1≤i):Lc (d.toList,(a:Int),(i:Int),(j:Int),())=if i≤j∧(fun x => !ltInt x d[a]!) d[j]! = true then some (.inl (d.toList,(a:Int),(i:Int),((j-1:Nat):Int),()))else some (.inr (.inl (d.toList,(a:Int),(i:Int),(j:Int),()))):=by
 rw[Lc]
 simp only[Bm]
 by_cases h:i≤j
 ·simp (disch:=omega) only[h,Ad2,Ad,Ap,B0,Al,AfX]
  cases ltInt d[j]! d[a]!<;>simp
 ·simp only[h,Ad8,AfL,Ad7]
theorem AB3(hi:i≤d.size):Hj (d.toList,(a:Int),(i:Int),(j:Int),())=if i≤j∧(fun x => !ltInt d[a]! x) d[i]! = true then some (.inl (d.toList,(a:Int),((i+1:Nat):Int),(j:Int),()))else some (.inr (.inl (d.toList,(a:Int),(i:Int),(j:Int),()))):=by
 rw[Hj]
 simp only[Bm]
 by_cases h:i≤j
 ·have hi':i<d.size:=by omega
  simp (disch:=omega) only[h,Ad2,Ad,Ap,B0,AH,AfX]
  cases ltInt d[a]! d[i]!<;>simp
 ·simp only[h,Ad8,AfL,Ad7]
theorem AB1(hi:1≤i):Hi (d.toList,(a:Int),(i:Int),(j:Int),())=if i≤j∧(fun x=>ltInt d[a]! x) d[j]! = true then some (.inl (d.toList,(a:Int),(i:Int),((j-1:Nat):Int),()))else some (.inr (.inl (d.toList,(a:Int),(i:Int),(j:Int),()))):=by
 rw[Hi]
 simp only[Bm]
 by_cases h:i≤j
 ·simp (disch:=omega) only[h,Ad2,Ad,Ap,B0,Al,AfX]
  cases ltInt d[a]! d[j]!<;>simp
 ·simp only[h,Ad8,AfL,Ad7]
end
theorem DN(p:Int→Bool)(d:Array Int)(j i:Nat)(hj:j<d.size)(hi:i≤d.size):scanUp p d j i≤d.size:=by
 suffices h:∀ (k i:Nat),j+1-i=k→i≤d.size→scanUp p d j i≤d.size from h _ i rfl hi
 intro k
 induction k using Nat.strongRecOn with
 |_ k ih=>
 intro i hk hi
 rw[scanUp]
 split
 ·rename_i h
  have:i≤j:=by simp at h;exact h.1
  exact ih (j+1-(i+1)) (by omega) (i+1) rfl (by omega)
 ·exact hi
theorem AOy(a:Nat):∀ (k i j:Nat) (d:Array Int) (n:Nat),j+1-i=k→a<d.size→1≤i→i≤d.size→j<d.size→d.size<4294967296→k<n →
  AQ Le n (d.toList,(a:Int),(i:Int),(j:Int),())=some (.inl ((partLoop ltInt a i j d).2.toList,(a:Int),(((partLoop ltInt a i j d).1:Nat):Int),()))∧(partLoop ltInt a i j d).1≤j∧(partLoop ltInt a i j d).2.size=d.size:=by
 intro k
 induction k using Nat.strongRecOn with
 |_ k ih=>
 intro i j d n hk ha hi hi' hj hs hn
 have hm:4294967296<many:=by simp only[many];omega
 obtain⟨n,rfl⟩:∃ k,n=k+1:=⟨n-1,by omega⟩
 rw[partLoop_eq,AQ,Le]
 have u1:=scanUp_ge (fun x=>ltInt x d[a]!) d j i
 have u2:=DN (fun x=>ltInt x d[a]!) d j i hj hi'
 rw[Ag,AFB _ (fun x=>ltInt x d[a]!) d a j hs hj (fun i h=>AKb d a i j hs ha hj h) _ i many rfl hi' (by omega)]
 generalize scanUp (fun x=>ltInt x d[a]!) d j i=i2 at *
 have v1:=scanDown_le (fun x => !ltInt x d[a]!) d i2 j
 simp only[Ag]
 rw[Rb _ (fun x => !ltInt x d[a]!) d a i2 (by omega) (fun j h=>AKZ d a i2 j hs ha h (by omega)) j many hj (by omega)]
 generalize scanDown (fun x => !ltInt x d[a]!) d i2 j=j2 at *
 simp only[AK]
 by_cases h:j2<i2
 ·simp only[h,Ad2,Afo,AeL]
  exact⟨trivial,v1,trivial⟩
 ·have hi2:i2<d.size:=by omega
  have hj2:j2<d.size:=by omega
  simp only[h,Ad8,Afo,Ad7,Ad hi2,Ad hj2,(Dx hi2 hj2).1,(Dx hi2 hj2).2]
  simp (disch:=omega) only[AH,Al]
  obtain⟨q1,q2,q3⟩:=ih (j2-1+1-(i2+1)) (by omega) (i2+1) (j2-1) (swp d i2 j2) n rfl (by rw[size_swp];omega) (by omega) (by rw[size_swp];omega) (by rw[size_swp];omega) (by rw[size_swp];omega) (by omega)
  exact⟨q1,by omega,by rw[q3,size_swp]⟩
theorem AUQ(d:Array Int)(a b p:Nat)(ha:a≤p)(hp:p<b)(hb:b≤d.size)(hs:d.size<4294967296):
  Ph (d.toList,(a:Int),(b:Int),(p:Int),())=some ((partition ltInt d a b p).2.2.toList,(((partition ltInt d a b p).1:Nat):Int),(partition ltInt d a b p).2.1,()):=by
 have hm:4294967296<many:=by simp only[many];omega
 have ha':a<d.size:=by omega
 have hp':p<d.size:=by omega
 rw[AKr,Wf,partition]
 simp only[Ad ha',Ad hp',(Dx ha' hp').1,(Dx ha' hp').2]
 have hs':=hs
 rw[← size_swp d a p]at ha' hs' hb
 generalize swp d a p=d at *
 simp (disch:=omega) only[AH,Al,Ag]
 have u1:=scanUp_ge (fun x=>ltInt x d[a]!) d (b-1) (a+1)
 have u2:=DN (fun x=>ltInt x d[a]!) d (b-1) (a+1) (by omega) (by omega)
 rw[AFB _ (fun x=>ltInt x d[a]!) d a (b-1) hs' (by omega) (fun i h=>AKg d a i (b-1) hs' ha' (by omega) h) _ (a+1) many rfl (by omega) (by omega)]
 generalize scanUp (fun x=>ltInt x d[a]!) d (b-1) (a+1)=i2 at *
 have v1:=scanDown_le (fun x => !ltInt x d[a]!) d i2 (b-1)
 simp only[]
 rw[Rb _ (fun x => !ltInt x d[a]!) d a i2 (by omega) (fun j h=>AKe d a i2 j hs' ha' h (by omega)) (b-1) many (by omega) (by omega)]
 generalize scanDown (fun x => !ltInt x d[a]!) d i2 (b-1)=j2 at *
 simp only[AK]
 have hj2:j2<d.size:=by omega
 by_cases h:j2<i2
 ·simp only[h,Ad2,Afo,AeL,Ad ha',Ad hj2,(Dx hj2 ha').1,(Dx hj2 ha').2]
 ·have hi2:i2<d.size:=by omega
  simp only[h,Ad8,Afo,Ad7,Ad hi2,Ad hj2,(Dx hi2 hj2).1,(Dx hi2 hj2).2]
  simp (disch:=omega) only[AH,Al]
  obtain⟨q1,q2,q3⟩:=AOy a (j2-1+1-(i2+1)) (i2+1) (j2-1) (swp d i2 j2) many rfl (by rw[size_swp];omega) (by omega) (by rw[size_swp];omega) (by rw[size_swp];omega) (by rw[size_swp];omega) (by omega)
  simp only[q1]
  rw[size_swp]at q3
  generalize partLoop ltInt a (i2+1) (j2-1) (swp d i2 j2)=r at *
  have h1:r.1<r.2.size:=by omega
  have h2:a<r.2.size:=by omega
  simp only[Ad h1,Ad h2,(Dx h1 h2).1,(Dx h1 h2).2]
theorem AF8(a:Nat):∀ (k i j:Nat) (d:Array Int) (n:Nat),j+1-i=k→a<d.size→1≤i→i≤d.size→j<d.size→d.size<4294967296→k<n →
  AQ Hk n (d.toList,(a:Int),(i:Int),(j:Int),())=some (.inl ((partEqLoop ltInt a i j d).2.toList,(((partEqLoop ltInt a i j d).1:Nat):Int),())):=by
 intro k
 induction k using Nat.strongRecOn with
 |_ k ih=>
 intro i j d n hk ha hi hi' hj hs hn
 have hm:4294967296<many:=by simp only[many];omega
 obtain⟨n,rfl⟩:∃ k,n=k+1:=⟨n-1,by omega⟩
 rw[partEqLoop_eq,AQ,Hk]
 have u1:=scanUp_ge (fun x => !ltInt d[a]! x) d j i
 have u2:=DN (fun x => !ltInt d[a]! x) d j i hj hi'
 rw[Ag,AFB _ (fun x => !ltInt d[a]! x) d a j hs hj (fun i h=>AB3 d a i j hs ha hj h) _ i many rfl hi' (by omega)]
 generalize scanUp (fun x => !ltInt d[a]! x) d j i=i2 at *
 have v1:=scanDown_le (fun x=>ltInt d[a]! x) d i2 j
 simp only[Ag]
 rw[Rb _ (fun x=>ltInt d[a]! x) d a i2 (by omega) (fun j h=>AB1 d a i2 j hs ha h (by omega)) j many hj (by omega)]
 generalize scanDown (fun x=>ltInt d[a]! x) d i2 j=j2 at *
 simp only[AK]
 by_cases h:j2<i2
 ·simp only[h,Ad2,Afo,AeL]
 ·have hi2:i2<d.size:=by omega
  have hj2:j2<d.size:=by omega
  simp only[h,Ad8,Afo,Ad7,Ad hi2,Ad hj2,(Dx hi2 hj2).1,(Dx hi2 hj2).2]
  simp (disch:=omega) only[AH,Al]
  exact ih (j2-1+1-(i2+1)) (by omega) (i2+1) (j2-1) (swp d i2 j2) n rfl (by rw[size_swp];omega) (by omega) (by rw[size_swp];omega) (by rw[size_swp];omega) (by rw[size_swp];omega) (by omega)
theorem AKx(d:Array Int)(a b p:Nat)(ha:a≤p)(hp:p<b)(hb:b≤d.size)(hs:d.size<4294967296):
  Mn (d.toList,(a:Int),(b:Int),(p:Int),())=some ((partitionEqual ltInt d a b p).2.toList,(((partitionEqual ltInt d a b p).1:Nat):Int),()):=by
 have hm:4294967296<many:=by simp only[many];omega
 have ha':a<d.size:=by omega
 have hp':p<d.size:=by omega
 rw[Y7,Mm,partitionEqual]
 simp only[Ad ha',Ad hp',(Dx ha' hp').1,(Dx ha' hp').2]
 have hs':=hs
 rw[← size_swp d a p]at ha' hs' hb
 generalize swp d a p=d at *
 simp (disch:=omega) only[AH,Al,Ag]
 rw[AF8 a _ (a+1) (b-1) d many rfl ha' (by omega) (by omega) (by omega) hs' (by omega)]
end Go.Pev.Pl.SI
end
section
namespace Go.Pev.Pl.SI
open Go.Sort
theorem Eu(d:Array Int)(b:Nat):∀ (k i:Nat),b-i=k→i≤b→i≤scanSorted ltInt d b i∧scanSorted ltInt d b i≤b:=by
 intro k
 induction k using Nat.strongRecOn with
 |_ k ih=>
 intro i hk hi
 rw[scanSorted]
 split
 ·rename_i h
  have:i<b:=by simp at h;exact h.1
  have:=ih (b-(i+1)) (by omega) (i+1) rfl (by omega)
  omega
 ·omega
theorem ABr(d:Array Int)(a b s:Nat)(hb:b≤d.size)(hs:d.size<4294967296):∀ (k i n:Nat),b-i=k→1≤i→i≤b→k<n →
  AQ GR n (d.toList,(a:Int),(b:Int),(i:Int),(s:Int),())=some (.inl (d.toList,(a:Int),(b:Int),((scanSorted ltInt d b i:Nat):Int),(s:Int),())):=by
 intro k
 induction k using Nat.strongRecOn with
 |_ k ih=>
 intro i n hk h1 hi hn
 obtain⟨n,rfl⟩:∃ k,n=k+1:=⟨n-1,by omega⟩
 rw[scanSorted,AQ,GR]
 simp only[AK]
 by_cases h:i<b
 ·have i0:i<d.size:=by omega
  have i1:i-1<d.size:=by omega
  simp (disch:=omega) only[h,Ad2,Al,AH,Ad,Ap,B0,AgF]
  cases h2:ltInt d[i]! d[i-1]!
  ·simp only[AeM,AeL]
   exact ih (b-(i+1)) (by omega) (i+1) n rfl (by omega) (by omega) (by omega)
  ·simp only[Ady,Ad4,Ad7]
 ·simp only[h,Ad8,Afg,Ad4,Ad7]
theorem ABt(a b i s:Nat):∀ (j:Nat) (d:Array Int) (n:Nat),j<d.size→d.size<4294967296→j<n →
  AQ Eh n (d.toList,(a:Int),(b:Int),(i:Int),(s:Int),(j:Int),())=some (.inl ((shiftDown ltInt j d).toList,(a:Int),(b:Int),(i:Int),(s:Int),())):=by
 intro j
 induction j with
 |zero=>
  intro d n hj hs hn
  obtain⟨n,rfl⟩:∃ k,n=k+1:=⟨n-1,by omega⟩
  rw[AQ,Eh,Aq,Adp (by omega)]
  rfl
 |succ j ih=>
  intro d n hj hs hn
  obtain⟨n,rfl⟩:∃ k,n=k+1:=⟨n-1,by omega⟩
  have hj':j<d.size:=by omega
  rw[shiftDown,AQ,Eh,Aq,Adq (by omega)]
  simp (disch:=omega) only[Al,Nat.add_sub_cancel,Ad,Ap,B0]
  cases h2:ltInt d[j+1]! d[j]!
  ·simp only[AeM,AeL]
  ·have e1:=Dx hj hj'
   simp only[Ap hj,Ap hj']at e1
   simp only[Ady,Ad4,Ad7,e1]
   exact ih _ n (by rw[size_swp];omega) (by rw[size_swp];omega) (by omega)
theorem T9(a b i s:Nat):∀ (k j:Nat) (d:Array Int) (n:Nat),b-j=k→1≤j→b≤d.size→d.size<4294967296→k<n →
  AQ Eg n (d.toList,(a:Int),(b:Int),(i:Int),(s:Int),(j:Int),())=some (.inl ((shiftUp ltInt b j d).toList,(a:Int),(b:Int),(i:Int),(s:Int),())):=by
 intro k
 induction k using Nat.strongRecOn with
 |_ k ih=>
 intro j d n hk h1 hb hs hn
 obtain⟨n,rfl⟩:∃ k,n=k+1:=⟨n-1,by omega⟩
 rw[shiftUp,AQ,Eg]
 simp only[AK]
 by_cases h:j<b
 ·have i0:j<d.size:=by omega
  have i1:j-1<d.size:=by omega
  simp (disch:=omega) only[h,Ad2,AeL,Al,AH,Ad,Ap,B0]
  cases h2:ltInt d[j]! d[j-1]!
  ·simp only[AeM,AeL]
  ·have e1:=Dx i0 i1
   simp only[Ap i0,Ap i1]at e1
   simp only[Ady,Ad4,Ad7,e1]
   exact ih (b-(j+1)) (by omega) (j+1) _ n rfl (by omega) (by rw[size_swp];omega) (by rw[size_swp];omega) (by omega)
 ·simp only[h,Ad8,Ad7]
theorem Ha:∀ (j:Nat) (d:Array Int),(shiftDown ltInt j d).size=d.size:=by
 intro j
 induction j with
 |zero=>intro d;rfl
 |succ j ih=>
  intro d
  rw[shiftDown]
  split
  ·rfl
  ·rw[ih,size_swp]
theorem B9(b:Nat):∀ (k j:Nat) (d:Array Int),b-j=k→(shiftUp ltInt b j d).size=d.size:=by
 intro k
 induction k using Nat.strongRecOn with
 |_ k ih=>
 intro j d hk
 rw[shiftUp]
 split
 ·split
  ·rfl
  ·rw[ih (b-(j+1)) (by omega) (j+1) _ rfl,size_swp]
 ·rfl
theorem ABs(a b:Nat)(hab:a<b):∀ (k i s:Nat) (d:Array Int) (n:Nat),s+k=5→a+1≤i→i≤b→b≤d.size→d.size<4294967296→k<n →
  AQ CP n (d.toList,(a:Int),(b:Int),(i:Int),(s:Int),())=some (.inl ((partialIns ltInt a b k i d).1.toList,(partialIns ltInt a b k i d).2,())) ∨
  ((partialIns ltInt a b k i d).2=false∧AQ CP n (d.toList,(a:Int),(b:Int),(i:Int),(s:Int),())=some (.inr (.inl ((partialIns ltInt a b k i d).1.toList,())))):=by
 intro k
 induction k with
 |zero=>
  intro i s d n hk h1 hi hb hs hn
  obtain⟨n,rfl⟩:∃ k,n=k+1:=⟨n-1,by omega⟩
  rw[AQ,CP,Am,Adp (by omega)]
  exact .inr ⟨rfl,rfl⟩
 |succ k ih=>
  intro i s d n hk h1 hi hb hs hn
  have hm:4294967296<many:=by simp only[many];omega
  have es:IntKind.wrap .i64 ((s:Int)+1)=((s+1:Nat):Int):=AH (by omega)
  obtain⟨n,rfl⟩:∃ k,n=k+1:=⟨n-1,by omega⟩
  rw[AQ,CP,Am,Adq (by omega),partialIns]
  simp only[Ag,ABr d a b s hb hs (b-i) i many rfl (by omega) hi (by omega)]
  have hsc:=Eu d b _ i rfl hi
  generalize scanSorted ltInt d b i=i2 at *
  simp only[QA]
  by_cases h2:i2=b
  ·simp only[h2,Ad2,AeL,true_or]
  ·simp (disch:=omega) only[h2,Ad8,Ad7,Bd,Am,Aq]
   by_cases h3:b-a<50
   ·rw[Ad6 h3,Adq (by omega)]
    exact .inl rfl
   ·have i0:i2<d.size:=by omega
    have i1:i2-1<d.size:=by omega
    rw[Ad3 h3,Adp (by omega)]
    simp (disch:=omega) only[Al,AH,Ad i0,Ad i1,(Dx i0 i1).1,(Dx i0 i1).2]
    have hsz:=size_swp d i2 (i2-1)
    generalize swp d i2 (i2-1)=d2 at *
    by_cases h4:i2-a≥2
    ·rw[Ad6 h4,Adq (show(2:Int)≤((i2-a:Nat):Int) by omega)]
     simp only[ABt a b i2 s (i2-1) d2 many (by omega) (by omega) (by omega)]
     have hsz2:=Ha (i2-1) d2
     generalize shiftDown ltInt (i2-1) d2=d3 at *
     simp (disch:=omega) only[Bd,AH]
     by_cases h5:b-i2≥2
     ·rw[Ad6 h5,Adq (show(2:Int)≤((b-i2:Nat):Int) by omega)]
      simp only[T9 a b i2 s _ (i2+1) d3 many rfl (by omega) (by omega) (by omega) (by omega)]
      simp only[es]
      exact ih i2 (s+1) (shiftUp ltInt b (i2+1) d3) n (by omega) (by omega) (by omega) (by rw[B9 b (b-(i2+1)) (i2+1) _ rfl];omega) (by rw[B9 b (b-(i2+1)) (i2+1) _ rfl];omega) (by omega)
     ·rw[Ad3 h5,Adp (show ¬ (2:Int)≤((b-i2:Nat):Int) by omega)]
      simp only[es]
      exact ih i2 (s+1) d3 n (by omega) (by omega) (by omega) (by omega) (by omega) (by omega)
    ·rw[Ad3 h4,Adp (show ¬ (2:Int)≤((i2-a:Nat):Int) by omega)]
     by_cases h5:b-i2≥2
     ·rw[Ad6 h5,Adq (show(2:Int)≤((b-i2:Nat):Int) by omega)]
      simp only[T9 a b i2 s _ (i2+1) d2 many rfl (by omega) (by omega) (by omega) (by omega)]
      simp only[es]
      exact ih i2 (s+1) (shiftUp ltInt b (i2+1) d2) n (by omega) (by omega) (by omega) (by rw[B9 b (b-(i2+1)) (i2+1) _ rfl];omega) (by rw[B9 b (b-(i2+1)) (i2+1) _ rfl];omega) (by omega)
     ·rw[Ad3 h5,Adp (show ¬ (2:Int)≤((b-i2:Nat):Int) by omega)]
      simp only[es]
      exact ih i2 (s+1) d2 n (by omega) (by omega) (by omega) (by omega) (by omega) (by omega)
theorem AFz(d:Array Int)(a b:Nat)(hab:a<b)(hb:b≤d.size)(hs:d.size<4294967296):
  JK (d.toList,(a:Int),(b:Int),())=some ((partialInsertionSort ltInt d a b).1.toList,(partialInsertionSort ltInt d a b).2,()):=by
 have hm:4294967296<many:=by simp only[many];omega
 rw[UJ,Jv,partialInsertionSort]
 simp (disch:=omega) only[AH,Ag]
 have h:=ABs a b hab 5 (a+1) 0 d many rfl (Ad5 _) (by omega) hb hs (by omega)
 rcases h with h|⟨h0,h⟩
 ·have h':AQ CP many (d.toList,(a:Int),(b:Int),((a+1:Nat):Int),(0:Int),())=_:=h
  rw[h']
 ·have h':AQ CP many (d.toList,(a:Int),(b:Int),((a+1:Nat):Int),(0:Int),())=_:=h
  rw[h',h0]
theorem Lh(d:Array Int)(a b:Nat)(s:Int)(ha:a<d.size)(hb:b<d.size):
  ∃ s' p q,J0 (d.toList,(a:Int),(b:Int),s,())=some (d.toList,s',((p:Nat):Int),((q:Nat):Int),())∧(p=a∧q=b∨p=b∧q=a):=by
 rw[Y9,Mq]
 simp only[Ad ha,Ad hb,Ap ha,Ap hb,B0]
 cases ltInt d[b]! d[a]!
 ·exact⟨_,a,b,rfl,.inl ⟨rfl,rfl⟩⟩
 ·exact⟨_,b,a,rfl,.inr ⟨rfl,rfl⟩⟩
theorem Lo(d:Array Int)(a b c:Nat)(s:Int)(ha:a<d.size)(hb:b<d.size)(hc:c<d.size):
  ∃ s' p,J7 (d.toList,(a:Int),(b:Int),(c:Int),s,())=some (d.toList,s',((p:Nat):Int),())∧(p=a∨p=b∨p=c):=by
 rw[ZH,Mw]
 obtain⟨s1,p1,q1,e1,h1⟩:=Lh d a b s ha hb
 simp only[e1]
 obtain⟨s2,p2,q2,e2,h2⟩:=Lh d q1 c s1 (by omega) hc
 simp only[e2]
 obtain⟨s3,p3,q3,e3,h3⟩:=Lh d p1 p2 s2 (by omega) (by omega)
 simp only[e3]
 exact⟨_,q3,rfl,by omega⟩
theorem Lq(d:Array Int)(a:Nat)(s:Int)(h1:1≤a)(ha:a+1<d.size)(hs:d.size<4294967296):
  ∃ s' p,J8 (d.toList,(a:Int),s,())=some (d.toList,s',((p:Nat):Int),())∧a≤p+1∧p≤a+1:=by
 rw[ZI,Mz]
 simp (disch:=omega) only[Al,AH]
 obtain⟨s1,p1,e1,h1⟩:=Lo d (a-1) a (a+1) s (by omega) (by omega) ha
 simp only[e1]
 exact⟨_,p1,rfl,by omega⟩
theorem AOe(d:Array Int)(a b:Nat)(hab:a+8≤b)(hb:b≤d.size)(hs:d.size<4294967296):
  ∃ p h,Rr (d.toList,(a:Int),(b:Int),())=some (d.toList,((p:Nat):Int),h,())∧a≤p∧p<b:=by
 rw[ADH,Pb]
 simp (disch:=omega) only[Bd,Tq,ACe,Ea,ACd,wrap_add,Aq]
 rw[Adq (show(8:Int)≤((b-a:Nat):Int) by omega)]
 simp only[]
 by_cases h:50≤b-a
 ·rw[Adq (show(50:Int)≤((b-a:Nat):Int) by omega)]
  simp only[]
  obtain⟨s1,p1,e1,h1⟩:=Lq d (a+(b-a)/4*1) 0 (by omega) (by omega) hs
  simp only[e1]
  obtain⟨s2,p2,e2,h2⟩:=Lq d (a+(b-a)/4*2) s1 (by omega) (by omega) hs
  simp only[e2]
  obtain⟨s3,p3,e3,h3⟩:=Lq d (a+(b-a)/4*3) s2 (by omega) (by omega) hs
  simp only[e3]
  obtain⟨s4,p4,e4,h4⟩:=Lo d p1 p2 p3 s3 (by omega) (by omega) (by omega)
  simp only[e4]
  cases ieq s4 0
  ·cases ieq s4 12
   ·exact⟨p4,_,rfl,by omega,by omega⟩
   ·exact⟨p4,_,rfl,by omega,by omega⟩
  ·exact⟨p4,_,rfl,by omega,by omega⟩
 ·rw[Adp (show ¬ (50:Int)≤((b-a:Nat):Int) by omega)]
  simp only[]
  obtain⟨s4,p4,e4,h4⟩:=Lo d (a+(b-a)/4*1) (a+(b-a)/4*2) (a+(b-a)/4*3) 0 (by omega) (by omega) (by omega)
  simp only[e4]
  cases ieq s4 0
  ·cases ieq s4 12
   ·exact⟨p4,_,rfl,by omega,by omega⟩
   ·exact⟨p4,_,rfl,by omega,by omega⟩
  ·exact⟨p4,_,rfl,by omega,by omega⟩
end Go.Pev.Pl.SI
end
section
namespace Go.Pev.Pl.SI
open Go.Sort
theorem AMj(a b:Nat)(m:Nat)(h8:a+8≤b)(hm1:1≤m)(hm:m≤2*(b-a)):∀ (k t:Nat) (d:Array Int) (r:Int) (n:Nat),t+k=3→b≤d.size→d.size<4294967296→k<n →
  ∃ d':Array Int,AQ Fy n (d.toList,(a:Int),((b-a:Nat):Int),r,(m:Int),((a+(b-a)/4*2-1+t:Nat):Int),())=some (.inl (d'.toList,()))∧PermIn a b d d':=by
 intro k
 induction k with
 |zero=>
  intro t d r n hk hb hs hn
  obtain⟨n,rfl⟩:∃ k,n=k+1:=⟨n-1,by omega⟩
  rw[AQ,Fy]
  simp (disch:=omega) only[Tq,Ea,wrap_add,AH,Bm]
  rw[Adp (by omega)]
  exact⟨d,rfl,permIn_refl d a b⟩
 |succ k ih=>
  intro t d r n hk hb hs hn
  obtain⟨n,rfl⟩:∃ k,n=k+1:=⟨n-1,by omega⟩
  rw[AQ,Fy]
  simp (disch:=omega) only[Tq,Ea,wrap_add,AH,Bm]
  rw[Adq (show a+(b-a)/4*2-1+t≤a+(b-a)/4*2+1 by omega)]
  obtain⟨r',y,e⟩:=Ti r
  obtain⟨o,e2,ho⟩:=AK0 y m hm1 (by omega)
  simp only[e,e2]
  rw[Af (n:=(o:Int)) (by omega)]
  simp only[Bm]
  have i0:a+(b-a)/4*2-1+t<d.size:=by omega
  have fin:∀ q:Nat,a≤q→q<b→∃ d':Array Int,AQ Fy n ((swp d (a+(b-a)/4*2-1+t) q).toList,(a:Int),((b-a:Nat):Int),r',(m:Int),((a+(b-a)/4*2-1+t+1:Nat):Int),())=some (.inl (d'.toList,()))∧PermIn a b d d':=by
   intro q hq1 hq2
   obtain⟨d',e',hp⟩:=ih (t+1) (swp d (a+(b-a)/4*2-1+t) q) r' n (by omega) (by rw[size_swp];omega) (by rw[size_swp];omega) (by omega)
   exact⟨d',e',permIn_trans _ _ _ a b (swp_permIn d a b _ q (by omega) (by omega) hq1 hq2 hb) hp⟩
  by_cases h:b-a≤o
  ·have i1:a+(o-(b-a))<d.size:=by omega
   simp (disch:=omega) only[h,Ad2,Bd,wrap_add,AH,Ad i0,Ad i1,(Dx i0 i1).1,(Dx i0 i1).2]
   exact fin _ (by omega) (by omega)
  ·have i1:a+o<d.size:=by omega
   simp (disch:=omega) only[h,Ad8,Bd,wrap_add,AH,Ad i0,Ad i1,(Dx i0 i1).1,(Dx i0 i1).2]
   exact fin _ (by omega) (by omega)
theorem ARK(d:Array Int)(a b:Nat)(hab:a≤b)(hb:b≤d.size)(hs:d.size<4294967296):
  ∃ d':Array Int,TG (d.toList,(a:Int),(b:Int),())=some (d'.toList,())∧PermIn a b d d':=by
 have hm:4294967296<many:=by simp only[many];omega
 rw[ADy,Qh]
 simp (disch:=omega) only[Bd,Aq]
 by_cases h:8≤b-a
 ·rw[Adq (show(8:Int)≤((b-a:Nat):Int) by omega)]
  obtain⟨m,e,h1,h2⟩:=UL (b-a) (by omega) (by omega)
  simp only[e]
  rw[u64_in (n:=((b-a:Nat):Int)) (by omega)]
  simp (disch:=omega) only[Tq,Ea,wrap_add,Al,Ag]
  obtain⟨d',e2,hp⟩:=AMj a b m (by omega) h1 h2 3 0 d ((b-a:Nat):Int) many rfl hb hs (by omega)
  rw[AfN]at e2
  simp only[e2]
  exact⟨d',rfl,hp⟩
 ·rw[Adp (show ¬ (8:Int)≤((b-a:Nat):Int) by omega)]
  exact⟨d,rfl,permIn_refl d a b⟩
end Go.Pev.Pl.SI
end
section
namespace Go.Pev.Pl.SI
open Go.Sort
abbrev AS3:=List Int×Int×Int×Int×Bool×Bool×Unit
abbrev G9:=AS3⊕(List Int×Unit)⊕Unit
noncomputable section
def Mk(self:(List Int×Int×Int×Int×Unit)→Option ((List Int×Unit)))(y7:List Int)(a1 a2 p l:Int)(a4 a5:Bool):Option G9:=
 match(ilt (0:Int) a1)with
 |true=>match idx y7 (IntKind.wrap .i64 (a1-(1:Int)))with
  |none=>none
  |some x9=>match idx y7 p with
   |none=>none
   |some x10=>match D4 ((AN y7 (AE (IntKind.wrap .i64 (a1-(1:Int)))) (0:Int)),(AN y7 (AE p) (0:Int)),())with
    |none=>none
    |some (y11,_)=>match(!y11)with
     |true=>match Mn (y7,a1,a2,p,())with
      |none=>none
      |some (y12,y13,_)=>some (.inl (y12,y13,a2,l,a4,a5,()))
     |false=>match Ph (y7,a1,a2,p,())with
      |none=>none
      |some (y14,y15,y16,_)=>match quo? .i64 (IntKind.wrap .i64 (a2-a1)) (8:Int)with
       |none=>none
       |some x17=>match(ilt (IntKind.wrap .i64 (y15-a1)) (IntKind.wrap .i64 (a2-y15)))with
        |true=>match self (y14,a1,y15,l,())with
         |none=>none
         |some (y18,_)=>some (.inl (y18,(IntKind.wrap .i64 (y15+(1:Int))),a2,l,(ile x17 (IntKind.wrap .i64 (y15-a1))),y16,()))
        |false=>match self (y14,(IntKind.wrap .i64 (y15+(1:Int))),a2,l,())with
         |none=>none
         |some (y19,_)=>some (.inl (y19,a1,y15,l,(ile x17 (IntKind.wrap .i64 (a2-y15))),y16,()))
 |false=>match Ph (y7,a1,a2,p,())with
  |none=>none
  |some (y20,y21,y22,_)=>match quo? .i64 (IntKind.wrap .i64 (a2-a1)) (8:Int)with
   |none=>none
   |some x23=>match(ilt (IntKind.wrap .i64 (y21-a1)) (IntKind.wrap .i64 (a2-y21)))with
    |true=>match self (y20,a1,y21,l,())with
     |none=>none
     |some (y24,_)=>some (.inl (y24,(IntKind.wrap .i64 (y21+(1:Int))),a2,l,(ile x23 (IntKind.wrap .i64 (y21-a1))),y22,()))
    |false=>match self (y20,(IntKind.wrap .i64 (y21+(1:Int))),a2,l,())with
     |none=>none
     |some (y25,_)=>some (.inl (y25,a1,y21,l,(ile x23 (IntKind.wrap .i64 (a2-y21))),y22,()))
def AFu(self:(List Int×Int×Int×Int×Unit)→Option ((List Int×Unit)))(y6:List Int)(a1 a2 p h l:Int)(a4 a5:Bool):Option G9:=
 match a4 with
 |true=>match a5 with
  |true=>match(ieq h (1:Int))with
   |true=>match JK (y6,a1,a2,())with
    |none=>none
    |some (y7,y8,_)=>match y8 with
     |true=>some (.inr (.inl (y7,())))
     |false=>Mk self y7 a1 a2 p l a4 a5
   |false=>Mk self y6 a1 a2 p l a4 a5
  |false=>Mk self y6 a1 a2 p l a4 a5
 |false=>Mk self y6 a1 a2 p l a4 a5
def AFm(self:(List Int×Int×Int×Int×Unit)→Option ((List Int×Unit)))(y2:List Int)(a1 a2 l:Int)(a4 a5:Bool):Option G9:=
 match Rr (y2,a1,a2,())with
 |none=>none
 |some (y3,y4,y5,_)=>match(ieq y5 (2:Int))with
  |true=>match AT0 (y3,a1,a2,())with
   |none=>none
   |some (y6,_)=>AFu self y6 a1 a2 (IntKind.wrap .i64 ((IntKind.wrap .i64 (a2-(1:Int)))-(IntKind.wrap .i64 (y4-a1)))) 1 l a4 a5
  |false=>AFu self y3 a1 a2 y4 y5 l a4 a5
def AJv(self:(List Int×Int×Int×Int×Unit)→Option ((List Int×Unit))):AS3→Option G9:=fun(a0,a1,a2,a3,a4,a5,_)=>
 match(ile (IntKind.wrap .i64 (a2-a1)) (12:Int))with
 |true=>match AVL (a0,a1,a2,())with
  |none=>none
  |some (y0,_)=>some (.inr (.inl (y0,())))
 |false=>match(ieq a3 (0:Int))with
  |true=>match ADh (a0,a1,a2,())with
   |none=>none
   |some (y1,_)=>some (.inr (.inl (y1,())))
  |false=>match(!a4)with
   |true=>match TG (a0,a1,a2,())with
    |none=>none
    |some (y2,_)=>AFm self y2 a1 a2 (IntKind.wrap .i64 (a3-(1:Int))) a4 a5
   |false=>AFm self a0 a1 a2 a3 a4 a5
theorem ABo:Ml=AJv:=rfl
end
def IG(d:Array Int)(a b:Nat):G9→Prop
 |.inl (xs,x,y,l,_,_,_)=>∃ (e:Array Int) (i j:Nat),xs=e.toList∧x=(i:Int)∧y=(j:Int)∧0≤l∧l≤100∧i≤j∧j≤e.size∧e.size=d.size∧j-i<b-a∧Below ltInt i j e ∧
   ∀ R,PermIn i j e R→SortedIn ltInt i j R→PermIn a b d R∧SortedIn ltInt a b R
 |.inr (.inl (xs,_))=>∃ R:Array Int,xs=R.toList∧PermIn a b d R∧SortedIn ltInt a b R
 |.inr (.inr _)=>False
def Bj(self:(List Int×Int×Int×Int×Unit)→Option ((List Int×Unit)))(m:Nat):Prop:=
 ∀ (d:Array Int) (a b:Nat) (l:Int),a≤b→b≤d.size→d.size<4294967296→0≤l→l≤100→Below ltInt a b d→2*(b-a)<m →
  ∃ R:Array Int,self (d.toList,(a:Int),(b:Int),l,())=some (R.toList,())∧PermIn a b d R∧SortedIn ltInt a b R
section
variable {self:(List Int×Int×Int×Int×Unit)→Option ((List Int×Unit))} {d:Array Int} {a b:Nat} {l:Int}
theorem LW(hself:Bj self (b-a))(hb:b≤d.size)(hs:d.size<4294967296)(hl:0≤l∧l≤100)
  {d3:Array Int} {p:Nat} (P3:PermIn a b d d3) (B3:Below ltInt a b d3) (hp1:a≤p) (hp2:p<b) :
  ∃ o,(match Ph (d3.toList,(a:Int),(b:Int),(p:Int),())with
  |none=>none
  |some (y20,y21,y22,_)=>match quo? .i64 (IntKind.wrap .i64 ((b:Int)-(a:Int))) (8:Int)with
   |none=>none
   |some x23=>match(ilt (IntKind.wrap .i64 (y21-(a:Int))) (IntKind.wrap .i64 ((b:Int)-y21)))with
    |true=>match self (y20,(a:Int),y21,l,())with
     |none=>none
     |some (y24,_)=>some ((.inl (y24,(IntKind.wrap .i64 (y21+(1:Int))),(b:Int),l,(ile x23 (IntKind.wrap .i64 (y21-(a:Int)))),y22,())):G9)
    |false=>match self (y20,(IntKind.wrap .i64 (y21+(1:Int))),(b:Int),l,())with
     |none=>none
     |some (y25,_)=>some (.inl (y25,(a:Int),y21,l,(ile x23 (IntKind.wrap .i64 ((b:Int)-y21))),y22,())))=some o∧IG d a b o:=by
 have b3:b≤d3.size:=by rw[P3.1];exact hb
 have s3:d3.size<4294967296:=by rw[P3.1];exact hs
 rw[AUQ d3 a b p hp1 hp2 b3 s3]
 rcases hx:partition ltInt d3 a b p with⟨mid,ap,d4⟩
 obtain⟨g1,g2,hs4,hBa,hBr,hleft,hright⟩:=round_part swo_ltInt (partition_holds _) hp1 hp2 b3 B3 hx
 simp (disch:=omega) only[Bd,AH,AcV,AK]
 have b4:b≤d4.size:=by omega
 by_cases h:mid-a<b-mid
 ·obtain⟨L,e,l1,l2⟩:=hself d4 a mid l g1 (by omega) (by omega) hl.1 hl.2 hBa (by omega)
  simp only[h,Ad2,e]
  obtain⟨hBL,hfin⟩:=hleft _ l1 l2
  refine⟨_,rfl,L,mid+1,b,rfl,rfl,rfl,hl.1,hl.2,by omega,by rw[l1.1];exact b4,by rw[l1.1,hs4,P3.1],by omega,hBL,fun R r1 r2 => ?_⟩
  obtain⟨q1,q2⟩:=hfin R r1 r2
  exact⟨permIn_trans _ _ _ a b P3 q1,q2⟩
 ·obtain⟨L,e,l1,l2⟩:=hself d4 (mid+1) b l (by omega) (by omega) (by omega) hl.1 hl.2 hBr (by omega)
  simp only[h,Ad8,e]
  obtain⟨hBL,hfin⟩:=hright _ l1 l2
  refine⟨_,rfl,L,a,mid,rfl,rfl,rfl,hl.1,hl.2,by omega,by rw[l1.1];omega,by rw[l1.1,hs4,P3.1],by omega,hBL,fun R r1 r2 => ?_⟩
  obtain⟨q1,q2⟩:=hfin R r1 r2
  exact⟨permIn_trans _ _ _ a b P3 q1,q2⟩
theorem Ex(hself:Bj self (b-a))(hb:b≤d.size)(hs:d.size<4294967296)(hl:0≤l∧l≤100)
  {d3:Array Int} {p:Nat} (wb wp:Bool) (P3:PermIn a b d d3) (B3:Below ltInt a b d3) (hp1:a≤p) (hp2:p<b) :
  ∃ o,Mk self d3.toList (a:Int) (b:Int) (p:Int) l wb wp=some o∧IG d a b o:=by
 have b3:b≤d3.size:=by rw[P3.1];exact hb
 have s3:d3.size<4294967296:=by rw[P3.1];exact hs
 rw[Mk,Am]
 by_cases h0:0<a
 ·rw[Adq (by omega)]
  have i0:a-1<d3.size:=by omega
  have i1:p<d3.size:=by omega
  simp (disch:=omega) only[Al,Ad,Ap,B0]
  cases hc:ltInt d3[a-1]! d3[p]!
  ·simp only[AeM]
   rw[AKx d3 a b p hp1 hp2 b3 s3]
   rcases hx:partitionEqual ltInt d3 a b p with⟨mid,d4⟩
   obtain⟨hm1,hm2,hs4,hB4,hfin⟩:=round_eq swo_ltInt (partitionEqual_holds _) h0 hp1 hp2 b3 B3 hc hx
   refine⟨_,rfl,d4,mid,b,rfl,rfl,rfl,hl.1,hl.2,by omega,by omega,by rw[hs4,P3.1],by omega,hB4,fun R r1 r2 => ?_⟩
   obtain⟨q1,q2⟩:=hfin R r1 r2
   exact⟨permIn_trans _ _ _ a b P3 q1,q2⟩
  ·simp only[Ady]
   exact LW hself hb hs hl P3 B3 hp1 hp2
 ·rw[Adp (by omega)]
  exact LW hself hb hs hl P3 B3 hp1 hp2
theorem Pe(hself:Bj self (b-a))(hab:a<b)(hb:b≤d.size)(hs:d.size<4294967296)(hl:0≤l∧l≤100)
  {d3:Array Int} {p:Nat} (h:Int) (wb wp:Bool) (P3:PermIn a b d d3) (B3:Below ltInt a b d3) (hp1:a≤p) (hp2:p<b) :
  ∃ o,AFu self d3.toList (a:Int) (b:Int) (p:Int) h l wb wp=some o∧IG d a b o:=by
 have b3:b≤d3.size:=by rw[P3.1];exact hb
 have s3:d3.size<4294967296:=by rw[P3.1];exact hs
 unfold AFu
 cases wb
 ·exact Ex hself hb hs hl _ _ P3 B3 hp1 hp2
 ·cases wp
  ·exact Ex hself hb hs hl _ _ P3 B3 hp1 hp2
  ·simp only[]
   cases ieq h 1
   ·exact Ex hself hb hs hl _ _ P3 B3 hp1 hp2
   ·simp only[]
    rw[AFz d3 a b hab b3 s3]
    obtain⟨q1,q2⟩:=partialInsertionSort_holds (lt:=ltInt) swo_ltInt d3 a b hab b3 B3
    rcases hx:partialInsertionSort ltInt d3 a b with⟨d4,fin⟩
    rw[hx]at q1 q2
    have P4:PermIn a b d d4:=permIn_trans _ _ _ a b P3 q1
    cases fin
    ·exact Ex hself hb hs hl _ _ P4 (B3.perm b3 q1) hp1 hp2
    ·exact⟨_,rfl,d4,rfl,P4,q2 rfl⟩
theorem Pd(hself:Bj self (b-a))(hab:a+8≤b)(hb:b≤d.size)(hs:d.size<4294967296)(hl:0≤l∧l≤100)
  {d3:Array Int} (wb wp:Bool) (P3:PermIn a b d d3) (B3:Below ltInt a b d3) :
  ∃ o,AFm self d3.toList (a:Int) (b:Int) l wb wp=some o∧IG d a b o:=by
 have b3:b≤d3.size:=by rw[P3.1];exact hb
 have s3:d3.size<4294967296:=by rw[P3.1];exact hs
 rw[AFm]
 obtain⟨p,h,e,hp1,hp2⟩:=AOe d3 a b hab b3 s3
 simp only[e]
 cases ieq h 2
 ·exact Pe hself (by omega) hb hs hl h _ _ P3 B3 hp1 hp2
 ·simp only[AXX d3 a b (by omega) b3 s3]
  have q1:=reverseRange_holds (α:=Int) d3 a b (by omega) b3
  simp (disch:=omega) only[Al,Bd]
  exact Pe hself (by omega) hb hs hl 1 _ _ (permIn_trans _ _ _ a b P3 q1) (B3.perm b3 q1) (by omega) (by omega)
theorem Ru(hself:Bj self (b-a))(hab:a≤b)(hb:b≤d.size)(hs:d.size<4294967296)(hl:0≤l∧l≤100)(wb wp:Bool)(B:Below ltInt a b d):
  ∃ o,Ml self (d.toList,(a:Int),(b:Int),l,wb,wp,())=some o∧IG d a b o:=by
 rw[ABo,AJv]
 simp (disch:=omega) only[Bd,Aq,D0]
 by_cases h12:b-a≤12
 ·rw[Adq (show((b-a:Nat):Int)≤12 by omega)]
  simp only[AZC d a b hab hb hs]
  obtain⟨q1,q2⟩:=insertionSort_holds (lt:=ltInt) swo_ltInt d a b hab hb
  exact⟨_,rfl,_,rfl,q1,q2⟩
 ·rw[Adp (show ¬ ((b-a:Nat):Int)≤12 by omega)]
  simp only[]
  by_cases h0:l=0
  ·subst h0
   simp only[BEq.rfl,AVX d a b (by omega) hb hs]
   obtain⟨q1,q2⟩:=heapSort_holds (lt:=ltInt) swo_ltInt d a b hab hb
   exact⟨_,rfl,_,rfl,q1,q2⟩
  ·rw[show(l==0)=false by simpa using h0]
   simp only[]
   cases wb
   ·obtain⟨d',e,q1⟩:=ARK d a b hab hb hs
    simp only[AeM,e]
    rw[Af (by omega)]
    exact Pd hself (by omega) hb hs (by omega) _ _ q1 (B.perm hb q1)
   ·simp only[Ady]
    exact Pd hself (by omega) hb hs hl _ _ (permIn_refl d a b) B
end
theorem LX{self:(List Int×Int×Int×Int×Unit)→Option ((List Int×Unit))}{m:Nat}(hself:Bj self m):∀ (k:Nat) (d:Array Int) (a b:Nat) (l:Int) (wb wp:Bool) (n:Nat),b-a=k→k≤m→a≤b→b≤d.size→d.size<4294967296→0≤l→l≤100→Below ltInt a b d→k<n →
  ∃ R:Array Int,AQ (Ml self) n (d.toList,(a:Int),(b:Int),l,wb,wp,())=some (.inl (R.toList,()))∧PermIn a b d R∧SortedIn ltInt a b R:=by
 intro k
 induction k using Nat.strongRecOn with
 |_ k ih=>
 intro d a b l wb wp n hk hm hab hb hs hl1 hl2 B hn
 obtain⟨n,rfl⟩:∃ k,n=k+1:=⟨n-1,by omega⟩
 have hself':Bj self (b-a):=fun d a' b' l h1 h2 h3 h4 h5 h6 h7=>hself d a' b' l h1 h2 h3 h4 h5 h6 (by omega)
 obtain⟨o,e,ho⟩:=Ru hself' hab hb hs ⟨hl1,hl2⟩ wb wp B
 rw[AQ,e]
 match o,ho with
 |.inl (xs,x,y,l',wb',wp',_),ho=>
  obtain⟨e',i,j,rfl,rfl,rfl,g1,g2,g3,g4,g5,g6,g7,hfin⟩:=ho
  obtain⟨R,e2,r1,r2⟩:=ih (j-i) (by omega) e' i j l' wb' wp' n rfl (by omega) g3 g4 (by omega) g1 g2 g7 (by omega)
  exact⟨R,e2,hfin R r1 r2⟩
 |.inr (.inl (xs,_)),ho=>
  obtain⟨R,rfl,r1,r2⟩:=ho
  exact⟨R,rfl,r1,r2⟩
theorem Rv:∀ k:Nat,Bj (Hh (k+1)) (2 ^ k):=by
 intro k
 have hmany:4294967296<many:=by simp only[many];omega
 induction k with
 |zero=>
  intro d a b l h1 h2 h3 h4 h5 h6 h7
  have:Bj (Hh 0) 0:=fun _ _ _ _ _ _ _ _ _ _ h=>by omega
  obtain⟨R,e,r1,r2⟩:=LX this (b-a) d a b l true true many rfl (by omega) h1 h2 h3 h4 h5 h6 (by omega)
  refine⟨R,?_,r1,r2⟩
  rw[Hh,AFp]
  simp only[Ag,e]
 |succ k ih=>
  intro d a b l h1 h2 h3 h4 h5 h6 h7
  have hp:2 ^ (k+1)=2*2 ^ k:=by rw[Nat.pow_succ];omega
  obtain⟨R,e,r1,r2⟩:=LX ih (b-a) d a b l true true many rfl (by omega) h1 h2 h3 h4 h5 h6 (by omega)
  refine⟨R,?_,r1,r2⟩
  rw[Hh,AFp]
  simp only[Ag,e]
def sorted(xs:List Int):List Int:=xs.mergeSort (fun x y=>decide (x≤y))
theorem ATd{d d':Array Int}(h1:PermIn 0 d.size d d')(h2:SortedIn ltInt 0 d.size d'):d'.toList=sorted d.toList:=by
 have h:=sorted_unique_holds (lt:=ltInt) swo_ltInt (fun x y h1 h2=>by simp[ltInt]at h1 h2;omega) d d' h1 h2
 rw[h,sorted]
 congr
 funext x y
 by_cases h:x≤y
 ·simp[ltInt,h,Int.not_lt.2 h]
 ·simp[ltInt,h,Int.not_le.1 h]
theorem ATf(xs:List Int)(h:xs.length<4294967296):AI7 (xs,())=some (sorted xs,()):=by
 obtain⟨d,rfl⟩:∃ d:Array Int,xs=d.toList:=⟨xs.toArray,rfl⟩
 rw[AeE]at h
 rw[AI6,WV]
 rw[AHT,u64_in (by omega)]
 obtain⟨v,e,hv,_⟩:=MO d.size h
 simp only[e]
 obtain⟨R,e2,r1,r2⟩:=Rv 99 d 0 d.size (v:Int) (by omega) (by omega) h (by omega) (by omega) (.inl rfl) (by
  have:2 ^ 99=633825300114114700748351602688:=by decide
  omega)
 have e3:AUI (d.toList,(0:Int),(d.size:Int),(v:Int),())=some (R.toList,()):=by rw[ASC];exact e2
 simp only[e3,ATd r1 r2]
end Go.Pev.Pl.SI
end
section
namespace Go.Pev.Pl
open Tok
theorem AHF{a o:List Int}{m k:Nat}(h:a.drop m=o.drop m)(hk:m≤k):a.getD k 0=o.getD k 0:=by
 have:=AfK (fun l=>l.getD (k-m) 0) h
 simp only[Ads,Aet]at this
 rw[Nat.add_sub_cancel' hk]at this
 simpa [Ads]using this
theorem LI{xs:List Int}{i:Nat}(h:i<xs.length):xs.take (i+1)=xs.take i++[xs.getD i 0]:=by
 rw[AfC h];simp[h]
theorem AZw(o:List Int)(n:Int)(rings:List (List Int))(hs:o.length<4294967296):∀ (k j w:Nat) (a:List Int) (cnt:Nat),j+k=o.length→a.length=o.length→w=(Dm n (o.take j)).length→a.take w=Dm n (o.take j)→w<j→a.drop j=o.drop j→k<cnt →
  ∃ a':List Int,AQ CM cnt (a,n,rings,(w:Int),(j:Int),())=some (.inl (a',n,rings,(((Dm n o).length:Nat):Int),()))∧a'.length=o.length∧a'.take (Dm n o).length=Dm n o:=by
 intro k
 induction k with
 |zero=>
  intro j w a cnt hk hl hw hq hwj hd hn
  obtain⟨cnt,rfl⟩:∃ k,cnt=k+1:=⟨cnt-1,by omega⟩
  have e:j=o.length:=by omega
  subst e
  rw[AfR]at hw hq
  rw[AQ,CM,AO,AK,Adp (by omega)]
  exact⟨a,by rw[hw],hl,by rw[← hw];exact hq⟩
 |succ k ih=>
  intro j w a cnt hk hl hw hq hwj hd hn
  obtain⟨cnt,rfl⟩:∃ k,cnt=k+1:=⟨cnt-1,by omega⟩
  have g1:a.getD j 0=o.getD j 0:=AHF hd (Ad5 _)
  have hdd:a.drop (j+1)=o.drop (j+1):=by
   have:=AfK (List.drop 1) hd
   simpa only[Afd]using this
  have hst:Dm n (o.take (j+1))=Dm n (o.take j)++if n≤o.getD j 0 then []else [o.getD j 0]:=by
   rw[LI (by omega),Dm,AfQ]
   generalize o.getD j 0=v
   by_cases h:n≤v<;>simp[Dm,h]
  rw[AQ,CM,AO,AK,Adq (by omega)]
  simp (disch:=omega) only[Ch (0:Int),Fv,AHS,g1,Aq,AH]
  by_cases h:n≤o.getD j 0
  ·rw[Adq h]
   rw[Ad6 h,AfH]at hst
   exact ih (j+1) w a cnt (by omega) hl (by rw[hst];exact hw) (by rw[hst];exact hq) (by omega) hdd (by omega)
  ·rw[Adp h]
   rw[Ad3 h]at hst
   refine ih (j+1) (w+1) (a.set w (o.getD j 0)) cnt (by omega) (by simp[hl]) (by rw[hst];simp[hw]) ?_ (by omega) ?_ (by omega)
   ·rw[hst,← hq,AfC (by simp;omega)]
    simp[List.take_set_of_le]
   ·rw[List.drop_set_of_lt (by omega)]
    exact hdd
theorem ADV{n:Int}{o:List Int}(h:∀ j,j<o.length→decide (n≤o.getD j 0)=false):Dm n o=o:=by
 rw[Dm,Afv]
 intro x hx
 obtain⟨j,hj,e⟩:=Aer hx
 have:=h j hj
 simp only[Ads,Adw hj,AeR,e]at this
 simp only[this,AeM]
theorem AcB(o:List Int)(n:Int)(rings:List (List Int))(hs:o.length<4294967296):
  ∃ a:List Int,FE (o,n,rings,())=some (a,n,rings,(((Dm n o).length:Nat):Int),())∧a.take (Dm n o).length=Dm n o:=by
 have hm:4294967296<many:=by simp only[many];omega
 rw[K5,FD,Ky,E7]
 simp only[AO]
 rcases AC0 (step:=Bk) (fun i=>(o,n,rings,(o.length:Int),(i:Int),())) o.length (fun i=>decide (n≤o.getD i 0)) (fun i=>.inl (o,n,rings,(i:Int),())) (.inr (.inl (o,n,rings,()))) (by omega)
   (fun i hi=>by
    rw[Bk]
    simp (disch:=omega) only[AK,hi,Ad2,Ch (0:Int),Fv,Aq,AH]
    cases decide (n≤o.getD i 0)<;>rfl) (by rw[Bk];simp only[AK,Nat.lt_irrefl,Ad8])with⟨k,hk,hP,hF,e⟩|⟨hP,e⟩
 ·have e':AT Bk many (o,n,rings,(o.length:Int),(0:Int),())=_:=e
  have h0:Dm n (o.take k)=o.take k:=ADV fun j hj=>by
   rw[AeD]at hj
   have:=hF j (by omega)
   rw[show(o.take k).getD j 0=o.getD j 0 by simp[Ads,List.getElem?_take_of_lt (show j<k by omega)]]
   exact this
  have h1:Dm n (o.take (k+1))=o.take k:=by
   rw[LI hk,Dm,AfQ]
   have:(List.filter (fun t => !decide (n≤t)) [o.getD k 0])=[]:=by
    generalize o.getD k 0=v at *
    simp at hP
    simp[hP]
   rw[this,AfH]
   exact h0
  obtain⟨a',e2,e3,e4⟩:=AZw o n rings hs (o.length-(k+1)) (k+1) k o many (by omega) rfl (by rw[h1,AeD];omega) (by rw[h1]) (by omega) rfl (by omega)
  have hle:(Dm n o).length≤o.length:=Af1 _ _
  have hcl:(Bh (Dm n o).length (a'.length-(Dm n o).length) 0 a').length=a'.length:=by
   simp[Bh];omega
  have s0:CH (Bh (Dm n o).length (a'.length-(Dm n o).length) 0 a') (0:Int) (((Dm n o).length:Nat):Int)=some _:=RV (l:=0) (by omega) (by omega)
  simp only[e',D0]
  rw[show((k:Int) == -1)=false from beq_false_of_ne (by omega),AH (by omega)]
  simp only[Ag,e2]
  rw[RV (by omega) (by omega)]
  simp only[AfR,AeY,KP,s0]
  refine⟨Bh (Dm n o).length (a'.length-(Dm n o).length) 0 a',?_,?_⟩
  ·simp only[AeD,Nat.sub_zero]
   rw[Aew (by omega)]
  ·rw[Bh,List.take_append_of_le_length (by simp;omega),Afx,Nat.min_self]
   exact e4
 ·have e':AT Bk many (o,n,rings,(o.length:Int),(0:Int),())=_:=e
  have h0:=ADV hP
  simp only[e',D0]
  exact⟨o,by rw[h0];rfl,by rw[h0,AfR]⟩
theorem AI4{n:Int}{A:List Int}(h:RG n A):SI.sorted (Dm n A)=Nf n A:=by
 have hp:(SI.sorted (Dm n A)).Perm (Dm n A):=List.mergeSort_perm _ _
 have hpv:=AU1 h
 have hs:(SI.sorted (Dm n A)).Pairwise (·≤·):=by
  have:=List.pairwise_mergeSort (le:=fun x y:Int=>decide (x≤y)) (fun a b c h1 h2=>by simp at *;omega) (fun a b=>by simp;omega) (Dm n A)
  exact this.imp fun h=>by simpa using h
 exact List.Perm.eq_of_pairwise (le:=fun a b:Int=>a≤b) (fun a b _ _ h1 h2=>by omega) hs ((AIW n A).imp fun h=>by omega) (hp.trans hpv)
theorem AHH{n:Int}{rings:List (List Int)}{i:Nat}{A:List Int}{v:Int}(h:FR n rings)(iv:In n v)(hi:rings[i]? = some A)(hv:v∈A):Hz ((n,(rings,())),v,())=some (Nf n A,0,()):=by
 have hD:=h.dom
 have hRF:=Ka.2 h
 have gA:=h.rg A (Ad9 hi)
 have hl:=gA.1.1
 rw[UU,KK]
 have ht:KJ ((n,(rings,())),[v],())=some (0,()):=by
  rw[Of n rings _ hD (by simp),AH1]
  simp[hRF,iv]
 obtain⟨a,e1,e2⟩:=AcB A n rings (by omega)
 simp only[ht,Lx,Ady,AaZ n rings v hD,hRF,iv,AgU,AeL,h.YH hi iv.2.2.2 hv,Ah hi,ARB (show A.length≤4294967296 by omega),e1,Bo,KP,e2]
 have hle:(Dm n A).length≤A.length:=Af1 _ _
 rw[SI.ATf _ (by omega),AI4 gA]
theorem AM1{N:Nat}{rings:List (List Int)}{l:List Edge}(h:FC (N:Int) rings l){i:Nat}{A:List Int}{v:Int}(iv:In (N:Int) v)(hi:rings[i]? = some A)(hv:v∈A):Nf (N:Int) A=EO N l v:=by
 have hA:=Ad9 hi
 obtain⟨s1,s2⟩:=h.fr.sz
 unfold Nf EO
 rw[Aeo,List.filter_map]
 congr 1
 refine Agk fun w hw => ?_
 rw[Aen]at hw
 have iw:In (N:Int) (w:Int):=⟨s1,s2,by omega,by omega⟩
 show decide ((w:Int)∈A)=Ds l v (w:Int)
 rw[Aex,AeS,BN,← h.sam v (w:Int) iv iw]
 constructor
 ·intro hm
  exact⟨A,hA,hv,hm⟩
 ·rintro⟨B,hB,h1,h2⟩
  rw[h.fr.one hA hB iv.2.2.2 hv h1]
  exact h2
theorem FC.members{N:Nat}{rings:List (List Int)}{l:List Edge}(h:FC (N:Int) rings l){v:Int}(iv:In (N:Int) v):Hz (((N:Int),(rings,())),v,())=some (EO N l v,0,()):=by
 obtain⟨i,A,_,hi,hv,_⟩:=LS (h.fr.cov v iv)
 rw[AHH h.fr iv hi hv,AM1 h iv hi hv]
theorem AOj{n:Int}{ts:List Tie}(u v:Int)(hr:Gl ((n,(ts,())),())=some (false,())):OE ((n,(ts,())),u,v,())=some (0,1,()):=by
 rw[Rs,LV]
 simp only[hr,AeM]
theorem YV{N:Nat}{ts:List Tie}(h:RG2 N ts)(u v:Int):OE (((N:Int),(ts,())),u,v,())=some (if InV N u∧InV N v then(if ts.any (CA u v)=true then((ts.findIdx (CA u v):Nat):Int)else 0)else 0,if InV N u∧InV N v then(if ts.any (CA u v)=true then 0 else 6)else 10,()):=by
 rw[Rs,LV]
 simp only[h.lr,Ady,M9,P9,Am,Aq]
 by_cases h1:min u v<0
 ·have hc:¬ (InV N u∧InV N v):=fun q=>by unfold InV at q;omega
  simp only[Adq h1,Ad3 hc]
 ·simp only[Adp h1]
  by_cases h2:(N:Int)≤max u v
  ·have hc:¬ (InV N u∧InV N v):=fun q=>by unfold InV at q;omega
   simp only[Adq h2,Ad3 hc]
  ·have hc:InV N u∧InV N v:=⟨⟨by omega,by omega⟩,by omega,by omega⟩
   simp only[Adp h2,Ad6 hc,AU7 h]
   cases hany:ts.any (CA u v)
   ·simp only[Ad4,Ad7]
    rw[Adq (by omega)]
   ·simp only[AeL]
    rw[Adp (by omega)]
theorem AST:ieq (10:Int) 1=false:=by rw[Ak];rfl
theorem AOP(n:Int)(ts:List Tie)(ht:ts.length≤400)(u v k:Int):∃ s e,Tr ((n,(ts,())),u,v,k,())=some (s,e,())∧ANk ((n,(ts,())),u,v,k,())=some (s,e,())∧s.length≤64:=by
 rcases Rk n ts (by omega)with⟨r1,r⟩|⟨N,rfl,h⟩
 ·refine⟨[],1,?_,?_,by simp⟩
  ·rw[YA,PW]
   simp only[AOj u v r,CL]
  ·rw[Ra,LL]
   simp only[r1,AeM]
 ·rw[YA,PW,Ra,LL]
  simp only[YV h,h.r21,Ady,ALY]
  by_cases hu:0≤u∧u<(N:Int)
  ·by_cases hv:0≤v∧v<(N:Int)
   ·have hc:InV N u∧InV N v:=⟨hu,hv⟩
    have h1:=h.h1
    have hN:=h.hN
    have iu:In (N:Int) u:=⟨by omega,by omega,hu.1,hu.2⟩
    have iv:In (N:Int) v:=⟨by omega,by omega,hv.1,hv.2⟩
    obtain⟨zs,ef,hF⟩:=h.AdH k
    obtain⟨u,rfl⟩:=Adz hu.1
    obtain⟨v,rfl⟩:=Adz hv.1
    have hu':u<N:=by omega
    have hv':v<N:=by omega
    have hu1:=D3 h1 hN ts ht h.inE u hu' k
    have hv1:=D3 h1 hN ts ht h.inE v hv' k
    have l1:=Hl N (trk ts k) (u:Int)
    have l2:=Hl N (trk ts k) (v:Int)
    have b1:=ND N (trk ts k) (u:Int)
    have b2:=ND N (trk ts k) (v:Int)
    have hh:=ADi (EO N (trk ts k) (u:Int)) (v:Int) (by omega)
    have hg:∀ l:List Int,AN l 0 0=l.headD 0:=fun l=>by cases l<;>rfl
    have hcc:=GJ (EO N (trk ts k) (u:Int)) (v:Int) (by omega)
    simp only[Ad6 hc,Adq hu,Adq hv,Ady,hu1,hv1,hh,ef,hF.members iu,hF.members iv,hcc,Mv hu',Mv hv',hg,KW,AGD]
    have e1:ieq (if(ts.any (CA (u:Int) (v:Int)))=true then(0:Int)else 6) 1=false:=by
     split<;>(rw[Ak];rfl)
    have e2:ieq (if(ts.any (CA (u:Int) (v:Int)))=true then(0:Int)else 6) 10=false:=by
     split<;>(rw[Ak];rfl)
    simp only[e1,e2]
    cases decide ((v:Int)∈EO N (trk ts k) (u:Int))
    ·simp only[AO,l1,l2,AK,QA]
     by_cases q1:csz N (trk ts k) (u:Int)<csz N (trk ts k) (v:Int)
     ·have q2:O0 (csz N (trk ts k) (u:Int):Int) (csz N (trk ts k) (v:Int):Int) = -1:=by unfold O0;rw[Ad6 (by omega)]
      simp only[Adq q1,q2,Ad3 (show ¬ ((-1:Int)=0) by omega),Am,Adq (show(-1:Int)<0 by omega)]
      exact⟨_,_,rfl,rfl,by first|(simp;done)|omega⟩
     ·by_cases q2:csz N (trk ts k) (u:Int)=csz N (trk ts k) (v:Int)
      ·have q3:O0 (csz N (trk ts k) (u:Int):Int) (csz N (trk ts k) (v:Int):Int)=0:=by unfold O0;rw[Ad3 (by omega),Ad3 (by omega)]
       simp only[Adp q1,Adq q2,q3,AeL]
       by_cases q4:(EO N (trk ts k) (u:Int)).headD 0<(EO N (trk ts k) (v:Int)).headD 0
       ·have q5:O0 ((EO N (trk ts k) (u:Int)).headD 0) ((EO N (trk ts k) (v:Int)).headD 0) = -1:=by unfold O0;rw[Ad6 q4]
        simp only[q5,Am,Adq q4,Adq (show(-1:Int)<0 by omega)]
        exact⟨_,_,rfl,rfl,by first|(simp;done)|omega⟩
       ·have q5:¬ O0 ((EO N (trk ts k) (u:Int)).headD 0) ((EO N (trk ts k) (v:Int)).headD 0)<0:=by
         unfold O0;rw[Ad3 q4];split<;>omega
        simp only[Am,Adp q4,Adp q5]
        exact⟨_,_,rfl,rfl,by first|(simp;done)|omega⟩
      ·have q3:O0 (csz N (trk ts k) (u:Int):Int) (csz N (trk ts k) (v:Int):Int)=1:=by unfold O0;rw[Ad3 (by omega),Ad6 (by omega)]
       simp only[Adp q1,Adp q2,q3,Ad3 (show ¬ ((1:Int)=0) by omega),Am,Adp (show ¬ (1:Int)<0 by omega)]
       exact⟨_,_,rfl,rfl,by first|(simp;done)|omega⟩
    ·exact⟨_,_,rfl,rfl,by first|(simp;done)|omega⟩
   ·have hc:¬ (InV N u∧InV N v):=fun q=>hv q.2
    simp only[Ad3 hc,Adq hu,Adp hv,Ady,AeM,CL,AST]
    exact⟨_,_,rfl,rfl,by first|(simp;done)|omega⟩
  ·have hc:¬ (InV N u∧InV N v):=fun q=>hu q.1
   simp only[Ad3 hc,Adp hu,AeM,CL,AST]
   exact⟨_,_,rfl,rfl,by first|(simp;done)|omega⟩
theorem AJc{N:Nat}(hN:N≤64)(ts:List Tie)(ht:ts.length≤400)(u v:Nat)(hu:u<N)(hv:v<N)(k:Int):∃ e,Tr (((N:Int),(ts,())),(u:Int),(v:Int),k,())=some (BD N ts u v k,e,()):=by
 obtain⟨s,e,h1,h2,_⟩:=AOP (N:Int) ts ht u v k
 obtain⟨e',h3⟩:=ANj hN ts ht u v hu hv k
 rw[h2]at h3
 cases h3
 exact⟨_,h1⟩
end Go.Pev.Pl
end
section
namespace Go.Pev.Pl
open Tok
def ofM(s:List Int):List (Int×Int):=s.foldl (fun m w=>Ai m w 1) []
theorem AYr(w:Int):∀ (s:List Int) (m:List (Int×Int)),(AR (s.foldl (fun m w=>Ai m w 1) m) w).getD 0=if w∈s then 1 else(AR m w).getD 0:=by
 intro s
 induction s with
 |nil=>intro m;simp
 |cons x s ih=>
  intro m
  rw[Aep,ih,APs]
  by_cases h:w∈s
  ·rw[Ad6 h,Ad6 (by simp[h])]
  ·rw[Ad3 h]
   by_cases hx:w=x
   ·rw[Ad6 hx,Ad6 (by simp[hx])];rfl
   ·rw[Ad3 hx,Ad3 (by simp[h,hx])]
theorem ASN(s:List Int)(w:Int):(AR (ofM s) w).getD 0=if Ao s w=true then 1 else 0:=by
 unfold ofM Ao
 rw[AYr]
 simp[AR]
def UX(S:Int→Bool)(x:Tie):Int:=(if S x.1=true then 1 else 0)+(if S x.2.1=true then 1 else 0)
theorem ADp(s:List Int)(x:Tie):IntKind.wrap .i64 ((AR (ofM s) x.1).getD 0+(AR (ofM s) x.2.1).getD 0)=UX (Ao s) x:=by
 rw[ASN,ASN]
 unfold UX
 rw[Af (by split<;>split<;>omega)]
theorem AMD(S:Int→Bool)(x:Tie):ieq (UX S x) 2=both S x:=by
 rw[Ak];unfold UX both
 cases S x.1<;>cases S x.2.1<;>rfl
theorem AV2(S:Int→Bool)(x:Tie):ieq (UX S x) 0=(!S x.1 && !S x.2.1):=by
 rw[Ak];unfold UX
 cases S x.1<;>cases S x.2.1<;>rfl
theorem AZr(S:Int→Bool)(x:Tie):ieq (UX S x) 1=decide (Ga S x):=by
 rw[Ak]
 refine Afc.2 ?_
 unfold UX Ga
 generalize S x.1=a
 generalize S x.2.1=b
 cases a<;>cases b<;>simp
def otp(i:Int):Nat→List Tie→List Int
 |_,[]=>[]
 |j,x::R=>if x.2.2.2.1=false∧x.2.2.1=i then(j:Int)::otp i (j+1) R else otp i (j+1) R
theorem Ac1(S:Int→Bool)(top i:Int):∀ (R:List Tie) (j:Nat),otp i j (R.map (rT S top i))=otp i j R:=by
 intro R
 induction R with
 |nil=>intro j;rfl
 |cons x R ih=>
  intro j
  rw[AeB,otp,otp,ih,Jr]
  by_cases h:x.2.2.2.1=false
  ·rw[GQ h]
  ·rw[Ad3 (fun q=>h q.1),Ad3 (fun q=>h q.1)]
section
variable (n:Int) (a2 a3:Bool) (a4 a5 top:Int)
theorem AUO(O:List Tie)(r i:Int)(s:List Int)(hs:s.length≤400):
  AT Lb many (n,O,a2,a3,a4,a5,r,top,i,([]:List (Int×Int)),s,(s.length:Int),(0:Int),())=some (.inl (n,O,a2,a3,a4,a5,r,top,i,ofM s,())):=by
 have e:=DH (step:=Lb) (fun j (m:List (Int×Int))=>(n,O,a2,a3,a4,a5,r,top,i,m,s,(s.length:Int),(j:Int),())) s (fun w m=>.inl (Ai m w 1)) (fun m=>.inl (n,O,a2,a3,a4,a5,r,top,i,m,())) (fun _ _=>True) (by omega)
  (fun j x m hj hx _=>by
   refine⟨fun m' h' => ?_,fun r h'=>(by cases h')⟩
   cases h'
   refine⟨?_,trivial⟩
   unfold Lb
   dsimp only
   rw[AK,Adq hj]
   simp only[Ah hx,HJ hx]
   rw[AH (by omega)])
  (fun m _=>by unfold Lb;dsimp only;rw[AK,Adp (by omega)]) [] trivial
 have e':AT Lb many (n,O,a2,a3,a4,a5,r,top,i,([]:List (Int×Int)),s,(s.length:Int),(0:Int),())=_:=e
 rw[e',BZ (fun w (m:List (Int×Int))=>Ai m w 1)]
 rfl
theorem AUN(O:List Tie)(hO:O.length≤400)(r:Nat)(hr:r<1073741824)(i:Nat)(hi:i<64)(s:List Int):
  AT La many (n,O,a2,a3,a4,a5,(r:Int),top,(i:Int),ofM s,([]:List Int),(O.length:Int),(0:Int),()) =
  some (.inl (n,O.map (rT (Ao s) top i),a2,a3,a4,a5,((r+IE (Ao s) i O:Nat):Int),top,ofM s,otp i 0 O,())):=by
 have key:∀ (R A:List Tie) (j cnt q:Nat) (ps:List Int),A.length=j→A.length+R.length=O.length→R.length<cnt→q+R.length<2147483648→ps.length≤j →
   AQ La cnt (n,A++R,a2,a3,a4,a5,(q:Int),top,(i:Int),ofM s,ps,(O.length:Int),(j:Int),()) =
   some (.inl (n,A++R.map (rT (Ao s) top i),a2,a3,a4,a5,((q+IE (Ao s) i R:Nat):Int),top,ofM s,ps++otp i j R,())):=by
  intro R
  induction R with
  |nil=>
   intro A j cnt q ps hA hl hc hq hp
   obtain⟨cnt,rfl⟩:∃ c,cnt=c+1:=⟨cnt-1,by omega⟩
   unfold La
   rw[AQ]
   dsimp only
   rw[AK,Adp (by simp at hl;omega)]
   simp[IE,otp]
  |cons x R ih=>
   intro A j cnt q ps hA hl hc hq hp
   obtain⟨cnt,rfl⟩:∃ c,cnt=c+1:=⟨cnt-1,by omega⟩
   rw[Ad1]at hl hc hq
   have hg:=AEM (R:=R) (x:=x) hA
   have next:∀ (y:Tie) (q':Nat) (ps':List Int),q'+R.length<2147483648→ps'.length≤j+1→rT (Ao s) top i x=y→q'+IE (Ao s) i R=q+IE (Ao s) i (x::R)→ps'++otp i (j+1) R=ps++otp i j (x::R) →
     AQ La cnt (n,A++y::R,a2,a3,a4,a5,(q':Int),top,(i:Int),ofM s,ps',(O.length:Int),((j+1:Nat):Int),()) =
     some (.inl (n,A++(x::R).map (rT (Ao s) top i),a2,a3,a4,a5,((q+IE (Ao s) i (x::R):Nat):Int),top,ofM s,ps++otp i j (x::R),())):=by
    intro y q' ps' hq' hp' hy hcnt hps
    have:=ih (A++[y]) (j+1) cnt q' ps' (by simp[hA]) (by simp;omega) (by omega) hq' hp'
    rw[Aed]at this
    rw[AfO]at this
    rw[this,hcnt,AeB,hy,Aed,hps]
    rfl
   have hcc:IE (Ao s) i (x::R)=IE (Ao s) i R+if(x.2.2.2.1&&(decide (x.2.2.1=(i:Int))&&both (Ao s) x))=true then 1 else 0:=by
    unfold IE
    rw[Afy]
   have hot:otp (i:Int) j (x::R)=if x.2.2.2.1=false∧x.2.2.1=(i:Int)then(j:Int)::otp i (j+1) R else otp i (j+1) R:=rfl
   unfold La at next ⊢
   rw[AQ]
   dsimp only
   rw[AK,Adq (by omega)]
   simp only[Ah hg,HJ hg]
   rw[AH (show j+1<9223372036854775808 by omega),AH (show q+1<9223372036854775808 by omega),Ak]
   by_cases h3:x.2.2.1=(i:Int)
   ·rw[Adq h3]
    simp only[Ady]
    cases h4:x.2.2.2.1
    ·simp only[AeM]
     rw[BW (by simp only[AO,Ad1,AeF];omega),KP,Cw]
     refine next x q _ (by omega) (by simp;omega) (GQ h4) ?_ ?_
     ·rw[hcc,h4];simp
     ·rw[hot,Ad6 ⟨h4,h3⟩];simp
    ·simp only[Ady]
     rw[ADp,AMD]
     cases hb:both (Ao s) x
     ·simp only[]
      refine next x q ps (by omega) (by omega) ?_ ?_ ?_
      ·unfold rT
       rw[Ad3 (fun hh=>by rw[hb]at hh;exact absurd hh.2.2 (by simp))]
      ·rw[hcc,hb];simp
      ·rw[hot,Ad3 (fun hh=>by rw[h4]at hh;exact absurd hh.1 (by simp))]
     ·simp only[]
      rw[AEL hA,M9,h3,AH (show i+1<9223372036854775808 by omega)]
      refine next _ (q+1) ps (by omega) (by omega) ?_ ?_ ?_
      ·unfold rT
       rw[Ad6 ⟨h4,h3,hb⟩]
       unfold DS
       rw[h3,h4]
       rfl
      ·rw[hcc,h4,Adq h3,hb];simp;omega
      ·rw[hot,Ad3 (fun hh=>by rw[h4]at hh;exact absurd hh.1 (by simp))]
   ·rw[Adp h3]
    simp only[AeM]
    refine next x q ps (by omega) (by omega) ?_ ?_ ?_
    ·unfold rT
     rw[Ad3 (fun hh=>h3 hh.2.1)]
    ·rw[hcc,Adp h3];simp
    ·rw[hot,Ad3 (fun hh=>h3 hh.2)]
 have:=key O [] 0 many r [] rfl (by simp) (by simp only[many];omega) (by omega) (by simp)
 rw[Ag]
 exact this
theorem AUM(O:List Tie)(hO:O.length≤400)(r:Nat)(hr:r<1073741824)(i:Nat)(hi:i<64)(s:List Int):
  AT LZ many (n,O,a2,a3,a4,a5,(r:Int),top,ofM s,otp i 0 O,((otp i 0 O).length:Int),(0:Int),()) =
  some (match(A3 (Ao s) top i O).2.2 with
   |some e=>.inr (.inl (n,(A3 (Ao s) top i O).1,a2,true,e.1,e.2.1,((r+(A3 (Ao s) top i O).2.1:Nat):Int),top,true,()))
   |none=>.inl (n,(A3 (Ao s) top i O).1,a2,a3,a4,a5,((r+(A3 (Ao s) top i O).2.1:Nat):Int),top,())):=by
 have key:∀ (R A:List Tie) (j cnt q:Nat) (pre:List Int),A.length=j→R.length<cnt→q+R.length<2147483648→pre.length≤j→j+R.length≤400 →
   AQ LZ cnt (n,A++R,a2,a3,a4,a5,(q:Int),top,ofM s,pre++otp i j R,((pre++otp i j R).length:Int),(pre.length:Int),()) =
   some (match(A3 (Ao s) top i R).2.2 with
    |some e=>.inr (.inl (n,A++(A3 (Ao s) top i R).1,a2,true,e.1,e.2.1,((q+(A3 (Ao s) top i R).2.1:Nat):Int),top,true,()))
    |none=>.inl (n,A++(A3 (Ao s) top i R).1,a2,a3,a4,a5,((q+(A3 (Ao s) top i R).2.1:Nat):Int),top,())):=by
  intro R
  induction R with
  |nil=>
   intro A j cnt q pre hA hc hq hp hj
   obtain⟨cnt,rfl⟩:∃ c,cnt=c+1:=⟨cnt-1,by omega⟩
   unfold LZ
   rw[AQ]
   dsimp only
   rw[AK,Adp (by simp[otp])]
   rfl
  |cons x R ih=>
   intro A j cnt q pre hA hc hq hp hj
   rw[Ad1]at hc hq hj
   have hg:=AEM (R:=R) (x:=x) hA
   rw[A3,otp]
   by_cases hO:x.2.2.2.1=false∧x.2.2.1=(i:Int)
   ·obtain⟨h4,h3⟩:=hO
    rw[Ad6 ⟨h4,h3⟩,Ad3 (fun hh=>by rcases hh with hh|hh;rw[h4]at hh;cases hh;exact hh h3)]
    obtain⟨cnt,rfl⟩:∃ c,cnt=c+1:=⟨cnt-1,by omega⟩
    have hlt:pre.length<(pre++(j:Int)::otp i (j+1) R).length:=by simp
    have hpx:(pre++(j:Int)::otp i (j+1) R)[pre.length]? = some (j:Int):=by simp
    have step:∀ (y:Tie) (q':Nat),q'+R.length<2147483648 →
      AQ LZ cnt (n,A++y::R,a2,a3,a4,a5,(q':Int),top,ofM s,pre++(j:Int)::otp i (j+1) R,((pre++(j:Int)::otp i (j+1) R).length:Int),((pre.length+1:Nat):Int),()) =
      some (match(A3 (Ao s) top i R).2.2 with
       |some e=>.inr (.inl (n,A++y::(A3 (Ao s) top i R).1,a2,true,e.1,e.2.1,((q'+(A3 (Ao s) top i R).2.1:Nat):Int),top,true,()))
       |none=>.inl (n,A++y::(A3 (Ao s) top i R).1,a2,a3,a4,a5,((q'+(A3 (Ao s) top i R).2.1:Nat):Int),top,())):=by
     intro y q' hq'
     have:=ih (A++[y]) (j+1) cnt q' (pre++[(j:Int)]) (by simp[hA]) (by omega) hq' (by simp;omega) (by omega)
     have hpl:(pre++[(j:Int)]).length=pre.length+1:=by simp
     simp only[Aed,AfO,hpl]at this
     exact this
    unfold LZ at step ⊢
    rw[AQ]
    dsimp only
    rw[AK,Adq hlt]
    simp only[Ah hpx,HJ hpx,HJ hg]
    rw[AH (show pre.length+1<9223372036854775808 by omega),AH (show q+1<9223372036854775808 by omega),ADp,AV2,AMD,AZr]
    cases hb:both (Ao s) x
    ·simp only[Ad4,Ad7]
     by_cases hx:Ga (Ao s) x
     ·have hnn:(!Ao s x.1 && !Ao s x.2.1)=false:=by
       unfold Ga at hx
       revert hx
       cases Ao s x.1<;>cases Ao s x.2.1<;>simp
      have hg2:(A++Cz x::R)[j]? = some (Cz x):=AEM hA
      simp only[hnn,Adq hx,Ad6 hx]
      rw[AEL hA]
      rw[show((x.1,(x.2.1,(x.2.2.1,(true,())))):Tie)=Cz x from rfl]
      simp only[HJ hg2,AfN]
      rfl
     ·have hnn:(!Ao s x.1 && !Ao s x.2.1)=true:=by
       unfold Ga at hx
       unfold both at hb
       revert hx hb
       cases Ao s x.1<;>cases Ao s x.2.1<;>simp
      simp only[hnn,Ad3 hx]
      exact step x q (by omega)
    ·have hnn:(!Ao s x.1 && !Ao s x.2.1)=false:=by
      unfold both at hb
      revert hb
      cases Ao s x.1<;>cases Ao s x.2.1<;>simp
     simp only[hnn,AeL]
     rw[AEL hA,M9,h3,AH (show i+1<9223372036854775808 by omega)]
     have:=step (DS top x) (q+1) (by omega)
     have hr:((x.1,(x.2.1,(min top ((i+1:Nat):Int),(x.2.2.2.1,())))):Tie)=DS top x:=by
      unfold DS
      rw[h3]
      rfl
     rw[hr,this]
     rw[show q+1+(A3 (Ao s) top i R).2.1=q+((A3 (Ao s) top i R).2.1+1) by omega]
   ·have hor:x.2.2.2.1=true∨x.2.2.1≠(i:Int):=by
     cases h4:x.2.2.2.1
     ·exact .inr fun h3=>hO ⟨h4,h3⟩
     ·exact .inl rfl
    rw[Ad3 hO,Ad6 hor]
    have:=ih (A++[x]) (j+1) cnt q pre (by simp[hA]) (by omega) (by omega) (by omega) (by omega)
    simp only[Aed,AfO]at this
    exact this
 have:=key O [] 0 many r [] rfl (by simp only[many];omega) (by omega) (by simp) (by omega)
 rw[Ag]
 exact this
end
theorem AbD{N:Nat}(hN:N≤64)(u v:Nat)(hu:u<N)(hv:v<N)(top:Int)(O:List Tie)(hO:O.length≤400)(a2 a3:Bool)(a4 a5:Int)(r:Nat)(hr:r<536870912)(i:Nat)(hi:i<64)(S:Int→Bool)(hS:S=Ao (BD N O u v i)):
  pat ((N:Int),O,a2,a3,a4,a5,(r:Int),top,(u:Int),(v:Int),(i:Int),()) =
  some (match(A3 S top i (O.map (rT S top i))).2.2 with
   |some e=>((N:Int),(A3 S top i (O.map (rT S top i))).1,a2,true,e.1,e.2.1,((r+IE S i O+(A3 S top i (O.map (rT S top i))).2.1:Nat):Int),top,true,())
   |none=>((N:Int),(A3 S top i (O.map (rT S top i))).1,a2,a3,a4,a5,((r+IE S i O+(A3 S top i (O.map (rT S top i))).2.1:Nat):Int),top,false,())):=by
 subst hS
 obtain⟨e,hs⟩:=AJc hN O hO u v hu hv (i:Int)
 have hl:=ATk N O u v (i:Int)
 have hc:=ASu (Ao (BD N O u v i)) i O
 have e0:=AUO (N:Int) a2 a3 a4 a5 top O (r:Int) (i:Int) (BD N O u v i) (by omega)
 have e1:=AUN (N:Int) a2 a3 a4 a5 top O hO r (by omega) i hi (BD N O u v i)
 have e2:=AUM (N:Int) a2 a3 a4 a5 top (O.map (rT (Ao (BD N O u v i)) top i)) (by simpa using hO) (r+IE (Ao (BD N O u v i)) i O) (by omega) i hi (BD N O u v i)
 rw[Ac1]at e2
 rw[AYG,ASD]
 simp only[hs,AO,e0,e1,e2]
 cases (A3 (Ao (BD N O u v i)) top i (O.map (rT (Ao (BD N O u v i)) top i))).2.2 with
 |none=>rfl
 |some e=>rfl
end Go.Pev.Pl
end
section
namespace Go.Pev.Pl
section
variable {α:Type} (z:α)
end
end Go.Pev.Pl
end
section
namespace Go.Pev.Pl
open Tok
theorem AVf(n:Nat)(hn:n<4294967296):ALu ((n:Int),())=some ([],()):=by
 have e0:IntKind.wrap .i64 ((n:Int)-IntKind.wrap .i64 ((0:Int)-0))=(n:Int):=by rw[Af (n:=(0:Int)-0) (by omega),Af (by omega)];omega
 rw[ALt,Wq]
 simp only[e0,Am]
 rw[Adp (by omega)]
 simp only[]
 by_cases h:0<n
 ·rw[Adq (by omega)]
  have s1:CH ([]:List Unit) (0:Int) (0:Int)=some []:=by rw[Mg];rfl
  have s2:CH (JY (AE (n:Int)) ((0:Int),((0:Int),((0:Int),(false,()))))) (0:Int) (0:Int)=some []:=by
   rw[Mg,Ks,Ad6 (by omega)]
   simp
  have s3:Kz (n:Int)=true:=(JW _).2 (by omega)
  simp only[s1,s2,s3]
  rfl
 ·rw[Adp (by omega)]
theorem AMR(xss:List (List Tie))(hs:xss.length<4294967296)(h:xss.flatten.length<4294967296):NG (xss,())=some (xss.flatten,()):=by
 rw[AAT,NF]
 have e:=DH (step:=ET) (fun i (a:Nat)=>(xss,(a:Int),xss,AM xss,(i:Int),())) xss (fun x a=>.inl (a+x.length)) (fun a=>.inl (xss,(a:Int),())) (fun i a=>a=(xss.take i).flatten.length) (by omega)
  (fun i x a hi hx ha=>by
   refine⟨fun m' h' => ?_,fun r h'=>by cases h'⟩
   cases h'
   have h1:=DE hx
   have h2:=EB xss (i+1)
   rw[h1,Ad0]at h2
   rw[ET]
   simp only[AO]
   rw[AK,Adq hi]
   simp only[Ah hx]
   rw[wrap_add (by omega),AH (by omega),Am,Adp (by omega)]
   exact⟨rfl,by rw[h1,Ad0,ha]⟩)
  (fun a _=>by rw[ET,AO,AK,Adp (by omega)]) 0 rfl
 have e':AT ET many (xss,(0:Int),xss,AM xss,(0:Int),())=_:=e
 rw[e',BZ]
 have hsum:∀ (l:List (List Tie)) (a:Nat),l.foldl (fun a x=>a+x.length) a=a+l.flatten.length:=by
  intro l
  induction l with
  |nil=>intro a;rfl
  |cons x l ih=>intro a;rw[Aep,ih,AfU,Ad0];omega
 rw[hsum,Aev]
 simp only[AVf _ h]
 have g:=DH (step:=ES) (fun i (a:List Tie)=>(a,xss,AM xss,(i:Int),())) xss (fun x a=>.inl (a++x)) (fun a=>.inl (a,())) (fun i a=>a=(xss.take i).flatten) (by omega)
  (fun i x a hi hx ha=>by
   refine⟨fun m' h' => ?_,fun r h'=>by cases h'⟩
   cases h'
   have h1:=DE hx
   have h2:=EB xss (i+1)
   rw[h1,Ad0]at h2
   rw[ES]
   simp only[AO]
   rw[AK,Adq hi]
   simp only[Ah hx]
   rw[AH (by omega),BW (by rw[ha];omega)]
   exact⟨rfl,by rw[h1,ha]⟩)
  (fun a _=>by rw[ES,AO,AK,Adp (by omega)]) [] rfl
 have g':AT ES many ([],xss,AM xss,(0:Int),())=_:=g
 rw[g',BZ]
 have hcat:∀ (l:List (List Tie)) (a:List Tie),l.foldl (fun a x=>a++x) a=a++l.flatten:=by
  intro l
  induction l with
  |nil=>intro a;simp
  |cons x l ih=>intro a;rw[Aep,ih,AfU,Aed]
 rw[hcat]
 rfl
end Go.Pev.Pl
end
section
namespace Go.Pev.Pl
open Tok
theorem AJf{N:Nat}(hN:N≤64)(u v:Nat)(hu:u<N)(hv:v<N)(top w8:Int):
  ∀ (m:Nat) (O:List Tie) (r cnt:Nat),m≤64→O.length≤400→r+1000*m<536870912→m<cnt →
  AQ EA cnt ((0:Int),false,false,(0:Int),(0:Int),(0:Int),(u:Int),(v:Int),w8,true,(N:Int),O,true,false,(0:Int),(0:Int),(r:Int),top,(m:Int)-1,()) =
  some (.inl ((0:Int),false,false,(0:Int),(0:Int),(0:Int),(N:Int),(Iz N u v top m O r).1,true,
   (match(Iz N u v top m O r).2.1 with|some _=>true|none=>false),(match(Iz N u v top m O r).2.1 with|some e=>e.1|none=>0),(match(Iz N u v top m O r).2.1 with|some e=>e.2.1|none=>0),((Iz N u v top m O r).2.2:Int),top,())):=by
 intro m
 induction m with
 |zero=>
  intro O r cnt hm hO hr hc
  obtain⟨cnt,rfl⟩:∃ c,cnt=c+1:=⟨cnt-1,by omega⟩
  unfold EA
  rw[AQ]
  dsimp only
  rw[Aq,Adp (by omega)]
  rfl
 |succ m ih=>
  intro O r cnt hm hO hr hc
  obtain⟨cnt,rfl⟩:∃ c,cnt=c+1:=⟨cnt-1,by omega⟩
  have em:((m+1:Nat):Int)-1=(m:Int):=by omega
  have hp:=AbD hN u v hu hv top O hO true false 0 0 r (by omega) m (by omega) _ rfl
  have l1:=ADI (Ao (BD N O u v m)) top m (O.map (rT (Ao (BD N O u v m)) top m))
  have l2:=ASu (Ao (BD N O u v m)) m O
  rw[Aek]at l1
  rw[em,Iz]
  cases hf:(A3 (Ao (BD N O u v m)) top m (O.map (rT (Ao (BD N O u v m)) top m))).2.2 with
  |some e=>
   rw[hf]at hp
   have hst:EA ((0:Int),false,false,(0:Int),(0:Int),(0:Int),(u:Int),(v:Int),w8,true,(N:Int),O,true,false,(0:Int),(0:Int),(r:Int),top,(m:Int),())=some (.inr (.inl ((0:Int),false,false,(0:Int),(0:Int),(0:Int),(N:Int),(A3 (Ao (BD N O u v m)) top m (O.map (rT (Ao (BD N O u v m)) top m))).1,true,true,e.1,e.2.1,((r+IE (Ao (BD N O u v m)) m O+(A3 (Ao (BD N O u v m)) top m (O.map (rT (Ao (BD N O u v m)) top m))).2.1:Nat):Int),top,()))):=by
    unfold EA
    dsimp only
    rw[Aq,Adq (show(0:Int)≤(m:Int) by omega)]
    simp only[hp,Ady]
   rw[AQ,hst]
  |none=>
   rw[hf]at hp
   have hst:EA ((0:Int),false,false,(0:Int),(0:Int),(0:Int),(u:Int),(v:Int),w8,true,(N:Int),O,true,false,(0:Int),(0:Int),(r:Int),top,(m:Int),())=some (.inl ((0:Int),false,false,(0:Int),(0:Int),(0:Int),(u:Int),(v:Int),w8,true,(N:Int),(A3 (Ao (BD N O u v m)) top m (O.map (rT (Ao (BD N O u v m)) top m))).1,true,false,(0:Int),(0:Int),((r+IE (Ao (BD N O u v m)) m O+(A3 (Ao (BD N O u v m)) top m (O.map (rT (Ao (BD N O u v m)) top m))).2.1:Nat):Int),top,(m:Int)-1,())):=by
    unfold EA
    dsimp only
    rw[Aq,Adq (show(0:Int)≤(m:Int) by omega)]
    simp only[hp,AeM]
    rw[Af (by omega)]
   rw[AQ,hst]
   exact ih _ _ cnt (by omega) (by rw[l1.1];exact hO) (by omega) (by omega)
theorem AXm{N:Nat}{ts:List Tie}(h:RG2 N ts)(u v:Int):
  (¬ ((0≤u∧u<(N:Int))∧(0≤v∧v<(N:Int)))∧ABl (((N:Int),(ts,())),u,v,())=some ((N:Int),ts,Tj,10,())) ∨
  (((0≤u∧u<(N:Int))∧(0≤v∧v<(N:Int)))∧ts.any (CA u v)=false∧ABl (((N:Int),(ts,())),u,v,())=some ((N:Int),ts,Tj,6,())) ∨
  (((0≤u∧u<(N:Int))∧(0≤v∧v<(N:Int)))∧ts.any (CA u v)=true∧∃ t,ts[ts.findIdx (CA u v)]? = some t ∧
   ABl (((N:Int),(ts,())),u,v,())=some ((N:Int),(DW N ts (ts.findIdx (CA u v)) t).1,AcR t.2.2.2.1 (DW N ts (ts.findIdx (CA u v)) t).2.1 (DW N ts (ts.findIdx (CA u v)) t).2.2,0,())):=by
 have ht:=h.ht
 have hN:=h.hN
 rw[AR5,AFX]
 simp only[YV h]
 by_cases huv:InV N u∧InV N v
 ·right
  rw[Ad6 huv,Ad6 huv]
  cases ha:ts.any (CA u v)
  ·left
   refine⟨huv,rfl,?_⟩
   simp only[Ad4,Ad7,Ak]
   rfl
  ·right
   have hk:ts.findIdx (CA u v)<ts.length:=Ae8.2 (Aez.1 ha)
   have hx:ts[ts.findIdx (CA u v)]? = some ts[ts.findIdx (CA u v)]:=Adw hk
   refine⟨huv,rfl,_,hx,?_⟩
   have hm:ts[ts.findIdx (CA u v)]∈ts:=Ae5 hk
   generalize ts[ts.findIdx (CA u v)]=t at *
   generalize ts.findIdx (CA u v)=p at *
   obtain⟨i1,i2,hlt,l1,l2⟩:=h.tie hm
   obtain⟨a,ha'⟩:=Adz i1.2.2.1
   obtain⟨b,hb'⟩:=Adz i2.2.2.1
   obtain⟨lv,hlv⟩:=Adz l1
   have haN:a<N:=by have:=i1.2.2.2;omega
   have hbN:b<N:=by have:=i2.2.2.2;omega
   have hT:=Es hN
   have hT64:=AEb hN
   have s1:CH ts (0:Int) (p:Int)=some (ts.take p):=N6 (by omega)
   have s2:CH ts ((p+1:Nat):Int) (ts.length:Int)=some (ts.drop (p+1)):=GL (by omega)
   have hcat:NG ([ts.take p,ts.drop (p+1)],())=some (ts.take p++ts.drop (p+1),()):=by
    rw[AMR _ (by simp) (by simp;omega)]
    simp
   simp only[AeL,CL,Ady]
   simp only[Ah hx,s1]
   rw[AH (by omega)]
   simp only[AO,s2,hcat,ZO N hN,hT]
   unfold DW
   cases h4:t.2.2.2.1
   ·obtain⟨m,hmany⟩:∃ m,many=m+1:=⟨many-1,by simp only[many]⟩
    have:AT EA many ((0:Int),false,false,(0:Int),(0:Int),(0:Int),t.1,t.2.1,t.2.2.1,false,(N:Int),ts.take p++ts.drop (p+1),false,false,(0:Int),(0:Int),(0:Int),(Bq N:Int),t.2.2.1,()) =
      some (.inl ((0:Int),false,false,(0:Int),(0:Int),(0:Int),(N:Int),ts.take p++ts.drop (p+1),false,false,(0:Int),(0:Int),(0:Int),(Bq N:Int),())):=by
     rw[Ag,hmany,AQ,EA]
    simp only[this]
    rfl
   ·simp only[AeL]
    have hlen:(ts.take p++ts.drop (p+1)).length≤400:=by rw[Ad0,AeD,AeY];omega
    have hs:=AJf hN a b haN hbN (Bq N:Int) t.2.2.1 (lv+1) (ts.take p++ts.drop (p+1)) 0 many (by omega) hlen (by omega) (by simp only[many];omega)
    rw[← ha',← hb',show((lv+1:Nat):Int)-1=t.2.2.1 by omega]at hs
    have e2:t.1.toNat=a:=by omega
    have e3:t.2.1.toNat=b:=by omega
    have e4:t.2.2.1.toNat+1=lv+1:=by omega
    rw[e2,e3,e4]
    rw[← Ag]at hs
    have hs':AT EA many ((0:Int),false,false,(0:Int),(0:Int),(0:Int),t.1,t.2.1,t.2.2.1,true,(N:Int),ts.take p++ts.drop (p+1),true,false,(0:Int),(0:Int),(0:Int),(Bq N:Int),t.2.2.1,())=_:=hs
    simp only[hs']
    cases (Iz N a b (Bq N:Int) (lv+1) (ts.take p++ts.drop (p+1)) 0).2.1 with
    |some e=>rfl
    |none=>rfl
 ·left
  rw[Ad3 huv,Ad3 huv]
  refine⟨huv,?_⟩
  simp only[Ak]
  rfl
end Go.Pev.Pl
end
section
namespace Go.Pev.Pl
open Tok
theorem ATX(x y:Tie):(ieq x.1 y.1&&(ieq x.2.1 y.2.1&&(ieq x.2.2.1 y.2.2.1&&((x.2.2.2.1==y.2.2.2.1)&&true))))=decide (x=y):=by
 obtain⟨a,b,c,d,⟨⟩⟩:=x
 obtain⟨a',b',c',d',⟨⟩⟩:=y
 simp only[Ak]
 rw[Aex]
 simp only[Adv,AeS,Afi,AeO,and_true]
theorem ANn(n m:Int)(xs ys:List Tie)(hs:xs.length<4611686018427387904):Rd ((n,(xs,())),(m,(ys,())),())=some (decide (n=m∧xs=ys),()):=by
 rw[AC3,PM]
 simp only[QB]
 rw[Ak]
 by_cases hn:n=m
 ·rw[Adq hn]
  simp only[Ady]
  by_cases hl:xs.length=ys.length
  ·rw[Adq hl]
   have e:=AC0 (step:=Ec) (fun i=>(n,xs,m,ys,(i:Int),())) xs.length (fun i => !decide (xs.getD i zT=ys.getD i zT)) (fun _=>.inl (false,())) (.inr (.inl ())) (by omega)
    (fun i hi=>by
     have hx:xs[i]? = some xs[i]:=Adw hi
     have hy:ys[i]? = some (ys[i]'(by omega)):=Adw (by omega)
     have gx:xs.getD i zT=xs[i]:=by simp[hi]
     have gy:ys.getD i zT=ys[i]'(by omega):=by simp[show i<ys.length by omega]
     rw[Ec,AO,AK,Adq hi]
     simp only[Ah hx,Ah hy,ATX,gx,gy]
     rw[AH (by omega)]
     by_cases he:xs[i]=ys[i]'(by omega)
     ·simp[he]
     ·simp[he])
    (by rw[Ec,AO,AK,Adp (by omega)])
   rcases e with⟨k,k1,k2,_,k4⟩|⟨k1,k2⟩
   ·have k4':AT Ec many (n,xs,m,ys,(0:Int),())=_:=k4
    simp only[Ady,k4']
    rw[Adp]
    rintro⟨_,rfl⟩
    simp at k2
   ·have k2':AT Ec many (n,xs,m,ys,(0:Int),())=_:=k2
    simp only[Ady,k2']
    rw[Adq]
    exact⟨hn,FA zT hl fun j hj=>by simpa using k1 j hj⟩
  ·rw[Adp hl]
   simp only[AeM]
   rw[Adp]
   rintro⟨_,rfl⟩
   exact hl rfl
 ·rw[Adp hn]
  simp only[AeM]
  rw[Adp]
  exact fun h=>hn h.1
end Go.Pev.Pl
end
section
namespace Go.Pev.Pl
open Tok
theorem WM{n:Int}(l:List Edge)(hs:l.length<1073741824)(ha:∀ e∈l,In n e.1∧In n e.2.1):
  ∀ (m i c1 c2:Nat) (rings:List (List Int)) (t1 t2:List Bool),i+m=l.length→t1.length=i→t2.length=i→FC n rings (l.take i)→m<c1→m<c2 →
  ∃ zs b1 b2,AQ Ho c1 (l,n,rings,(0:Int),t1,(i:Int),())=some (.inl (n,zs,(0:Int),b1,()))∧AQ By c2 (n,rings,(0:Int),t2,l,(l.length:Int),(i:Int),())=some (.inl (n,zs,(0:Int),b2,()))∧FC n zs l:=by
 intro m
 induction m with
 |zero=>
  intro i c1 c2 rings t1 t2 hi ht1 ht2 h hc1 hc2
  obtain⟨c1,rfl⟩:∃ c,c1=c+1:=⟨c1-1,by omega⟩
  obtain⟨c2,rfl⟩:∃ c,c2=c+1:=⟨c2-1,by omega⟩
  rw[Aes (by omega)]at h
  refine⟨rings,t1,t2,?_,?_,h⟩
  ·rw[AQ,Ho,AO,AK,Adp (by omega)]
  ·rw[AQ,By,AK,Adp (by omega)]
 |succ m ih=>
  intro i c1 c2 rings t1 t2 hi ht1 ht2 h hc1 hc2
  obtain⟨c1,rfl⟩:∃ c,c1=c+1:=⟨c1-1,by omega⟩
  obtain⟨c2,rfl⟩:∃ c,c2=c+1:=⟨c2-1,by omega⟩
  have hi':i<l.length:=by omega
  have hx:l[i]? = some l[i]:=Adw hi'
  obtain⟨iu,iv⟩:=ha _ (Ae5 hi')
  obtain⟨zs,q,e1,e2,_⟩:=AS8 h iu iv
  obtain⟨zs',q',f1,f2,_⟩:=ARN (n:=n) (rings:=rings) l[i].1 l[i].2.1 h.fr.dom
  rw[e1]at f1
  cases f1
  rw[← AfC hi']at e2
  obtain⟨zs2,b1,b2,g1,g2,g3⟩:=ih (i+1) c1 c2 zs (A8 t1 [ieq q 0]) (A8 t2 [ieq q 0]) (by omega) (by simp[Cw,ht1]) (by simp[Cw,ht2]) e2 (by omega) (by omega)
  refine⟨zs2,b1,b2,?_,?_,g3⟩
  ·rw[AQ,Ho,AO,AK,Adq hi']
   simp only[Ah hx,f2]
   rw[AH (by omega),BW (by simp only[AO,Ad1,AeF];omega)]
   exact g1
  ·rw[AQ,By,AK,Adq hi']
   simp only[Ah hx,e1]
   rw[AH (by omega),BW (by simp only[AO,Ad1,AeF];omega)]
   exact g2
theorem AcH{N:Nat}(h1:1≤N)(hN:N≤64)(l:List Edge)(hs:l.length<1073741824)(ha:∀ e∈l,In (N:Int) e.1∧In (N:Int) e.2.1):
  ∃ zs,fof ((N:Int),l,())=some (((N:Int),(zs,())),0,())∧Ac6 ((N:Int),l,())=some (((N:Int),(zs,())),0,())∧FC (N:Int) zs l:=by
 have hF:=AAw h1 hN
 have hD:=hF.fr.dom
 have hRF:=Ka.2 hF.fr
 obtain⟨zs,b1,b2,e1,e2,h2⟩:=WM l hs ha l.length 0 many many (BJ N) [] [] (by omega) rfl rfl (by simpa using hF) (by simp only[many];omega) (by simp only[many];omega)
 refine⟨zs,?_,?_,h2⟩
 ·have hth:KJ (((N:Int),(BJ N,())),l.flatMap fun e=>[e.1,e.2.1],())=some (0,()):=by
   have hfl:=AME l
   rw[Of _ _ _ hD (by omega),AMF,AH1,Ad6 hRF]
   split
   ·rfl
   ·rename_i hc
    exact absurd (AeG.2 fun e he=>Adq (ha e he)) hc
  have hm:G1 (N:Int)=((N:Int),BJ N,0,()):=by
   unfold G1
   rw[Ad6 (show Sz (N:Int)from⟨by omega,by omega⟩),Aeo]
  have e2':AQ By many ((N:Int),BJ N,(0:Int),[],l,(l.length:Int),(0:Int),())=_:=e2
  rw[AQc,AL4]
  simp only[ACs,hm,Lx,Ady]
  rw[Ss,L5,MC,H5]
  simp only[AAC l hs,hth,Lx,Ady,Ag,AO,e2']
 ·have hall:(l.all fun e=>decide (In (N:Int) e.1)&&decide (In (N:Int) e.2.1))=true:=by
   rw[AeG]
   intro e he
   obtain⟨h1,h2⟩:=ha e he
   simp[h1,h2]
  have e1':AT Ho many (l,(N:Int),BJ N,(0:Int),[],(0:Int),())=_:=(Ag _ _ _).trans e1
  have hE:AH1 (N:Int) (BJ N) true=0:=by
   unfold AH1
   simp[hRF]
  have hL:AGa (((N:Int),(BJ N,())),l,())=some (((N:Int),(zs,())),b1,0,()):=by
   rw[APv,Sb]
   simp only[AIy (N:Int) (BJ N) l hD (by omega),hall]
   rw[hE]
   simp only[CL,Ady,e1']
  have hm:AGU ((N:Int),())=some ((N:Int),BJ N,0,()):=by
   rw[APi]
   unfold G1
   rw[Ad6 (show Sz (N:Int)from⟨by omega,by omega⟩),Aeo]
  rw[AbN,APO]
  simp only[hm,CL,Ady,hL]
theorem RG2.both{N:Nat}{ts:List Tie}(h:RG2 N ts)(k:Int):∃ zs,M6 (((N:Int),(ts,())),k,())=some (((N:Int),(zs,())),0,())∧AL3 (((N:Int),(ts,())),k,())=some (((N:Int),(zs,())),0,())∧FC (N:Int) zs (trk ts k):=by
 have hl:=h.AdC k
 obtain⟨zs,e1,e2,hF⟩:=AcH h.h1 h.hN (trk ts k) (by omega) (h.inK k)
 refine⟨zs,?_,?_,hF⟩
 ·rw[OR,JP]
  simp only[h.lr,Ady,ALF (N:Int) ts h.ht k,e1]
 ·rw[AL2,Oh]
  simp only[h.r21,Ady,Mc (N:Int) ts h.ht k,e2]
end Go.Pev.Pl
end
section
namespace Go.Pev.Pl
open Tok
section
variable (n:Int) (ts:List Tie)
end
end Go.Pev.Pl
end
section
namespace Go.Pev.Pl
open Tok
theorem AH5:Iq ()=some (true,()):=by
 rw[show Iq () = @Iq idI ()from AfK (fun i=>@Iq i ()) ZZ]
 kernel_rfl
theorem ALx(n:Int)(ts:List Tie)(l:List Edge):NB ((n,(ts,())),l,())=some (true,())∨(NB ((n,(ts,())),l,())=some (false,())∧ts.length≤30∧n≤12∧l.length≤12):=by
 rw[Zw,NA]
 simp only[AO,Am]
 by_cases h1:(30:Int)<ts.length
 ·left;simp only[Adq h1]
 by_cases h2:(12:Int)<n
 ·left;simp only[Adp h1,Adq h2]
 by_cases h3:(12:Int)<l.length
 ·left;simp only[Adp h1,Adp h2,Adq h3]
 ·right;simp only[Adp h1,Adp h2,Adp h3];exact⟨trivial,by omega,by omega,by omega⟩
end Go.Pev.Pl
end
section
namespace Go.Pev.Pl
open Tok
theorem ABa{n:Int}{ts:List Tie}(ht:ts.length≤400):(∃ N:Nat,n=(N:Int)∧RG2 N ts∧Snd N (Bq N:Int) ts∧Et ((n,(ts,())),())=some (true,()))∨Et ((n,(ts,())),())=some (false,()):=by
 rcases Rk n ts (by omega)with⟨r1,_⟩|⟨N,rfl,h⟩
 ·right
  rw[N8,JF]
  simp only[r1,AeM]
 ·by_cases hp:VD ts∧AH9 ts∧Ql N ts
  ·exact .inl ⟨N,rfl,h,h.snd hp,by rw[LJ h,(C8 _).2 hp]⟩
  ·right
   have:IS (VD ts∧AH9 ts∧Ql N ts)=false:=by rw[← AgC,C8];exact hp
   rw[LJ h,this]
end Go.Pev.Pl
end
section
namespace Go.Pev.Pl
open Tok
end Go.Pev.Pl
end
section
namespace Go.Pev.Pl
open Tok
section
variable (a0:Int) (a1:List Tie) (a2 a3 a4:Int) (a5:List (List Int)) (a6:Int) (a7:List (List Int)) (p q:List Edge)
end
end Go.Pev.Pl
end
section
namespace Go.Pev.Pl
open Tok
end Go.Pev.Pl
end
section
namespace Go.Pev.Pl
open Tok
inductive EY(f:Option Edge):List Tie→List Tie→Int→Prop
 |nil:EY f [] [] 0
 |cons {a b:Tie} {A B:List Tie} {r:Int}:ed a=ed b→a.2.2.1≤b.2.2.1→(a.2.2.2.1=true→b.2.2.2.1=true)→(b.2.2.2.1=true→a.2.2.2.1=false→f=some (ed b))→EY f A B r→EY f (a::A) (b::B) (b.2.2.1-a.2.2.1+r)
theorem EY.refl(f:Option Edge):∀ A:List Tie,EY f A A 0
 |[]=>.nil
 |a::A=>by
  have:=EY.cons (f:=f) (a:=a) (b:=a) rfl (Afz _) (fun h=>h) (fun h h'=>by rw[h]at h';cases h') (EY.refl f A)
  rwa [Int.sub_self,Int.zero_add]at this
theorem EY.to{f:Option Edge}{A B:List Tie}{r r':Int}(h:EY f A B r)(e:r=r'):EY f A B r':=e▸h
theorem EY.trans{f:Option Edge}{A B C:List Tie}{r s:Int}(h:EY none A B r)(k:EY f B C s):EY f A C (r+s):=by
 induction h generalizing C s with
 |nil=>cases k;exact EY.nil
 |cons e1 e2 e3 e4 _ ih=>
  cases k with
  |cons g1 g2 g3 g4 k=>
   refine(EY.cons (e1.trans g1) (Int.le_trans e2 g2) (fun q=>g3 (e3 q)) (fun q q' => ?_) (ih k)).to (by omega)
   exact g4 q (Bool.eq_false_iff.2 fun hb=>by have:=e4 hb q';cases this)
theorem Aao(S:Int→Bool)(top:Int)(i:Nat)(hi:(i:Int)+1≤top):∀ O:List Tie,EY none O (O.map (rT S top i)) (IE S i O:Int):=by
 intro O
 induction O with
 |nil=>exact .nil
 |cons x O ih=>
  have hc:IE S i (x::O)=IE S i O+if(x.2.2.2.1&&(decide (x.2.2.1=(i:Int))&&both S x))=true then 1 else 0:=by
   unfold IE
   rw[Afy]
  rw[AeB]
  by_cases h:x.2.2.2.1=true∧x.2.2.1=(i:Int)∧both S x=true
  ·have hr:rT S top i x=DS top x:=by unfold rT;rw[Ad6 h]
   rw[hr]
   have hl:(DS top x).2.2.1=x.2.2.1+1:=by
    show min top (x.2.2.1+1)=_
    omega
   refine(EY.cons (a:=x) (b:=DS top x) rfl (by omega) (fun q=>q) (fun q q'=>by
    have:x.2.2.2.1=true:=q
    rw[this]at q';cases q') ih).to ?_
   rw[hc,hl,h.1,Adq h.2.1,h.2.2]
   simp
   omega
  ·have hr:rT S top i x=x:=by unfold rT;rw[Ad3 h]
   rw[hr]
   refine(EY.cons (a:=x) (b:=x) rfl (Afz _) (fun q=>q) (fun q q'=>by rw[q]at q';cases q') ih).to ?_
   have:(x.2.2.2.1&&(decide (x.2.2.1=(i:Int))&&both S x))=false:=by
    rw[← AgC,Adv,Adv,AeS]
    exact h
   rw[hc,this]
   simp
theorem ANw(S:Int→Bool)(top:Int)(i:Nat)(hi:(i:Int)+1≤top):∀ O:List Tie,EY (A3 S top i O).2.2 O (A3 S top i O).1 ((A3 S top i O).2.1:Int):=by
 intro O
 induction O with
 |nil=>exact .nil
 |cons x O ih=>
  rw[A3]
  by_cases h1:x.2.2.2.1=true∨x.2.2.1≠(i:Int)
  ·rw[Ad6 h1]
   exact(EY.cons (a:=x) (b:=x) rfl (Afz _) (fun q=>q) (fun q q'=>by rw[q]at q';cases q') ih).to (by show x.2.2.1-x.2.2.1+((A3 S top i O).2.1:Int)=((A3 S top i O).2.1:Int);omega)
  ·rw[Ad3 h1]
   have h3:x.2.2.1=(i:Int):=Aeb fun q=>h1 (.inr q)
   have h4:x.2.2.2.1=false:=by
    cases hh:x.2.2.2.1
    ·rfl
    ·exact absurd (.inl hh) h1
   by_cases h2:both S x=true
   ·rw[Ad6 h2]
    have hl:(DS top x).2.2.1=x.2.2.1+1:=by
     show min top (x.2.2.1+1)=_
     omega
    exact(EY.cons (a:=x) (b:=DS top x) rfl (by omega) (fun q=>q) (fun q q'=>by
     have:x.2.2.2.1=true:=q
     rw[this]at q';cases q') ih).to (by rw[hl];simp only;omega)
   ·rw[Ad3 h2]
    by_cases h5:Ga S x
    ·rw[Ad6 h5]
     exact(EY.cons (a:=x) (b:=Cz x) rfl (Afz _) (fun _=>rfl) (fun _ _=>rfl) (EY.refl _ O)).to (by show x.2.2.1-x.2.2.1+0=_;simp)
    ·rw[Ad3 h5]
     exact(EY.cons (a:=x) (b:=x) rfl (Afz _) (fun q=>q) (fun q q'=>by rw[q]at q';cases q') ih).to (by show x.2.2.1-x.2.2.1+((A3 S top i O).2.1:Int)=((A3 S top i O).2.1:Int);omega)
theorem ATq(N u v:Nat)(top:Int):∀ (m:Nat) (O:List Tie) (r:Nat),(m:Int)≤top→EY (Iz N u v top m O r).2.1 O (Iz N u v top m O r).1 (((Iz N u v top m O r).2.2:Int)-(r:Int)):=by
 intro m
 induction m with
 |zero=>
  intro O r _
  exact(EY.refl none O).to (by show(0:Int)=(r:Int)-(r:Int);omega)
 |succ m ih=>
  intro O r hm
  have h1:=Aao (Ao (BD N O u v m)) top m (by omega) O
  have h2:=ANw (Ao (BD N O u v m)) top m (by omega) (O.map (rT (Ao (BD N O u v m)) top m))
  rw[Iz]
  cases hp:(A3 (Ao (BD N O u v m)) top m (O.map (rT (Ao (BD N O u v m)) top m))).2.2 with
  |some e=>
   rw[hp]at h2
   exact(h1.trans h2).to (by simp only;omega)
  |none=>
   rw[hp]at h2
   have h3:=ih (A3 (Ao (BD N O u v m)) top m (O.map (rT (Ao (BD N O u v m)) top m))).1 (r+IE (Ao (BD N O u v m)) m O+(A3 (Ao (BD N O u v m)) top m (O.map (rT (Ao (BD N O u v m)) top m))).2.1) (by omega)
   exact((h1.trans h2).trans h3).to (by show _=((Iz N u v top m _ _).2.2:Int)-_;omega)
theorem ATr{N:Nat}{ts:List Tie}(h:RG2 N ts)(hs:Snd N (Bq N:Int) ts){p:Nat}{t:Tie}(hp:ts[p]? = some t):EY (DW N ts p t).2.1 (ts.take p++ts.drop (p+1)) (DW N ts p t).1 ((DW N ts p t).2.2:Int):=by
 have hm:=Ad9 hp
 have hb:=h.below hs hm
 have hl:=(h.tie hm).2.2.2.1
 unfold DW
 split
 ·exact(ATq N t.1.toNat t.2.1.toNat (Bq N:Int) (t.2.2.1.toNat+1) (ts.take p++ts.drop (p+1)) 0 (by omega)).to (by simp)
 ·exact EY.refl _ _
theorem AP7(a0 a1 a2:Int)(a3:List Tie)(a4:Int)(a5:List Tie)(a6 a7:Bool)(a8 a9 a10:Int)(own:List Edge)(ho:own.length≤1000):
  AT CD many (a0,a1,a2,a3,a4,a5,a6,a7,a8,a9,a10,own,[],(0:Int),())=some (.inl (a0,a1,a2,a3,a4,a5,a6,a7,a8,a9,a10,own.filter fun e=>decide (e≠(min a0 a1,max a0 a1,())),())):=by
 have e:=DH (step:=CD) (fun i (a:List Edge)=>(a0,a1,a2,a3,a4,a5,a6,a7,a8,a9,a10,own,a,(i:Int),())) own (fun x a=>.inl (if x≠(min a0 a1,max a0 a1,())then a++[x]else a)) (fun a=>.inl (a0,a1,a2,a3,a4,a5,a6,a7,a8,a9,a10,a,())) (fun i a=>a.length≤i) (by omega)
  (fun i x a hi hx ha=>by
   refine⟨fun m' h' => ?_,fun r h'=>(by cases h')⟩
   cases h'
   constructor
   ·unfold CD
    dsimp only
    rw[AO,AK,Adq hi]
    obtain⟨u,v,⟨⟩⟩:=x
    simp only[Ah hx,HJ hx,Ak,M9,P9,AO,AgG]
    have hfit:fits ((a.length:Int)+(([(u,v,())]:List Edge).length:Int))=true:=BW (by simp;omega)
    rw[hfit,AH (by omega)]
    by_cases q:((u,v,()):Edge)=(min a0 a1,max a0 a1,())
    ·rw[Ad3 (fun hh=>hh q)]
     simp only[AeO,and_true]at q
     rw[Adq q.1,Adq q.2]
     rfl
    ·rw[Ad6 q]
     have:(!(decide (u=min a0 a1)&&decide (v=max a0 a1)))=true:=by
      rw[Ae0,← AgC,Adv,AeS,AeS]
      intro hh
      exact q (by rw[hh.1,hh.2])
     rw[this]
     rfl
   ·split
    ·rw[Ad0];simp;omega
    ·omega)
  (fun a _=>by unfold CD;dsimp only;rw[AO,AK,Adp (by omega)]) [] (Ad5 _)
 have e':AT CD many (a0,a1,a2,a3,a4,a5,a6,a7,a8,a9,a10,own,[],(0:Int),())=_:=e
 rw[e',BZ (fun(x:Edge) (a:List Edge)=>if x≠(min a0 a1,max a0 a1,())then a++[x]else a),QN (fun x:Edge=>x≠(min a0 a1,max a0 a1,())) (fun x=>x)]
 simp
theorem AP6{N:Nat}{ts:List Tie}(h:RG2 N ts)(a2:Int)(O:List Tie)(hO:O.length≤400)(w0 w1:Bool)(bu bv wr:Int)(i:Nat)(b a:Tie)(hi:i<O.length)(hx:O[i]? = some b)(ha:a∈ts)(he:ed a=ed b)(hl:a.2.2.1≤b.2.2.1)
  (hlb:b.2.2.1≤64) (ht:a.2.2.2.1=true→b.2.2.2.1=true) (hf:b.2.2.2.1=true→a.2.2.2.1=false→bu=b.1∧bv=b.2.1) (q:Int) (hq:0≤q∧q≤100000) :
  BS ((N:Int),ts,a2,O,w0,w1,bu,bv,wr,q,(i:Int),())=some (.inl ((N:Int),ts,a2,O,w0,w1,bu,bv,wr,q+(b.2.2.1-a.2.2.1),((i+1:Nat):Int),())):=by
 obtain⟨f1,k,f2,f3,f4⟩:=AZo h.oks ha
 have h0:=(h.tie ha).2.2.2.1
 have e1:a.1=b.1:=AfK (fun e:Edge=>e.1) he
 have e2:a.2.1=b.2.1:=AfK (fun e:Edge=>e.2.1) he
 have hfind:Sv (((N:Int),(ts,())),b.1,b.2.1,())=some ((k:Int),()):=by
  rw[AQh h,← e1,← e2,f1,Ad6 rfl,f2]
 have hw:IntKind.wrap .i64 (IntKind.wrap .i64 (q+b.2.2.1)-a.2.2.1)=q+(b.2.2.1-a.2.2.1):=by
  rw[Af (n:=q+b.2.2.1) (by omega),Af (by omega)];omega
 unfold BS
 dsimp only
 rw[AO,AK,Adq hi]
 simp only[Ah hx,hfind,Ah f4]
 rw[Am,Adp (by omega),hw,AH (by omega)]
 cases hat:a.2.2.2.1
 ·cases hbt:b.2.2.2.1
  ·simp only[hbt]
  ·obtain⟨g1,g2⟩:=hf hbt hat
   have:(ieq bu a.1&&(ieq bv a.2.1&&true))=true:=by
    rw[Ak,Ak,Adq (by rw[g1,e1]),Adq (by rw[g2,e2])]
    rfl
   simp only[hbt,this,AeM,Ady]
 ·have hbt:=ht hat
  simp only[hbt,Ady]
theorem AP8{N:Nat}{ts:List Tie}(h:RG2 N ts)(a2:Int)(w0 w1:Bool)(bu bv wr:Int)(f:Option Edge)(hbf:∀ e,f=some e→bu=e.1∧bv=e.2.1)(O:List Tie)(hO:O.length≤400)(hl:∀ b∈O,b.2.2.1≤64){A:List Tie}{r:Int}(hA:∀ a∈A,a∈ts)(hr:EY f A O r):
  AT BS many ((N:Int),ts,a2,O,w0,w1,bu,bv,wr,(0:Int),(0:Int),())=some (.inr (.inl (w0,w1,bu,bv,wr,r,()))):=by
 have key:∀ (B:List Tie) (A:List Tie) (r:Int) (P:List Tie) (q:Int) (cnt:Nat),O=P++B→B.length<cnt→(∀ a∈A,a∈ts)→EY f A B r→0≤q→q≤64*(P.length:Int) →
   AQ BS cnt ((N:Int),ts,a2,O,w0,w1,bu,bv,wr,q,(P.length:Int),())=some (.inr (.inl (w0,w1,bu,bv,wr,q+r,()))):=by
  intro B
  induction B with
  |nil=>
   intro A r P q cnt hP hc hA hr h0 h1
   obtain⟨cnt,rfl⟩:∃ c,cnt=c+1:=⟨cnt-1,by omega⟩
   cases hr
   have hPl:O.length=P.length:=by rw[hP];simp
   have:BS ((N:Int),ts,a2,O,w0,w1,bu,bv,wr,q,(P.length:Int),())=some (.inr (.inr (.inl (w0,w1,bu,bv,wr,q,())))):=by
    unfold BS
    dsimp only
    rw[AO,AK,Adp (by omega)]
   rw[AQ,this,Int.add_zero]
  |cons b B ih=>
   intro A r P q cnt hP hc hA hr h0 h1
   obtain⟨cnt,rfl⟩:∃ c,cnt=c+1:=⟨cnt-1,by omega⟩
   rw[Ad1]at hc
   cases hr with
   |cons e1 e2 e3 e4 hr=>
    rename_i a A r
    have hPl:O.length=P.length+(B.length+1):=by rw[hP];simp
    have hx:O[P.length]? = some b:=by rw[hP];simp
    have hbl:=hl b (Ad9 hx)
    have ha:=hA a (by simp)
    have hal:=(h.tie ha).2.2.2.1
    rw[AQ,AP6 h a2 O hO w0 w1 bu bv wr P.length b a (by omega) hx ha e1 e2 hbl e3 (fun q1 q2=>hbf _ (e4 q1 q2)) q (by omega)]
    have:=ih A r (P++[b]) (q+(b.2.2.1-a.2.2.1)) cnt (by rw[hP];simp) (by omega) (fun a ha=>hA a (by simp[ha])) hr (by omega) (by rw[Ad0,List.length_singleton];omega)
    rw[Ad0,List.length_singleton]at this
    simp only[]
    rw[this]
    rw[show q+(b.2.2.1-a.2.2.1)+r=q+(b.2.2.1-a.2.2.1+r) by omega]
 have:=key O A r [] 0 many rfl (by simp only[many];omega) hA hr (by omega) (by simp)
 rw[Int.zero_add]at this
 rw[Ag]
 exact this
theorem Vo(g:Int×List Tie×Unit)(u v:Int)
  (h0:wfD (.prod (.int .i64) (.prod (.slice (.prod (.int .i64) (.prod (.int .i64) (.prod (.int .i64) (.prod .bool .unit))))) .unit)) g)
  (h1:wfD (.int .i64) u) (h2:wfD (.int .i64) v):FY (g,u,v,())=some (true,()):=by
 obtain⟨n,ts,⟨⟩⟩:=g
 rw[Nl,G0]
 simp only[AH5,Ady]
 rcases ALx n ts []with g1|⟨g1,g2,g3,g4⟩
 ·simp only[g1]
 simp only[g1]
 rcases ABa (n:=n) (ts:=ts) (by omega)with⟨N,rfl,h,hS,hv⟩|hv
 ·have s1:=ANn (N:Int) (N:Int) ts ts (by omega)
  have hz:((Tj.1==false)&&((Tj.2.1==false)&&(ieq Tj.2.2.1.1 (0:Int)&&(ieq Tj.2.2.1.2.1 (0:Int)&&(ieq Tj.2.2.2.1 (0:Int)&&true)))))=true:=by
   unfold Tj
   simp only[CL]
   rfl
  simp only[hv,Ady]
  rcases AXm h u v with⟨q,e⟩|⟨q,q1,e⟩|⟨q,q1,t,g,e⟩
  ·simp only[e,Ak (10:Int) 0,s1,AgU,Ad2]
   rw[hz]
   rfl
  ·simp only[e,Ak (6:Int) 0,s1,AgU,Ad2]
   rw[hz]
   rfl
  ·obtain⟨r1,r2,r3,r4,r5⟩:=AVl h hS g
   have hrise:=ATr h hS g
   generalize hp:ts.findIdx (CA u v)=p at *
   have hat:CA u v t=true:=by
    have hk:ts.findIdx (CA u v)<ts.length:=Ae8.2 (Aez.1 q1)
    have hg:=Af8 (xs:=ts) (p:=CA u v) (w:=hk)
    have:ts[ts.findIdx (CA u v)]=t:=by
     rw[← hp]at g
     exact(AeI.1 g).2
    rwa [this]at hg
   unfold CA at hat
   rw[AeS]at hat
   have hpl:p<ts.length:=(AeI.1 g).1
   have hpe:ts[p]=t:=(AeI.1 g).2
   have hspl:ts=ts.take p++t::ts.drop (p+1):=by
    conv=>lhs;rw[← Aef p ts,Aea hpl,hpe]
   have hte:ed t=(min u v,max u v,()):=by unfold ed;rw[hat.1,hat.2]
   have hrest:(ts.take p++ts.drop (p+1)).map ed=(ts.map ed).filter fun e=>decide (e≠(min u v,max u v,())):=by
    have hpp:=h.edP
    rw[hspl,Ae9,AeB,hte]at hpp
    rw[Ae9,AV4 hpp]
    congr 1
    conv=>rhs;rw[hspl]
    rw[Ae9,AeB,hte]
   have hrl:((ts.map ed).filter fun e=>decide (e≠(min u v,max u v,()))).length≤400:=by
    have h3:=Af1 (fun e=>decide (e≠(min u v,max u v,()))) (ts.map ed)
    rw[Aek]at h3
    omega
   have jr:=fun a4 a5 a6 a7 a8 a9 a10=>AP7 u v (N:Int) ts a4 a5 a6 a7 a8 a9 a10 (ts.map ed) (by rw[Aek];omega)
   rw[← hrest]at jr hrl
   have hOl:=r1.ht
   have hin:∀ e∈(ts.take p++ts.drop (p+1)).map ed,In (N:Int) e.1∧In (N:Int) e.2.1:=fun e he=>by
    rw[hrest,Aei]at he
    exact h.inE e he.1
   obtain⟨o,ec,cc⟩:=Ca (N:Int) ((ts.take p++ts.drop (p+1)).map ed) ⟨by have:=h.h1;omega,by have:=h.hN;omega⟩ (by omega) hin
   have s2:=AJQ ((ts.take p++ts.drop (p+1)).map ed) (by omega)
   have hsnd:=(C8 _).2 (r2.parts r1)
   have ho:o.length=N:=by have:=cc.len;omega
   have hb64:∀ b∈(DW N ts p t).1,b.2.2.1≤64:=fun b hb=>by
    have:=(r2.lvl b hb).2
    have:=AEb h.hN
    omega
   have hmem:∀ a∈ts.take p++ts.drop (p+1),a∈ts:=fun a ha=>by
    rcases Adu.1 ha with ha|ha
    ·exact Af5 ha
    ·exact AfI ha
   have jl:=fun w0 w1 wr=>AP8 h (N:Int) w0 w1 (((DW N ts p t).2.1.getD (0,0,())).1) (((DW N ts p t).2.1.getD (0,0,())).2.1) wr (DW N ts p t).2.1 (fun e he=>by rw[he];exact⟨rfl,rfl⟩) (DW N ts p t).1 hOl hb64 hmem hrise
   have hedges:Ik (((N:Int),((DW N ts p t).1,())),())=some ((ts.take p++ts.drop (p+1)).map ed,()):=by
    rw[MA (N:Int) _ hOl r1.r21,r3]
   have iu:In (N:Int) u:=ALX h.h1 h.hN q.1
   have iv:In (N:Int) v:=ALX h.h1 h.hN q.2
   have hcon:decide (cl o u=cl o v)=Ds ((ts.take p++ts.drop (p+1)).map ed) u v:=by
    rw[Aex,AeS,BN]
    exact cc.same _ _ iu iv
   have hd:∀ w:Int,AN o (AE w) 0=cl o w:=fun _=>rfl
   have huv:Con ((ts.take p++ts.drop (p+1)).map ed) t.1 t.2.1↔Con ((ts.take p++ts.drop (p+1)).map ed) u v:=by
    rw[hat.1,hat.2]
    rcases Int.le_total u v with hle|hle
    ·rw[Int.min_eq_left hle,Int.max_eq_right hle]
    ·rw[Int.min_eq_right hle,Int.max_eq_left hle]
     exact⟨fun c=>c.symm,fun c=>c.symm⟩
   simp only[e,CL,Ady,MA (N:Int) ts h.ht h.r21,AcR,jr,ec,hedges,s2,LJ r1,hsnd]
   cases ht:t.2.2.2.1
   ·obtain⟨n1,n2⟩:=r5 ht
    rw[n1,n2]at jl
    simp only[Option.isSome_none,Agt]at jl
    simp only[n1,n2,Option.isSome_none,AeM,Agt,jl]
    have:ilt (0:Int) ((0:Nat):Int)=false:=by rw[Am];rfl
    simp only[this]
    rw[CL]
   ·have hfound:=r4 ht
    have hb:(DW N ts p t).2.1.isSome=Ds ((ts.take p++ts.drop (p+1)).map ed) u v:=by
     rw[Aex,BN,← huv,← hfound]
     cases (DW N ts p t).2.1<;>simp
    simp only[AHo ho (show InV N u from q.1),AHo ho (show InV N v from q.2),hd,Ak (cl o u),hcon,hb,beq_self_eq_true,Ady,jl,CL]
 ·simp only[hv,AeM]
end Go.Pev.Pl
end
section
namespace Go.Pev
open Go.Proofs
noncomputable section
abbrev Zk:Hints:={ loop:=fun n=>match n with|0=>Aa 0 26 ADa ADZ Ek|_=>fun _ _ _=>none,fp:=fun n=>match n with|6=>[[],[],[],[],[],[],[],[],[]]|_=>[] }
theorem AGr:∀ v,Ek v=roundOf Tryz.prog Env.none Zk 1 0 26 (AB Tryz.f48 0) ADa ADZ v:=by
 rintro⟨a0,a1,a2,⟨⟩⟩
 kernel_rfl
theorem AVH:AD (AB Tryz.f48 0) 1=[]:=by kernel_rfl
theorem AVI:AZ Tryz.prog 0 (.loop (AB Tryz.f48 0)) (Zk.loop 0):=AX Env.AGH (AGr) (AA AVH trivial)
theorem AQB:∀ v,Pz v=AS Tryz.prog Env.none Zk Tryz.f48 Zj Zi Zh v:=by
 rintro⟨a0,a1,⟨⟩⟩
 kernel_rfl
theorem AY8:AD (AW Tryz.f48) 0=[(0,AB Tryz.f48 0)]:=by kernel_rfl
theorem ALU:AU Tryz.prog 48 (AG 2 Zj Zi Zh Si):=AJ Env.AGH Tryz.func48 (by kernel_rfl) (by kernel_rfl) rfl (fun v=>(ADb v).trans (AQB v)) (AA AY8 ⟨AVI,trivial⟩)
def ABK:Env:=Env.none.ext 48 true true (AG 2 Zj Zi Zh Si)
theorem VP:Ac Tryz.prog ABK:=Env.Ae Env.AGH ALU (fun _=>AP rfl rfl) (fun _=>AL rfl rfl)
abbrev AWj:Hints:={  }
theorem AM7:∀ v,PH v=AS Tryz.prog ABK AWj Tryz.f159 XD XC XB v:=by
 rintro⟨a0,⟨⟩⟩
 kernel_rfl
theorem AWi:AD (AW Tryz.f159) 0=[]:=by kernel_rfl
theorem AIi:AU Tryz.prog 159 (AG 1 XD XC XB LD):=AJ VP Tryz.func159 (by kernel_rfl) (by kernel_rfl) rfl (fun v=>(ACj v).trans (AM7 v)) (AA AWi trivial)
def AAz:Env:=ABK.ext 159 true true (AG 1 XD XC XB LD)
theorem VE:Ac Tryz.prog AAz:=Env.Ae VP AIi (fun _=>AP rfl rfl) (fun _=>AL rfl rfl)
abbrev AdV:Hints:={  }
theorem Aae:∀ v,ARn v=AS Tryz.prog AAz AdV Tryz.f156 AW4 AW3 AW2 v:=by
 rintro⟨a0,a1,⟨⟩⟩
 kernel_rfl
theorem AdU:AD (AW Tryz.f156) 0=[]:=by kernel_rfl
theorem AW1:AU Tryz.prog 156 (AG 2 AW4 AW3 AW2 tin):=AJ VE Tryz.func156 (by kernel_rfl) (by kernel_rfl) rfl (fun v=>(AW5 v).trans (Aae v)) (AA AdU trivial)
def AaO:Env:=AAz.ext 156 true true (AG 2 AW4 AW3 AW2 tin)
theorem AMx:Ac Tryz.prog AaO:=Env.Ae VE AW1 (fun _=>AP rfl rfl) (fun _=>AL rfl rfl)
abbrev Acf:Hints:={  }
theorem AW9:∀ v,AEq v=AS Tryz.prog AaO Acf Tryz.f187 ANO ANN ANM v:=by
 rintro⟨a0,a1,a2,⟨⟩⟩
 kernel_rfl
theorem Ace:AD (AW Tryz.f187) 0=[]:=by kernel_rfl
theorem ATY:AU Tryz.prog 187 (AG 3 ANO ANN ANM ATZ):=AJ AMx Tryz.func187 (by kernel_rfl) (by kernel_rfl) rfl (fun v=>(ARo v).trans (AW9 v)) (AA Ace trivial)
def ARa:Env:=AaO.ext 187 true true (AG 3 ANO ANN ANM ATZ)
theorem AD5:Ac Tryz.prog ARa:=Env.Ae AMx ATY (fun _=>AP rfl rfl) (fun _=>AL rfl rfl)
abbrev AWh:Hints:={ fp:=fun n=>match n with|5=>[[],[],[],[],[],[],[],[],[]]|_=>[] }
theorem AM6:∀ v,PG v=AS Tryz.prog ARa AWh Tryz.f197 W9 W8 W7 v:=by
 rintro⟨a0,a1,⟨⟩⟩
 kernel_rfl
theorem AWg:AD (AW Tryz.f197) 0=[]:=by kernel_rfl
theorem AIh:AU Tryz.prog 197 (AG 2 W9 W8 W7 XA):=AJ AD5 Tryz.func197 (by kernel_rfl) (by kernel_rfl) rfl (fun v=>(ACi v).trans (AM6 v)) (AA AWg trivial)
def Qo:Env:=ARa.ext 197 true true (AG 2 W9 W8 W7 XA)
theorem MU:Ac Tryz.prog Qo:=Env.Ae AD5 AIh (fun _=>AP rfl rfl) (fun _=>AL rfl rfl)
abbrev AEl:Hints:={ loop:=fun n=>match n with|0=>Aa 0 25 AIv AIu HX|_=>fun _ _ _=>none }
theorem AIt:∀ v,HX v=roundOf Tryz.prog Qo AEl 1 0 25 (AB Tryz.f129 0) AIv AIu v:=by
 rintro⟨a0,a1,a2,a3,a4,⟨⟩⟩
 kernel_rfl
theorem AWz:AD (AB Tryz.f129 0) 1=[]:=by kernel_rfl
theorem AW0:AZ Tryz.prog 0 (.loop (AB Tryz.f129 0)) (AEl.loop 0):=AX MU (AIt) (AA AWz trivial)
theorem ATV:∀ v,WT v=AS Tryz.prog Qo AEl Tryz.f129 AEk AEj AEi v:=by
 rintro⟨a0,⟨⟩⟩
 kernel_rfl
theorem Aab:AD (AW Tryz.f129) 0=[(0,AB Tryz.f129 0)]:=by kernel_rfl
theorem ANI:AU Tryz.prog 129 (AG 1 AEk AEj AEi AIx):=AJ MU Tryz.func129 (by kernel_rfl) (by kernel_rfl) rfl (fun v=>(AIw v).trans (ATV v)) (AA Aab ⟨AW0,trivial⟩)
def Ww:Env:=Qo.ext 129 true true (AG 1 AEk AEj AEi AIx)
theorem O2:Ac Tryz.prog Ww:=Env.Ae MU ANI (fun _=>AP rfl rfl) (fun _=>AL rfl rfl)
abbrev Zr:Hints:={ loop:=fun n=>match n with|0=>Aa 0 19 ADd ADc Fg|_=>fun _ _ _=>none }
theorem AGu:∀ v,Fg v=roundOf Tryz.prog Ww Zr 1 0 19 (AB Tryz.f146 0) ADd ADc v:=by
 rintro⟨a0,a1,a2,a3,⟨⟩⟩
 kernel_rfl
theorem AVM:AD (AB Tryz.f146 0) 1=[]:=by kernel_rfl
theorem AVN:AZ Tryz.prog 0 (.loop (AB Tryz.f146 0)) (Zr.loop 0):=AX O2 (AGu) (AA AVM trivial)
theorem AQM:∀ v,P6 v=AS Tryz.prog Ww Zr Tryz.f146 Zq Zp Zo v:=by
 rintro⟨a0,a1,⟨⟩⟩
 kernel_rfl
theorem AZH:AD (AW Tryz.f146) 0=[(0,AB Tryz.f146 0)]:=by kernel_rfl
theorem ALV:AU Tryz.prog 146 (AG 2 Zq Zp Zo OZ):=AJ O2 Tryz.func146 (by kernel_rfl) (by kernel_rfl) rfl (fun v=>(ADe v).trans (AQM v)) (AA AZH ⟨AVN,trivial⟩)
def ABL:Env:=Ww.ext 146 true true (AG 2 Zq Zp Zo OZ)
theorem VQ:Ac Tryz.prog ABL:=Env.Ae O2 ALV (fun _=>AP rfl rfl) (fun _=>AL rfl rfl)
abbrev AMO:Hints:={  }
theorem ACP:∀ v,Il v=AS Tryz.prog ABL AMO Tryz.f113 MF ME MD v:=by
 rintro⟨a0,a1,⟨⟩⟩
 kernel_rfl
theorem AMN:AD (AW Tryz.f113) 0=[]:=by kernel_rfl
theorem AAN:AU Tryz.prog 113 (AG 2 MF ME MD El):=AJ VQ Tryz.func113 (by kernel_rfl) (by kernel_rfl) rfl (fun v=>(QW v).trans (ACP v)) (AA AMN trivial)
def Ix:Env:=ABL.ext 113 true true (AG 2 MF ME MD El)
theorem IL:Ac Tryz.prog Ix:=Env.Ae VQ AAN (fun _=>AP rfl rfl) (fun _=>AL rfl rfl)
abbrev APZ:Hints:={ loop:=fun n=>match n with|0=>Aa 0 25 ASQ ASP J6|_=>fun _ _ _=>none }
theorem APV:∀ v,J6 v=roundOf Tryz.prog Ix APZ 1 0 25 (AB Tryz.f177 0) ASQ ASP v:=by
 rintro⟨a0,a1,a2,⟨⟩⟩
 kernel_rfl
theorem AbQ:AD (AB Tryz.f177 0) 1=[]:=by kernel_rfl
theorem AbR:AZ Tryz.prog 0 (.loop (AB Tryz.f177 0)) (APZ.loop 0):=AX IL (APV) (AA AbQ trivial)
theorem AYv:∀ v,AGK v=AS Tryz.prog Ix APZ Tryz.f177 APY APX APW v:=by
 rintro⟨a0,⟨⟩⟩
 kernel_rfl
theorem Ac9:AD (AW Tryz.f177) 0=[(0,AB Tryz.f177 0)]:=by kernel_rfl
theorem AUk:AU Tryz.prog 177 (AG 1 APY APX APW AUl):=AJ IL Tryz.func177 (by kernel_rfl) (by kernel_rfl) rfl (fun v=>(ASR v).trans (AYv v)) (AA Ac9 ⟨AbR,trivial⟩)
def ARf:Env:=Ix.ext 177 true true (AG 1 APY APX APW AUl)
theorem AEA:Ac Tryz.prog ARf:=Env.Ae IL AUk (fun _=>AP rfl rfl) (fun _=>AL rfl rfl)
abbrev Aby:Hints:={  }
theorem AVi:∀ v,Wr v=AS Tryz.prog ARf Aby Tryz.f201 AHC AHB AHA v:=by
 rintro⟨a0,⟨⟩⟩
 kernel_rfl
theorem Abx:AD (AW Tryz.f201) 0=[]:=by kernel_rfl
theorem AQU:AU Tryz.prog 201 (AG 2 AHC AHB AHA ALw):=AJ AEA Tryz.func201 (by kernel_rfl) (by kernel_rfl) rfl (fun v=>(ALv v).trans (AVi v)) (AA Abx trivial)
def Q6:Env:=ARf.ext 201 false true (AG 2 AHC AHB AHA ALw)
theorem Km:Ac Tryz.prog Q6:=Env.Ae AEA AQU ((by simp)) (fun _=>AL rfl rfl)
abbrev Jc:Hints:={ loop:=fun n=>match n with|0=>Aa 0 36 AAX AAV EV|1=>Aa 0 36 AAW AAU EU|_=>fun _ _ _=>none }
theorem ACT:∀ v,EU v=roundOf Tryz.prog Q6 Jc 2 0 36 (AB Tryz.f186 1) AAW AAU v:=by
 rintro⟨a0,a1,a2,a3,⟨⟩⟩
 kernel_rfl
theorem AQ4:AD (AB Tryz.f186 1) 2=[]:=by kernel_rfl
theorem AQ6:AZ Tryz.prog 0 (.loop (AB Tryz.f186 1)) (Jc.loop 1):=AX Km (ACT) (AA AQ4 trivial)
theorem ACU:∀ v,EV v=roundOf Tryz.prog Q6 Jc 1 0 36 (AB Tryz.f186 0) AAX AAV v:=by
 rintro⟨a0,a1,a2,a3,a4,⟨⟩⟩
 kernel_rfl
theorem AQ5:AD (AB Tryz.f186 0) 1=[]:=by kernel_rfl
theorem AQ7:AZ Tryz.prog 0 (.loop (AB Tryz.f186 0)) (Jc.loop 0):=AX Km (ACU) (AA AQ5 trivial)
theorem AMT:∀ v,NH v=AS Tryz.prog Q6 Jc Tryz.f186 TC TB TA v:=by
 rintro⟨a0,⟨⟩⟩
 kernel_rfl
theorem AV8:AD (AW Tryz.f186) 0=[(0,AB Tryz.f186 0),(1,AB Tryz.f186 1)]:=by kernel_rfl
theorem AHY:AU Tryz.prog 186 (AG 1 TC TB TA Im):=AJ Km Tryz.func186 (by kernel_rfl) (by kernel_rfl) rfl (fun v=>(AAY v).trans (AMT v)) (AA AV8 ⟨AQ7,AQ6,trivial⟩)
def Tf:Env:=Q6.ext 186 true true (AG 1 TC TB TA Im)
theorem RA:Ac Tryz.prog Tf:=Env.Ae Km AHY (fun _=>AP rfl rfl) (fun _=>AL rfl rfl)
theorem ATu:Tryz.f195.body.isSome=true:=by kernel_rfl
theorem ATt : (Tryz.f195.name == "runtime.NumGoroutine") = false := by kernel_rfl
theorem ATs:loops (AW Tryz.f195)=0:=by kernel_rfl
def Iu:Env:=Tf.ext 195 false false (C3 Tryz.prog Tf {} Tryz.f195)
theorem II:Ac Tryz.prog Iu:=Env.Ae RA (Cm RA Tryz.func195 ATu ATt ATs) (by simp) (by simp)
end
end Go.Pev
end
section
namespace Go.Pev
open Go.Proofs
noncomputable section
abbrev Hu:Hints:={ loop:=fun n=>match n with|0=>Aa 0 19 Ku Kt B5|_=>fun _ _ _=>none }
theorem Od:∀ v,B5 v=roundOf Tryz.prog Iu Hu 1 0 19 (AB Tryz.f174 0) Ku Kt v:=by
 rintro⟨a0,a1,a2,⟨⟩⟩
 kernel_rfl
theorem Vs:AD (AB Tryz.f174 0) 1=[]:=by kernel_rfl
theorem Vt:AZ Tryz.prog 0 (.loop (AB Tryz.f174 0)) (Hu.loop 0):=AX II (Od) (AA Vs trivial)
theorem Sl:∀ v,E6 v=AS Tryz.prog Iu Hu Tryz.f174 Ht Hs Hr v:=by
 rintro⟨a0,⟨⟩⟩
 kernel_rfl
theorem Zt:AD (AW Tryz.f174) 0=[(0,AB Tryz.f174 0)]:=by kernel_rfl
theorem QG:AU Tryz.prog 174 (AG 2 Ht Hs Hr G3):=AJ II Tryz.func174 (by kernel_rfl) (by kernel_rfl) rfl (fun v=>(Kv v).trans (Sl v)) (AA Zt ⟨Vt,trivial⟩)
def IJ:Env:=Iu.E8 174 1 195 (AG 2 Ht Hs Hr G3)
theorem Iv:Ac Tryz.prog IJ:=Env.Bc II QG (AL rfl rfl)
abbrev WC:Hints:={  }
theorem QZ:∀ v,EC v=AS Tryz.prog IJ WC Tryz.f154 Gq Gp Gn v:=by
 rintro⟨a0,⟨⟩⟩
 kernel_rfl
theorem WB:AD (AW Tryz.f154) 0=[]:=by kernel_rfl
theorem Ov:AU Tryz.prog 154 (AG 2 Gq Gp Gn D5):=AJ Iv Tryz.func154 (by kernel_rfl) (by kernel_rfl) rfl (fun v=>(Ja v).trans (QZ v)) (AA WB trivial)
def ED:Env:=IJ.E8 154 1 195 (AG 2 Gq Gp Gn D5)
theorem EZ:Ac Tryz.prog ED:=Env.Bc Iv Ov (AL rfl rfl)
abbrev APK:Hints:={ loop:=fun n=>match n with|0=>Aa 0 23 ASI ASH J1|_=>fun _ _ _=>none }
theorem APG:∀ v,J1 v=roundOf Tryz.prog ED APK 1 0 23 (AB Tryz.f196 0) ASI ASH v:=by
 rintro⟨a0,a1,a2,a3,a4,⟨⟩⟩
 kernel_rfl
theorem AbJ:AD (AB Tryz.f196 0) 1=[]:=by kernel_rfl
theorem AbK:AZ Tryz.prog 0 (.loop (AB Tryz.f196 0)) (APK.loop 0):=AX EZ (APG) (AA AbJ trivial)
theorem AYq:∀ v,AGE v=AS Tryz.prog ED APK Tryz.f196 APJ API APH v:=by
 rintro⟨a0,⟨⟩⟩
 kernel_rfl
theorem Ac4:AD (AW Tryz.f196) 0=[(0,AB Tryz.f196 0)]:=by kernel_rfl
theorem AUc:AU Tryz.prog 196 (AG 1 APJ API APH once):=AJ EZ Tryz.func196 (by kernel_rfl) (by kernel_rfl) rfl (fun v=>(ASJ v).trans (AYq v)) (AA Ac4 ⟨AbK,trivial⟩)
def ARd:Env:=ED.ext 196 true true (AG 1 APJ API APH once)
theorem AD8:Ac Tryz.prog ARd:=Env.Ae EZ AUc (fun _=>AP rfl rfl) (fun _=>AL rfl rfl)
abbrev AXR:Hints:={  }
theorem ANs:∀ v,PO v=AS Tryz.prog ARd AXR Tryz.f176 Xs Xr Xq v:=by
 rintro⟨a0,⟨⟩⟩
 kernel_rfl
theorem AXQ:AD (AW Tryz.f176) 0=[]:=by kernel_rfl
theorem AJS:AU Tryz.prog 176 (AG 1 Xs Xr Xq OC):=AJ AD8 Tryz.func176 (by kernel_rfl) (by kernel_rfl) rfl (fun v=>(AC7 v).trans (ANs v)) (AA AXQ trivial)
def AA6:Env:=ARd.ext 176 true true (AG 1 Xs Xr Xq OC)
theorem VJ:Ac Tryz.prog AA6:=Env.Ae AD8 AJS (fun _=>AP rfl rfl) (fun _=>AL rfl rfl)
abbrev AWf:Hints:={ fp:=fun n=>match n with|1=>[[],[],[],[],[],[],[],[0],[]]|_=>[] }
theorem AM4:∀ v,PF v=AS Tryz.prog AA6 AWf Tryz.f200 W6 W5 W4 v:=by
 rintro⟨a0,a1,⟨⟩⟩
 kernel_rfl
theorem AWe:AD (AW Tryz.f200) 0=[]:=by kernel_rfl
theorem AIg:AU Tryz.prog 200 (AG 2 W6 W5 W4 RL):=AJ VJ Tryz.func200 (by kernel_rfl) (by kernel_rfl) rfl (fun v=>(ACh v).trans (AM4 v)) (AA AWe trivial)
def Qn:Env:=AA6.ext 200 true true (AG 2 W6 W5 W4 RL)
theorem MT:Ac Tryz.prog Qn:=Env.Ae VJ AIg (fun _=>AP rfl rfl) (fun _=>AL rfl rfl)
abbrev YN:Hints:={ loop:=fun n=>match n with|0=>Aa 0 29 ADF ADE Ef|_=>fun _ _ _=>none }
theorem AFY:∀ v,Ef v=roundOf Tryz.prog Qn YN 1 0 29 (AB Tryz.f199 0) ADF ADE v:=by
 rintro⟨a0,a1,a2,a3,a4,⟨⟩⟩
 kernel_rfl
theorem AT8:AD (AB Tryz.f199 0) 1=[]:=by kernel_rfl
theorem AT9:AZ Tryz.prog 0 (.loop (AB Tryz.f199 0)) (YN.loop 0):=AX MT (AFY) (AA AT8 trivial)
theorem AOX:∀ v,Pa v=AS Tryz.prog Qn YN Tryz.f199 YM YL YK v:=by
 rintro⟨a0,a1,⟨⟩⟩
 kernel_rfl
theorem AXo:AD (AW Tryz.f199) 0=[(0,AB Tryz.f199 0)]:=by kernel_rfl
theorem AJh:AU Tryz.prog 199 (AG 2 YM YL YK AFZ):=AJ MT Tryz.func199 (by kernel_rfl) (by kernel_rfl) rfl (fun v=>(ADG v).trans (AOX v)) (AA AXo ⟨AT9,trivial⟩)
def ABA:Env:=Qn.ext 199 true true (AG 2 YM YL YK AFZ)
theorem VL:Ac Tryz.prog ABA:=Env.Ae MT AJh (fun _=>AP rfl rfl) (fun _=>AL rfl rfl)
abbrev Aaq:Hints:={  }
theorem ATw:∀ v,Wb v=AS Tryz.prog ABA Aaq Tryz.f185 AFI AFH AFG v:=by
 rintro⟨a0,a1,⟨⟩⟩
 kernel_rfl
theorem Aap:AD (AW Tryz.f185) 0=[]:=by kernel_rfl
theorem AN3:AU Tryz.prog 185 (AG 2 AFI AFH AFG ADA):=AJ VL Tryz.func185 (by kernel_rfl) (by kernel_rfl) rfl (fun v=>(AJa v).trans (ATw v)) (AA Aap trivial)
def AIF:Env:=ABA.ext 185 true true (AG 2 AFI AFH AFG ADA)
theorem AA8:Ac Tryz.prog AIF:=Env.Ae VL AN3 (fun _=>AP rfl rfl) (fun _=>AL rfl rfl)
abbrev AXT:Hints:={  }
theorem ANu:∀ v,PQ v=AS Tryz.prog AIF AXT Tryz.f202 Xv Xu Xt v:=by
 rintro⟨a0,⟨⟩⟩
 kernel_rfl
theorem AXS:AD (AW Tryz.f202) 0=[]:=by kernel_rfl
theorem AJT:AU Tryz.prog 202 (AG 1 Xv Xu Xt Xw):=AJ AA8 Tryz.func202 (by kernel_rfl) (by kernel_rfl) rfl (fun v=>(AC8 v).trans (ANu v)) (AA AXS trivial)
def AA7:Env:=AIF.ext 202 true true (AG 1 Xv Xu Xt Xw)
theorem VK:Ac Tryz.prog AA7:=Env.Ae AA8 AJT (fun _=>AP rfl rfl) (fun _=>AL rfl rfl)
theorem ATT:Tryz.f180.body.isSome=true:=by kernel_rfl
theorem ATS : (Tryz.f180.name == "runtime.NumGoroutine") = false := by kernel_rfl
theorem ATR:loops (AW Tryz.f180)=0:=by kernel_rfl
def It:Env:=AA7.ext 180 false false (C3 Tryz.prog AA7 {} Tryz.f180)
theorem IH:Ac Tryz.prog It:=Env.Ae VK (Cm VK Tryz.func180 ATT ATS ATR) (by simp) (by simp)
abbrev Fk:Hints:={ loop:=fun n=>match n with|0=>Aa 1 19 IZ IY Bf|_=>fun _ _ _=>none }
theorem Ly:∀ v,Bf v=roundOf Tryz.prog It Fk 1 1 19 (AB Tryz.f179 0) IZ IY v:=by
 rintro⟨a0,a1,a2,a3,⟨⟩⟩
 kernel_rfl
theorem QC:AD (AB Tryz.f179 0) 1=[]:=by kernel_rfl
theorem QD:AZ Tryz.prog 1 (.loop (AB Tryz.f179 0)) (Fk.loop 0):=AX IH (Ly) (AA QC trivial)
theorem Oa:∀ v,Dq v=AS Tryz.prog It Fk Tryz.f179 Fj Fi Fh v:=by
 rintro⟨a0,a1,⟨⟩⟩
 kernel_rfl
theorem Sj:AD (AW Tryz.f179) 0=[(0,AB Tryz.f179 0)]:=by kernel_rfl
theorem Na:AU Tryz.prog 179 (AG 2 Fj Fi Fh E4):=AJ IH Tryz.func179 (by kernel_rfl) (by kernel_rfl) rfl (fun v=>(Ia v).trans (Oa v)) (AA Sj ⟨QD,trivial⟩)
def F7:Env:=It.E8 179 1 180 (AG 2 Fj Fi Fh E4)
theorem Gx:Ac Tryz.prog F7:=Env.Bc IH Na (AL rfl rfl)
abbrev AWp:Hints:={  }
theorem ANF:∀ v,PK v=AS Tryz.prog F7 AWp Tryz.f157 XQ XP XO v:=by
 rintro⟨a0,a1,⟨⟩⟩
 kernel_rfl
theorem AWo:AD (AW Tryz.f157) 0=[]:=by kernel_rfl
theorem AIo:AU Tryz.prog 157 (AG 2 XQ XP XO N4):=AJ Gx Tryz.func157 (by kernel_rfl) (by kernel_rfl) rfl (fun v=>(ACr v).trans (ANF v)) (AA AWo trivial)
def AA1:Env:=F7.ext 157 true true (AG 2 XQ XP XO N4)
theorem VG:Ac Tryz.prog AA1:=Env.Ae Gx AIo (fun _=>AP rfl rfl) (fun _=>AL rfl rfl)
theorem AcP:Tryz.f198.body.isSome=true:=by kernel_rfl
theorem AcO : (Tryz.f198.name == "runtime.NumGoroutine") = false := by kernel_rfl
theorem AcN:loops (AW Tryz.f198)=0:=by kernel_rfl
def NX:Env:=AA1.ext 198 false false (C3 Tryz.prog AA1 {} Tryz.f198)
theorem Kr:Ac Tryz.prog NX:=Env.Ae VG (Cm VG Tryz.func198 AcP AcO AcN) (by simp) (by simp)
end
end Go.Pev
end
section
namespace Go.Pev
open Go.Proofs
noncomputable section
abbrev AQZ:Hints:={ loop:=fun n=>match n with|0=>Aa 0 107 ASl ASk Ig|_=>fun _ _ _=>none,fp:=fun n=>match n with|8=>[[],[],[],[],[],[],[],[],[1000003],[],[],[],[],[],[],[],[],[0],[0],[0],[],[0],[0],[0],[2,26],[],[2,26],[2,26],[],[],[],[],[]]|13=>[[],[0],[0],[0],[2],[],[],[],[0],[0],[0],[6],[],[0],[0],[0],[4],[],[],[]]|3=>[[],[],[],[],[],[],[],[],[11],[],[],[],[8,10,12],[]]|_=>[] }
theorem AQV:∀ v,Ig v=roundOf Tryz.prog NX AQZ 1 0 107 (AB Tryz.f178 0) ASl ASk v:=by
 rintro⟨a0,a1,a2,a3,a4,a5,a6,⟨⟩⟩
 kernel_rfl
theorem Ab2:AD (AB Tryz.f178 0) 1=[]:=by kernel_rfl
theorem Ab3:AZ Tryz.prog 0 (.loop (AB Tryz.f178 0)) (AQZ.loop 0):=AX Kr (AQV) (AA Ab2 trivial)
theorem AZa:∀ v,AHE v=AS Tryz.prog NX AQZ Tryz.f178 AQY AQX AQW v:=by
 rintro⟨a0,a1,⟨⟩⟩
 kernel_rfl
theorem AdG:AD (AW Tryz.f178) 0=[(0,AB Tryz.f178 0)]:=by kernel_rfl
theorem AVp:AU Tryz.prog 178 (AG 2 AQY AQX AQW AZc):=AJ Kr Tryz.func178 (by kernel_rfl) (by kernel_rfl) rfl (fun v=>(ASm v).trans (AZa v)) (AA AdG ⟨Ab3,trivial⟩)
def Tc:Env:=NX.ext 178 true true (AG 2 AQY AQX AQW AZc)
theorem Jj:Ac Tryz.prog Tc:=Env.Ae Kr AVp (fun _=>AP rfl rfl) (fun _=>AL rfl rfl)
abbrev HT:Hints:={ loop:=fun n=>match n with|0=>Aa 0 87 ACp ACm De|1=>Aa 0 87 ACo ACl Dd|2=>Aa 0 87 ACn ACk Eb|_=>fun _ _ _=>none,fp:=fun n=>match n with|8=>[[],[],[],[],[],[],[],[],[],[],[],[],[],[],[],[],[],[],[],[],[],[],[],[],[0],[0],[],[],[],[]]|_=>[] }
theorem AEV:∀ v,Eb v=roundOf Tryz.prog Tc HT 3 0 87 (AB Tryz.f153 2) ACn ACk v:=by
 rintro⟨a0,a1,a2,⟨⟩⟩
 kernel_rfl
theorem ATJ:AD (AB Tryz.f153 2) 3=[]:=by kernel_rfl
theorem ATM:AZ Tryz.prog 0 (.loop (AB Tryz.f153 2)) (HT.loop 2):=AX Jj (AEV) (AA ATJ trivial)
theorem AEW:∀ v,Dd v=roundOf Tryz.prog Tc HT 2 0 87 (AB Tryz.f153 1) ACo ACl v:=by
 rintro⟨a0,a1,a2,a3,a4,a5,a6,a7,a8,a9,a10,a11,a12,a13,a14,a15,a16,a17,a18,a19,a20,a21,a22,a23,a24,a25,⟨⟩⟩
 kernel_rfl
theorem ATK:AD (AB Tryz.f153 1) 2=[]:=by kernel_rfl
theorem ATN:AZ Tryz.prog 0 (.loop (AB Tryz.f153 1)) (HT.loop 1):=AX Jj (AEW) (AA ATK trivial)
theorem AEX:∀ v,De v=roundOf Tryz.prog Tc HT 1 0 87 (AB Tryz.f153 0) ACp ACm v:=by
 rintro⟨a0,a1,a2,a3,a4,a5,a6,⟨⟩⟩
 kernel_rfl
theorem ATL:AD (AB Tryz.f153 0) 1=[(1,AB Tryz.f153 1)]:=by kernel_rfl
theorem ATO:AZ Tryz.prog 0 (.loop (AB Tryz.f153 0)) (HT.loop 0):=AX Jj (AEX) (AA ATL ⟨ATN,trivial⟩)
theorem AM9:∀ v,PJ v=AS Tryz.prog Tc HT Tryz.f153 XJ XI XH v:=by
 rintro⟨a0,⟨⟩⟩
 kernel_rfl
theorem AWn:AD (AW Tryz.f153) 0=[(0,AB Tryz.f153 0),(2,AB Tryz.f153 2)]:=by kernel_rfl
theorem AIm:AU Tryz.prog 153 (AG 1 XJ XI XH N3):=AJ Jj Tryz.func153 (by kernel_rfl) (by kernel_rfl) rfl (fun v=>(ACq v).trans (AM9 v)) (AA AWn ⟨ATO,ATM,trivial⟩)
def AA0:Env:=Tc.ext 153 true true (AG 1 XJ XI XH N3)
theorem VF:Ac Tryz.prog AA0:=Env.Ae Jj AIm (fun _=>AP rfl rfl) (fun _=>AL rfl rfl)
abbrev AcL:Hints:={  }
theorem AWT:∀ v,Wv v=AS Tryz.prog AA0 AcL Tryz.f184 AH0 AHz AHy v:=by
 rintro⟨a0,a1,a2,⟨⟩⟩
 kernel_rfl
theorem AcK:AD (AW Tryz.f184) 0=[]:=by kernel_rfl
theorem ARV:AU Tryz.prog 184 (AG 3 AH0 AHz AHy asked):=AJ VF Tryz.func184 (by kernel_rfl) (by kernel_rfl) rfl (fun v=>(AMm v).trans (AWT v)) (AA AcK trivial)
def AIR:Env:=AA0.ext 184 true true (AG 3 AH0 AHz AHy asked)
theorem ABR:Ac Tryz.prog AIR:=Env.Ae VF ARV (fun _=>AP rfl rfl) (fun _=>AL rfl rfl)
abbrev Ac8:Hints:={  }
theorem AYu:∀ v,SC v=AS Tryz.prog AIR Ac8 Tryz.f118 APT APS APR v:=by
 rintro⟨a0,⟨⟩⟩
 kernel_rfl
theorem Ac7:AD (AW Tryz.f118) 0=[]:=by kernel_rfl
theorem AUh:AU Tryz.prog 118 (AG 1 APT APS APR APU):=AJ ABR Tryz.func118 (by kernel_rfl) (by kernel_rfl) rfl (fun v=>(Wj v).trans (AYu v)) (AA Ac7 trivial)
def ARe:Env:=AIR.ext 118 true true (AG 1 APT APS APR APU)
theorem AD9:Ac Tryz.prog ARe:=Env.Ae ABR AUh (fun _=>AP rfl rfl) (fun _=>AL rfl rfl)
abbrev AQ9:Hints:={  }
theorem AHa:∀ v,IC v=AS Tryz.prog ARe AQ9 Tryz.f74 Oy Ox Ow v:=by
 rintro⟨a0,a1,⟨⟩⟩
 kernel_rfl
theorem AQ8:AD (AW Tryz.f74) 0=[]:=by kernel_rfl
theorem ACV:AU Tryz.prog 74 (AG 2 Oy Ox Ow FI):=AJ AD9 Tryz.func74 (by kernel_rfl) (by kernel_rfl) rfl (fun v=>(MJ v).trans (AHa v)) (AA AQ8 trivial)
def PB:Env:=ARe.ext 74 true true (AG 2 Oy Ox Ow FI)
theorem Nx:Ac Tryz.prog PB:=Env.Ae AD9 ACV (fun _=>AP rfl rfl) (fun _=>AL rfl rfl)
abbrev AaR:Hints:={ fp:=fun n=>match n with|1=>[[],[],[],[],[],[],[],[]]|_=>[] }
theorem ATF:∀ v,WQ v=AS Tryz.prog PB AaR Tryz.f204 AEK AEJ AEI v:=by
 rintro⟨a0,a1,⟨⟩⟩
 kernel_rfl
theorem AaQ:AD (AW Tryz.f204) 0=[]:=by kernel_rfl
theorem AMz:AU Tryz.prog 204 (AG 2 AEK AEJ AEI BF):=AJ Nx Tryz.func204 (by kernel_rfl) (by kernel_rfl) rfl (fun v=>(AIU v).trans (ATF v)) (AA AaQ trivial)
def AIC:Env:=PB.ext 204 true true (AG 2 AEK AEJ AEI BF)
theorem AAx:Ac Tryz.prog AIC:=Env.Ae Nx AMz (fun _=>AP rfl rfl) (fun _=>AL rfl rfl)
abbrev AbZ:Hints:={  }
theorem AVD:∀ v,Wn v=AS Tryz.prog AIC AbZ Tryz.f134 AGk AGj AGi v:=by
 rintro⟨a0,⟨⟩⟩
 kernel_rfl
theorem AbY:AD (AW Tryz.f134) 0=[]:=by kernel_rfl
theorem APz:AU Tryz.prog 134 (AG 1 AGk AGj AGi ALR):=AJ AAx Tryz.func134 (by kernel_rfl) (by kernel_rfl) rfl (fun v=>(ALQ v).trans (AVD v)) (AA AbY trivial)
def AIN:Env:=AIC.ext 134 true true (AG 1 AGk AGj AGi ALR)
theorem ABJ:Ac Tryz.prog AIN:=Env.Ae AAx APz (fun _=>AP rfl rfl) (fun _=>AL rfl rfl)
abbrev AWQ:Hints:={  }
theorem AMl:∀ v,NK v=AS Tryz.prog AIN AWQ Tryz.f100 TK TJ TH v:=by
 rintro⟨a0,⟨⟩⟩
 kernel_rfl
theorem AWP:AD (AW Tryz.f100) 0=[]:=by kernel_rfl
theorem AHv:AU Tryz.prog 100 (AG 1 TK TJ TH bitsLen):=AJ ABJ Tryz.func100 (by kernel_rfl) (by kernel_rfl) rfl (fun v=>(AAq v).trans (AMl v)) (AA AWP trivial)
def Tg:Env:=AIN.ext 100 true true (AG 1 TK TJ TH bitsLen)
theorem RB:Ac Tryz.prog Tg:=Env.Ae ABJ AHv (fun _=>AP rfl rfl) (fun _=>AL rfl rfl)
abbrev ATE:Hints:={ fp:=fun n=>match n with|3=>[[],[0],[0],[],[0],[0],[],[],[0],[1]]|2=>[[],[0],[0],[],[0],[0],[],[],[0],[1]]|1=>[[],[0],[0],[],[0],[0],[],[],[0],[1]]|_=>[] }
theorem AIS:∀ v,Mb v=AS Tryz.prog Tg ATE Tryz.f191 RK RJ RI v:=by
 rintro⟨a0,⟨⟩⟩
 kernel_rfl
theorem ATD:AD (AW Tryz.f191) 0=[]:=by kernel_rfl
theorem AEG:AU Tryz.prog 191 (AG 1 RK RJ RI xorNext):=AJ RB Tryz.func191 (by kernel_rfl) (by kernel_rfl) rfl (fun v=>(W1 v).trans (AIS v)) (AA ATD trivial)
def TR:Env:=Tg.ext 191 false true (AG 1 RK RJ RI xorNext)
theorem Qm:Ac Tryz.prog TR:=Env.Ae RB AEG ((by simp)) (fun _=>AL rfl rfl)
abbrev AUg:Hints:={  }
theorem AK5:∀ v,Mt v=AS Tryz.prog TR AUg Tryz.f190 SB SA R9 v:=by
 rintro⟨a0,⟨⟩⟩
 kernel_rfl
theorem AUf:AD (AW Tryz.f190) 0=[]:=by kernel_rfl
theorem AGI:AU Tryz.prog 190 (AG 1 SB SA R9 Mu):=AJ Qm Tryz.func190 (by kernel_rfl) (by kernel_rfl) rfl (fun v=>(ZE v).trans (AK5 v)) (AA AUf trivial)
def Jh:Env:=TR.ext 190 true true (AG 1 SB SA R9 Mu)
theorem HA:Ac Tryz.prog Jh:=Env.Ae Qm AGI (fun _=>AP rfl rfl) (fun _=>AL rfl rfl)
abbrev Zm:Hints:={ loop:=fun n=>match n with|0=>Aa 1 53 ASa ASY ASW|1=>Aa 1 53 ASZ ASX ASV|_=>fun _ _ _=>none,fp:=fun n=>match n with|4=>[[],[],[],[],[],[],[],[0],[0],[],[],[],[0],[0],[],[],[]]|6=>[[],[],[],[],[],[],[],[],[0],[0],[],[],[0],[0],[0],[1],[0],[1]]|_=>[] }
theorem AQC:∀ v,ASV v=roundOf Tryz.prog Jh Zm 2 1 53 (AB Tryz.f207 1) ASZ ASX v:=by
 rintro⟨a0,a1,a2,a3,a4,⟨⟩⟩
 kernel_rfl
theorem Abb:AD (AB Tryz.f207 1) 2=[]:=by kernel_rfl
theorem Abd:AZ Tryz.prog 1 (.loop (AB Tryz.f207 1)) (Zm.loop 1):=AX HA (AQC) (AA Abb trivial)
theorem AQD:∀ v,ASW v=roundOf Tryz.prog Jh Zm 1 1 53 (AB Tryz.f207 0) ASa ASY v:=by
 rintro⟨a0,a1,a2,a3,⟨⟩⟩
 kernel_rfl
theorem Abc:AD (AB Tryz.f207 0) 1=[(1,AB Tryz.f207 1)]:=by kernel_rfl
theorem Abe:AZ Tryz.prog 1 (.loop (AB Tryz.f207 0)) (Zm.loop 0):=AX HA (AQD) (AA Abc ⟨Abd,trivial⟩)
theorem AZA:∀ v,AZB v=AS Tryz.prog Jh Zm Tryz.f207 AQG AQF AQE v:=by
 rintro⟨a0,a1,a2,⟨⟩⟩
 kernel_rfl
theorem AdD:AD (AW Tryz.f207) 0=[(0,AB Tryz.f207 0)]:=by kernel_rfl
theorem AVJ:AU Tryz.prog 207 (AG 4 AQG AQF AQE AdE):=AJ HA Tryz.func207 (by kernel_rfl) (by kernel_rfl) rfl (fun v=>(Abf v).trans (AZA v)) (AA AdD ⟨Abe,trivial⟩)
def AIO:Env:=Jh.E8 207 3 204 (AG 4 AQG AQF AQE AdE)
theorem Ta:Ac Tryz.prog AIO:=Env.Bc HA AVJ (AL rfl rfl)
abbrev AE2:Hints:={ loop:=fun n=>match n with|0=>Aa 1 82 AJC AJB AJA|_=>fun _ _ _=>none,fp:=fun n=>match n with|6=>[[],[],[],[],[],[],[],[],[],[],[],[],[0],[0],[],[],[],[],[0],[0],[0],[1],[0],[1]]|5=>[[],[],[],[],[],[0],[0],[],[],[],[],[0],[0],[],[],[]]|3=>[[],[],[],[],[],[],[],[],[],[],[0],[0],[],[],[],[],[],[0],[0],[],[],[]]|_=>[] }
theorem AI9:∀ v,AJA v=roundOf Tryz.prog AIO AE2 1 1 82 (AB Tryz.f215 0) AJC AJB v:=by
 rintro⟨a0,a1,a2,a3,⟨⟩⟩
 kernel_rfl
theorem AXF:AD (AB Tryz.f215 0) 1=[]:=by kernel_rfl
theorem AXG:AZ Tryz.prog 1 (.loop (AB Tryz.f215 0)) (AE2.loop 0):=AX Ta (AI9) (AA AXF trivial)
theorem ATi:∀ v,ARt v=AS Tryz.prog AIO AE2 Tryz.f215 AE1 AE0 AEz v:=by
 rintro⟨a0,a1,a2,a3,⟨⟩⟩
 kernel_rfl
theorem Aaj:AD (AW Tryz.f215) 0=[(0,AB Tryz.f215 0)]:=by kernel_rfl
theorem ANf:AU Tryz.prog 215 (AG 5 AE1 AE0 AEz AXI):=AJ Ta Tryz.func215 (by kernel_rfl) (by kernel_rfl) rfl (fun v=>(AXH v).trans (ATi v)) (AA Aaj ⟨AXG,trivial⟩)
def Qr:Env:=AIO.E8 215 4 204 (AG 5 AE1 AE0 AEz AXI)
theorem Kg:Ac Tryz.prog Qr:=Env.Bc Ta ANf (AL rfl rfl)
end
end Go.Pev
end
section
namespace Go.Pev
open Go.Proofs
noncomputable section
abbrev QJ:Hints:={ loop:=fun n=>match n with|0=>Aa 1 60 ALh ALf ALd|1=>Aa 1 60 ALg ALe ALb|_=>fun _ _ _=>none,fp:=fun n=>match n with|10=>[[],[],[],[],[],[],[],[],[],[],[0],[0],[],[],[0],[0],[0],[1],[0],[1]]|_=>[] }
theorem ALa:∀ v,ALb v=roundOf Tryz.prog Qr QJ 2 1 60 (AB Tryz.f208 1) ALg ALe v:=by
 rintro⟨a0,a1,a2,a3,⟨⟩⟩
 kernel_rfl
theorem AZL:AD (AB Tryz.f208 1) 2=[]:=by kernel_rfl
theorem AZN:AZ Tryz.prog 1 (.loop (AB Tryz.f208 1)) (QJ.loop 1):=AX Kg (ALa) (AA AZL trivial)
theorem ALc:∀ v,ALd v=roundOf Tryz.prog Qr QJ 1 1 60 (AB Tryz.f208 0) ALh ALf v:=by
 rintro⟨a0,a1,a2,a3,a4,⟨⟩⟩
 kernel_rfl
theorem AZM:AD (AB Tryz.f208 0) 1=[]:=by kernel_rfl
theorem AZO:AZ Tryz.prog 1 (.loop (AB Tryz.f208 0)) (QJ.loop 0):=AX Kg (ALc) (AA AZM trivial)
theorem AVW:∀ v,ASh v=AS Tryz.prog Qr QJ Tryz.f208 AG0 AGz AGy v:=by
 rintro⟨a0,a1,a2,⟨⟩⟩
 kernel_rfl
theorem Abs:AD (AW Tryz.f208) 0=[(0,AB Tryz.f208 0),(1,AB Tryz.f208 1)]:=by kernel_rfl
theorem AQQ:AU Tryz.prog 208 (AG 4 AG0 AGz AGy AZQ):=AJ Kg Tryz.func208 (by kernel_rfl) (by kernel_rfl) rfl (fun v=>(AZP v).trans (AVW v)) (AA Abs ⟨AZO,AZN,trivial⟩)
def Wy:Env:=Qr.E8 208 3 204 (AG 4 AG0 AGz AGy AZQ)
theorem O7:Ac Tryz.prog Wy:=Env.Bc Kg AQQ (AL rfl rfl)
abbrev AAk:Hints:={ loop:=fun n=>match n with|0=>Aa 1 67 ADv ADu ADt|_=>fun _ _ _=>none,fp:=fun n=>match n with|10=>[[],[],[],[],[],[],[],[],[],[],[0],[0],[],[],[0],[0],[0],[1],[0],[1]]|_=>[] }
theorem AHs:∀ v,ADt v=roundOf Tryz.prog Wy AAk 1 1 67 (AB Tryz.f209 0) ADv ADu v:=by
 rintro⟨a0,a1,a2,a3,a4,a5,⟨⟩⟩
 kernel_rfl
theorem AWJ:AD (AB Tryz.f209 0) 1=[]:=by kernel_rfl
theorem AWK:AZ Tryz.prog 1 (.loop (AB Tryz.f209 0)) (AAk.loop 0):=AX O7 (AHs) (AA AWJ trivial)
theorem ARI:∀ v,AMh v=AS Tryz.prog Wy AAk Tryz.f209 AAj AAi AAh v:=by
 rintro⟨a0,a1,a2,⟨⟩⟩
 kernel_rfl
theorem AZ8:AD (AW Tryz.f209) 0=[(0,AB Tryz.f209 0)]:=by kernel_rfl
theorem AMg:AU Tryz.prog 209 (AG 4 AAj AAi AAh ARJ):=AJ O7 Tryz.func209 (by kernel_rfl) (by kernel_rfl) rfl (fun v=>(AWL v).trans (ARI v)) (AA AZ8 ⟨AWK,trivial⟩)
def ABP:Env:=Wy.E8 209 3 204 (AG 4 AAj AAi AAh ARJ)
theorem VT:Ac Tryz.prog ABP:=Env.Bc O7 AMg (AL rfl rfl)
abbrev AUX:Hints:={ fp:=fun n=>match n with|1=>[[],[],[],[0],[0],[],[],[0],[0],[],[]]|_=>[] }
theorem AK1:∀ v,ADN v=AS Tryz.prog ABP AUX Tryz.f218 R5 R4 R3 v:=by
 rintro⟨a0,a1,a2,a3,⟨⟩⟩
 kernel_rfl
theorem AUW:AD (AW Tryz.f218) 0=[]:=by kernel_rfl
theorem AGA:AU Tryz.prog 218 (AG 5 R5 R4 R3 AGB):=AJ VT Tryz.func218 (by kernel_rfl) (by kernel_rfl) rfl (fun v=>(APE v).trans (AK1 v)) (AA AUW trivial)
def TT:Env:=ABP.E8 218 4 204 (AG 5 R5 R4 R3 AGB)
theorem Qv:Ac Tryz.prog TT:=Env.Bc VT AGA (AL rfl rfl)
abbrev AUn:Hints:={  }
theorem AK9:∀ v,ADO v=AS Tryz.prog TT AUn Tryz.f217 SJ SH SF v:=by
 rintro⟨a0,a1,a2,a3,a4,⟨⟩⟩
 kernel_rfl
theorem AUm:AD (AW Tryz.f217) 0=[]:=by kernel_rfl
theorem AGN:AU Tryz.prog 217 (AG 6 SJ SH SF AGO):=AJ Qv Tryz.func217 (by kernel_rfl) (by kernel_rfl) rfl (fun v=>(APe v).trans (AK9 v)) (AA AUm trivial)
def TV:Env:=TT.E8 217 5 204 (AG 6 SJ SH SF AGO)
theorem Qx:Ac Tryz.prog TV:=Env.Bc Qv AGN (AL rfl rfl)
abbrev AUr:Hints:={  }
theorem ALB:∀ v,ADP v=AS Tryz.prog TV AUr Tryz.f216 SR SQ SO v:=by
 rintro⟨a0,a1,a2,⟨⟩⟩
 kernel_rfl
theorem AUq:AD (AW Tryz.f216) 0=[]:=by kernel_rfl
theorem AGQ:AU Tryz.prog 216 (AG 4 SR SQ SO AGR):=AJ Qx Tryz.func216 (by kernel_rfl) (by kernel_rfl) rfl (fun v=>(APg v).trans (ALB v)) (AA AUq trivial)
def TX:Env:=TV.E8 216 3 204 (AG 4 SR SQ SO AGR)
theorem Qz:Ac Tryz.prog TX:=Env.Bc Qx AGQ (AL rfl rfl)
abbrev AXq:Hints:={  }
theorem AOc:∀ v,AJj v=AS Tryz.prog TX AXq Tryz.f210 YQ YP YO v:=by
 rintro⟨a0,a1,a2,⟨⟩⟩
 kernel_rfl
theorem AXp:AD (AW Tryz.f210) 0=[]:=by kernel_rfl
theorem AJi:AU Tryz.prog 210 (AG 4 YQ YP YO AOd):=AJ Qz Tryz.func210 (by kernel_rfl) (by kernel_rfl) rfl (fun v=>(AUA v).trans (AOc v)) (AA AXp trivial)
def Qt:Env:=TX.E8 210 3 204 (AG 4 YQ YP YO AOd)
theorem MV:Ac Tryz.prog Qt:=Env.Bc Qz AJi (AL rfl rfl)
abbrev AN8:Hints:={ loop:=fun n=>match n with|0=>Aa 1 34 ARx ARw ARv|_=>fun _ _ _=>none,fp:=fun n=>match n with|3=>[[],[],[],[],[],[],[0],[0],[],[],[0],[0],[0],[1],[0],[1]]|_=>[] }
theorem AN4:∀ v,ARv v=roundOf Tryz.prog Qt AN8 1 1 34 (AB Tryz.f211 0) ARx ARw v:=by
 rintro⟨a0,a1,a2,⟨⟩⟩
 kernel_rfl
theorem Aar:AD (AB Tryz.f211 0) 1=[]:=by kernel_rfl
theorem Aas:AZ Tryz.prog 1 (.loop (AB Tryz.f211 0)) (AN8.loop 0):=AX MV (AN4) (AA Aar trivial)
theorem AXV:∀ v,AXW v=AS Tryz.prog Qt AN8 Tryz.f211 AN7 AN6 AN5 v:=by
 rintro⟨a0,a1,a2,⟨⟩⟩
 kernel_rfl
theorem Aci:AD (AW Tryz.f211) 0=[(0,AB Tryz.f211 0)]:=by kernel_rfl
theorem ATx:AU Tryz.prog 211 (AG 4 AN7 AN6 AN5 Acj):=AJ MV Tryz.func211 (by kernel_rfl) (by kernel_rfl) rfl (fun v=>(Aat v).trans (AXV v)) (AA Aci ⟨Aas,trivial⟩)
def O4:Env:=Qt.E8 211 3 204 (AG 4 AN7 AN6 AN5 Acj)
theorem HO:Ac Tryz.prog O4:=Env.Bc MV ATx (AL rfl rfl)
abbrev Cr:Hints:={ loop:=fun n=>match n with|0=>Aa 1 141 T8 T4 Tz|1=>Aa 1 141 T7 T3 Tx|2=>Aa 1 141 T6 T2 Tw|3=>Aa 1 141 T5 T1 Tv|_=>fun _ _ _=>none,fp:=fun n=>match n with|11=>[[],[],[],[],[],[],[],[],[0],[0],[],[],[0],[0],[0],[1],[0],[1]]|5=>[[],[],[],[],[],[],[],[0],[0],[],[],[],[0],[0],[],[],[],[]]|17=>[[],[],[],[],[],[],[],[],[0],[0],[],[],[0],[0],[0],[1],[0],[1]]|16=>[[],[],[],[0],[0],[],[],[],[0],[0],[],[],[]]|23=>[[],[],[],[],[],[],[],[],[0],[0],[],[],[0],[0],[0],[1],[0],[1]]|22=>[[],[],[],[0],[0],[],[],[],[0],[0],[],[],[]]|_=>[] }
theorem Yi:∀ v,Tv v=roundOf Tryz.prog O4 Cr 4 1 141 (AB Tryz.f212 3) T5 T1 v:=by
 rintro⟨a0,a1,a2,a3,a4,a5,⟨⟩⟩
 kernel_rfl
theorem AKG:AD (AB Tryz.f212 3) 4=[]:=by kernel_rfl
theorem AKK:AZ Tryz.prog 1 (.loop (AB Tryz.f212 3)) (Cr.loop 3):=AX HO (Yi) (AA AKG trivial)
theorem Yj:∀ v,Tw v=roundOf Tryz.prog O4 Cr 3 1 141 (AB Tryz.f212 2) T6 T2 v:=by
 rintro⟨a0,a1,a2,a3,a4,a5,⟨⟩⟩
 kernel_rfl
theorem AKH:AD (AB Tryz.f212 2) 3=[]:=by kernel_rfl
theorem AKL:AZ Tryz.prog 1 (.loop (AB Tryz.f212 2)) (Cr.loop 2):=AX HO (Yj) (AA AKH trivial)
theorem Yk:∀ v,Tx v=roundOf Tryz.prog O4 Cr 2 1 141 (AB Tryz.f212 1) T7 T3 v:=by
 rintro⟨a0,a1,a2,a3,a4,⟨⟩⟩
 kernel_rfl
theorem AKI:AD (AB Tryz.f212 1) 2=[]:=by kernel_rfl
theorem AKM:AZ Tryz.prog 1 (.loop (AB Tryz.f212 1)) (Cr.loop 1):=AX HO (Yk) (AA AKI trivial)
theorem Yl:∀ v,Tz v=roundOf Tryz.prog O4 Cr 1 1 141 (AB Tryz.f212 0) T8 T4 v:=by
 rintro⟨a0,a1,a2,a3,a4,⟨⟩⟩
 kernel_rfl
theorem AKJ:AD (AB Tryz.f212 0) 1=[(1,AB Tryz.f212 1),(2,AB Tryz.f212 2),(3,AB Tryz.f212 3)]:=by kernel_rfl
theorem AKN:AZ Tryz.prog 1 (.loop (AB Tryz.f212 0)) (Cr.loop 0):=AX HO (Yl) (AA AKJ ⟨AKM,AKL,AKK,trivial⟩)
theorem AFy:∀ v,Ym v=AS Tryz.prog O4 Cr Tryz.f212 OI OH OG v:=by
 rintro⟨a0,a1,a2,⟨⟩⟩
 kernel_rfl
theorem AOv:AD (AW Tryz.f212) 0=[(0,AB Tryz.f212 0)]:=by kernel_rfl
theorem ABp:AU Tryz.prog 212 (AG 4 OI OH OG Yn):=AJ HO Tryz.func212 (by kernel_rfl) (by kernel_rfl) rfl (fun v=>(AKO v).trans (AFy v)) (AA AOv ⟨AKN,trivial⟩)
def F5:Env:=O4.E8 212 3 204 (AG 4 OI OH OG Yn)
theorem D7:Ac Tryz.prog F5:=Env.Bc HO ABp (AL rfl rfl)
abbrev FZ:Hints:={ loop:=fun n=>match n with|0=>Aa 1 90 Y0 Yx Yu|1=>Aa 1 90 Yz Yw Yt|2=>Aa 1 90 Yy Yv Ys|_=>fun _ _ _=>none,fp:=fun n=>match n with|8=>[[],[],[],[],[],[],[0],[0],[],[],[0],[0],[0],[1],[0],[1]]|3=>[[],[],[],[],[],[],[],[0],[0],[],[],[0],[0],[],[],[],[]]|5=>[[],[],[],[],[],[],[],[0],[0],[],[],[0],[0],[],[],[]]|1=>[[],[],[],[],[],[],[0],[0],[],[],[0],[0],[0],[1],[0],[1]]|_=>[] }
theorem ABx:∀ v,Ys v=roundOf Tryz.prog F5 FZ 3 1 90 (AB Tryz.f213 2) Yy Yv v:=by
 rintro⟨a0,a1,a2,a3,⟨⟩⟩
 kernel_rfl
theorem AO0:AD (AB Tryz.f213 2) 3=[]:=by kernel_rfl
theorem AO3:AZ Tryz.prog 1 (.loop (AB Tryz.f213 2)) (FZ.loop 2):=AX D7 (ABx) (AA AO0 trivial)
theorem ABy:∀ v,Yt v=roundOf Tryz.prog F5 FZ 2 1 90 (AB Tryz.f213 1) Yz Yw v:=by
 rintro⟨a0,a1,a2,a3,⟨⟩⟩
 kernel_rfl
theorem AO1:AD (AB Tryz.f213 1) 2=[]:=by kernel_rfl
theorem AO4:AZ Tryz.prog 1 (.loop (AB Tryz.f213 1)) (FZ.loop 1):=AX D7 (ABy) (AA AO1 trivial)
theorem ABz:∀ v,Yu v=roundOf Tryz.prog F5 FZ 1 1 90 (AB Tryz.f213 0) Y0 Yx v:=by
 rintro⟨a0,a1,a2,a3,⟨⟩⟩
 kernel_rfl
theorem AO2:AD (AB Tryz.f213 0) 1=[(1,AB Tryz.f213 1),(2,AB Tryz.f213 2)]:=by kernel_rfl
theorem AO5:AZ Tryz.prog 1 (.loop (AB Tryz.f213 0)) (FZ.loop 0):=AX D7 (ABz) (AA AO2 ⟨AO4,AO3,trivial⟩)
theorem AKw:∀ v,ADK v=AS Tryz.prog F5 FZ Tryz.f213 Rz Ry Rx v:=by
 rintro⟨a0,a1,a2,a3,⟨⟩⟩
 kernel_rfl
theorem AUT:AD (AW Tryz.f213) 0=[(0,AB Tryz.f213 0)]:=by kernel_rfl
theorem AF5:AU Tryz.prog 213 (AG 5 Rz Ry Rx AF6):=AJ D7 Tryz.func213 (by kernel_rfl) (by kernel_rfl) rfl (fun v=>(AO6 v).trans (AKw v)) (AA AUT ⟨AO5,trivial⟩)
def En:Env:=F5.E8 213 4 204 (AG 5 Rz Ry Rx AF6)
theorem C0:Ac Tryz.prog En:=Env.Bc D7 AF5 (AL rfl rfl)
abbrev Ey:Hints:={ loop:=fun n=>match n with|0=>Aa 1 178 AKF AKA AJ5|1=>Aa 1 178 AKE AJ9 AJ3|2=>Aa 1 178 AKD AJ8 AJ1|3=>Aa 1 178 AKC AJ7 AJz|4=>Aa 1 178 AKB AJ6 AJx|_=>fun _ _ _=>none,fp:=fun n=>match n with|3=>[[],[],[],[],[],[],[],[0],[0],[],[],[0],[0],[],[],[]]|5=>[[],[],[],[],[],[],[],[0],[0],[],[],[0],[0],[],[],[],[]]|18=>[[],[],[],[],[],[],[0],[0],[],[],[0],[0],[0],[1],[0],[1]]|13=>[[],[],[],[],[],[],[],[0],[0],[],[],[0],[0],[],[],[]]|15=>[[],[],[],[],[],[],[],[0],[0],[],[],[0],[0],[],[],[],[]]|21=>[[],[],[],[],[],[],[0],[0],[],[],[0],[0],[0],[1],[0],[1]]|10=>[[],[],[],[],[],[],[0],[0],[],[],[0],[0],[0],[1],[0],[1]]|8=>[[],[],[],[],[],[],[0],[0],[],[],[0],[0],[0],[1],[0],[1]]|1=>[[],[],[],[],[],[],[0],[0],[],[],[0],[0],[0],[1],[0],[1]]|_=>[] }
theorem AJw:∀ v,AJx v=roundOf Tryz.prog En Ey 5 1 178 (AB Tryz.f214 4) AKB AJ6 v:=by
 rintro⟨a0,a1,a2,a3,⟨⟩⟩
 kernel_rfl
theorem AYI:AD (AB Tryz.f214 4) 5=[]:=by kernel_rfl
theorem AYN:AZ Tryz.prog 1 (.loop (AB Tryz.f214 4)) (Ey.loop 4):=AX C0 (AJw) (AA AYI trivial)
theorem AJy:∀ v,AJz v=roundOf Tryz.prog En Ey 4 1 178 (AB Tryz.f214 3) AKC AJ7 v:=by
 rintro⟨a0,a1,a2,a3,⟨⟩⟩
 kernel_rfl
theorem AYJ:AD (AB Tryz.f214 3) 4=[]:=by kernel_rfl
theorem AYO:AZ Tryz.prog 1 (.loop (AB Tryz.f214 3)) (Ey.loop 3):=AX C0 (AJy) (AA AYJ trivial)
theorem AJ0:∀ v,AJ1 v=roundOf Tryz.prog En Ey 3 1 178 (AB Tryz.f214 2) AKD AJ8 v:=by
 rintro⟨a0,a1,a2,a3,⟨⟩⟩
 kernel_rfl
theorem AYK:AD (AB Tryz.f214 2) 3=[(3,AB Tryz.f214 3),(4,AB Tryz.f214 4)]:=by kernel_rfl
theorem AYP:AZ Tryz.prog 1 (.loop (AB Tryz.f214 2)) (Ey.loop 2):=AX C0 (AJ0) (AA AYK ⟨AYO,AYN,trivial⟩)
theorem AJ2:∀ v,AJ3 v=roundOf Tryz.prog En Ey 2 1 178 (AB Tryz.f214 1) AKE AJ9 v:=by
 rintro⟨a0,a1,a2,a3,⟨⟩⟩
 kernel_rfl
theorem AYL:AD (AB Tryz.f214 1) 2=[]:=by kernel_rfl
theorem AYQ:AZ Tryz.prog 1 (.loop (AB Tryz.f214 1)) (Ey.loop 1):=AX C0 (AJ2) (AA AYL trivial)
theorem AJ4:∀ v,AJ5 v=roundOf Tryz.prog En Ey 1 1 178 (AB Tryz.f214 0) AKF AKA v:=by
 rintro⟨a0,a1,a2,a3,⟨⟩⟩
 kernel_rfl
theorem AYM:AD (AB Tryz.f214 0) 1=[]:=by kernel_rfl
theorem AYR:AZ Tryz.prog 1 (.loop (AB Tryz.f214 0)) (Ey.loop 0):=AX C0 (AJ4) (AA AYM trivial)
theorem AUP:∀ v,ASE v=AS Tryz.prog En Ey Tryz.f214 AFx AFw AFv v:=by
 rintro⟨a0,a1,a2,a3,⟨⟩⟩
 kernel_rfl
theorem AbF:AD (AW Tryz.f214) 0=[(0,AB Tryz.f214 0),(1,AB Tryz.f214 1),(2,AB Tryz.f214 2)]:=by kernel_rfl
theorem AOu:AU Tryz.prog 214 (AG 5 AFx AFw AFv AYT):=AJ C0 Tryz.func214 (by kernel_rfl) (by kernel_rfl) rfl (fun v=>(AYS v).trans (AUP v)) (AA AbF ⟨AYR,AYQ,AYP,trivial⟩)
def AIL:Env:=En.E8 214 4 204 (AG 5 AFx AFw AFv AYT)
theorem ABF:Ac Tryz.prog AIL:=Env.Bc C0 AOu (AL rfl rfl)
abbrev AOn(self:(List (List Int)×Int×Int×Int×Unit)→Option ((List (List Int)×Unit))):Hints:={ loop:=fun n=>match n with|0=>Aa 1 148 AR9 AR8 (AR7 self)|_=>fun _ _ _=>none,fp:=fun n=>match n with|17=>[[],[],[],[],[],[],[],[0],[0],[],[],[0],[0],[],[],[],[]]|_=>[] }
abbrev AFn(self:(List (List Int)×Int×Int×Int×Unit)→Option ((List (List Int)×Unit))):Env:=AIL.ext 206 false true (AG 5 Yc Yb Ya self)
theorem AOm(self:(List (List Int)×Int×Int×Int×Unit)→Option ((List (List Int)×Unit))):∀ v,AR7 self v=roundOf Tryz.prog (AFn self) (AOn self) 1 1 148 (AB Tryz.f206 0) AR9 AR8 v:=by
 rintro⟨a0,a1,a2,a3,a4,a5,⟨⟩⟩
 kernel_rfl
theorem Aa5:AD (AB Tryz.f206 0) 1=[]:=by kernel_rfl
theorem Aa6(self:(List (List Int)×Int×Int×Int×Unit)→Option ((List (List Int)×Unit)))(hE:Ac Tryz.prog (AFn self)):AZ Tryz.prog 1 (.loop (AB Tryz.f206 0)) ((AOn self).loop 0):=AX hE (AOm self) (AA Aa5 trivial)
theorem AX2(self:(List (List Int)×Int×Int×Int×Unit)→Option ((List (List Int)×Unit))):∀ v,Acp self v=AS Tryz.prog (AFn self) (AOn self) Tryz.f206 Yc Yb Ya v:=by
 rintro⟨a0,a1,a2,a3,⟨⟩⟩
 kernel_rfl
theorem Aco:AD (AW Tryz.f206) 0=[(0,AB Tryz.f206 0)]:=by kernel_rfl
theorem AOo:∀ n,AU Tryz.prog 206 (AG 5 Yc Yb Ya (Yd n)):=by
 intro n
 induction n with
 |zero=>exact UN fun _=>rfl
 |succ n ih=>
  have hE:Ac Tryz.prog (AFn (Yd n)):=Env.Ae ABF ih ((by simp)) (fun _=>AL rfl rfl)
  let self:=Yd n
  exact AJ hE Tryz.func206 (by kernel_rfl) (by kernel_rfl) rfl (AX2 self) (AA Aco ⟨(Aa6 self hE),trivial⟩)
theorem AUG:AU Tryz.prog 206 (AG 5 Yc Yb Ya Aa8):=by
 have e:Aa8=Yd 100:=funext Aa7
 rw[e]
 exact AOo _
def ARb:Env:=AIL.E8 206 4 204 (AG 5 Yc Yb Ya Aa8)
theorem AD6:Ac Tryz.prog ARb:=Env.Bc ABF AUG (AL rfl rfl)
abbrev Aag:Hints:={  }
theorem ATe:∀ v,ARs v=AS Tryz.prog ARb Aag Tryz.f203 AEv AEu AEt v:=by
 rintro⟨a0,⟨⟩⟩
 kernel_rfl
theorem Aaf:AD (AW Tryz.f203) 0=[]:=by kernel_rfl
theorem ANd:AU Tryz.prog 203 (AG 2 AEv AEu AEt AI5):=AJ AD6 Tryz.func203 (by kernel_rfl) (by kernel_rfl) rfl (fun v=>(AXC v).trans (ATe v)) (AA Aaf trivial)
def Qq:Env:=ARb.E8 203 1 204 (AG 2 AEv AEu AEt AI5)
theorem Kf:Ac Tryz.prog Qq:=Env.Bc AD6 ANd (AL rfl rfl)
end
end Go.Pev
end
section
namespace Go.Pev
open Go.Proofs
noncomputable section
abbrev PE:Hints:={ loop:=fun n=>match n with|0=>Aa 0 47 AId AIb HR|1=>Aa 0 47 AIc AIa HQ|_=>fun _ _ _=>none }
theorem AIY:∀ v,HQ v=roundOf Tryz.prog Qq PE 2 0 47 (AB Tryz.f188 1) AIc AIa v:=by
 rintro⟨a0,a1,a2,a3,a4,a5,a6,⟨⟩⟩
 kernel_rfl
theorem AWa:AD (AB Tryz.f188 1) 2=[]:=by kernel_rfl
theorem AWc:AZ Tryz.prog 0 (.loop (AB Tryz.f188 1)) (PE.loop 1):=AX Kf (AIY) (AA AWa trivial)
theorem AIZ:∀ v,HR v=roundOf Tryz.prog Qq PE 1 0 47 (AB Tryz.f188 0) AId AIb v:=by
 rintro⟨a0,a1,a2,a3,a4,a5,a6,a7,a8,⟨⟩⟩
 kernel_rfl
theorem AWb:AD (AB Tryz.f188 0) 1=[]:=by kernel_rfl
theorem AWd:AZ Tryz.prog 0 (.loop (AB Tryz.f188 0)) (PE.loop 0):=AX Kf (AIZ) (AA AWb trivial)
theorem ATI:∀ v,WR v=AS Tryz.prog Qq PE Tryz.f188 AEQ AEP AEO v:=by
 rintro⟨a0,a1,a2,⟨⟩⟩
 kernel_rfl
theorem AaS:AD (AW Tryz.f188) 0=[(0,AB Tryz.f188 0),(1,AB Tryz.f188 1)]:=by kernel_rfl
theorem AM3:AU Tryz.prog 188 (AG 3 AEQ AEP AEO AIf):=AJ Kf Tryz.func188 (by kernel_rfl) (by kernel_rfl) rfl (fun v=>(AIe v).trans (ATI v)) (AA AaS ⟨AWd,AWc,trivial⟩)
def AID:Env:=Qq.ext 188 true true (AG 3 AEQ AEP AEO AIf)
theorem AAy:Ac Tryz.prog AID:=Env.Ae Kf AM3 (fun _=>AP rfl rfl) (fun _=>AL rfl rfl)
abbrev Aad:Hints:={ fp:=fun n=>match n with|9=>[[],[28],[0],[0],[],[],[],[],[],[0],[0],[],[],[],[],[],[28],[28,52,36,62],[64],[]]|4=>[[0],[],[],[0],[],[],[],[]]|_=>[] }
theorem ATW:∀ v,Gz v=AS Tryz.prog AID Aad Tryz.f161 AEo AEn AEm v:=by
 rintro⟨a0,a1,a2,⟨⟩⟩
 kernel_rfl
theorem Aac:AD (AW Tryz.f161) 0=[]:=by kernel_rfl
theorem ANK:AU Tryz.prog 161 (AG 3 AEo AEn AEm LH):=AJ AAy Tryz.func161 (by kernel_rfl) (by kernel_rfl) rfl (fun v=>(HY v).trans (ATW v)) (AA Aac trivial)
def AIE:Env:=AID.ext 161 true true (AG 3 AEo AEn AEm LH)
theorem AA3:Ac Tryz.prog AIE:=Env.Ae AAy ANK (fun _=>AP rfl rfl) (fun _=>AL rfl rfl)
theorem AW8:Tryz.f155.body.isSome=true:=by kernel_rfl
theorem AW7 : (Tryz.f155.name == "runtime.NumGoroutine") = false := by kernel_rfl
theorem AW6:loops (AW Tryz.f155)=0:=by kernel_rfl
def Kd:Env:=AIE.ext 155 false false (C3 Tryz.prog AIE {} Tryz.f155)
theorem JB:Ac Tryz.prog Kd:=Env.Ae AA3 (Cm AA3 Tryz.func155 AW8 AW7 AW6) (by simp) (by simp)
abbrev Fq:Hints:={ loop:=fun n=>match n with|0=>Aa 1 19 Ic Ib Bg|_=>fun _ _ _=>none }
theorem Lz:∀ v,Bg v=roundOf Tryz.prog Kd Fq 1 1 19 (AB Tryz.f174 0) Ic Ib v:=by
 rintro⟨a0,a1,a2,a3,a4,⟨⟩⟩
 kernel_rfl
theorem QE:AD (AB Tryz.f174 0) 1=[]:=by kernel_rfl
theorem QF:AZ Tryz.prog 1 (.loop (AB Tryz.f174 0)) (Fq.loop 0):=AX JB (Lz) (AA QE trivial)
theorem Oc:∀ v,Dr v=AS Tryz.prog Kd Fq Tryz.f174 Fp Fm Fl v:=by
 rintro⟨a0,a1,a2,⟨⟩⟩
 kernel_rfl
theorem Sk:AD (AW Tryz.f174) 0=[(0,AB Tryz.f174 0)]:=by kernel_rfl
theorem Nb:AU Tryz.prog 174 (AG 2 Fp Fm Fl E5):=AJ JB Tryz.func174 (by kernel_rfl) (by kernel_rfl) rfl (fun v=>(Ie v).trans (Oc v)) (AA Sk ⟨QF,trivial⟩)
def F8:Env:=Kd.E8 174 1 155 (AG 2 Fp Fm Fl E5)
theorem Gy:Ac Tryz.prog F8:=Env.Bc JB Nb (AL rfl rfl)
abbrev QY:Hints:={  }
theorem Nc:∀ v,DF v=AS Tryz.prog F8 QY Tryz.f154 FH FG FF v:=by
 rintro⟨a0,a1,a2,⟨⟩⟩
 kernel_rfl
theorem QX:AD (AW Tryz.f154) 0=[]:=by kernel_rfl
theorem MG:AU Tryz.prog 154 (AG 2 FH FG FF C4):=AJ Gy Tryz.func154 (by kernel_rfl) (by kernel_rfl) rfl (fun v=>(IA v).trans (Nc v)) (AA QX trivial)
def FM:Env:=F8.E8 154 1 155 (AG 2 FH FG FF C4)
theorem Gg:Ac Tryz.prog FM:=Env.Bc Gy MG (AL rfl rfl)
abbrev AZe:Hints:={  }
theorem AQa:∀ v,QM v=AS Tryz.prog FM AZe Tryz.f125 Z0 Zz Zy v:=by
 rintro⟨a0,a1,⟨⟩⟩
 kernel_rfl
theorem AZd:AD (AW Tryz.f125) 0=[]:=by kernel_rfl
theorem AL0:AU Tryz.prog 125 (AG 2 Z0 Zz Zy KJ):=AJ Gg Tryz.func125 (by kernel_rfl) (by kernel_rfl) rfl (fun v=>(ADk v).trans (AQa v)) (AA AZd trivial)
def Q7:Env:=FM.ext 125 true true (AG 2 Z0 Zz Zy KJ)
theorem MZ:Ac Tryz.prog Q7:=Env.Ae Gg AL0 (fun _=>AP rfl rfl) (fun _=>AL rfl rfl)
abbrev AQo:Hints:={ loop:=fun n=>match n with|0=>Aa 0 21 ASq ASp KM|_=>fun _ _ _=>none }
theorem AQk:∀ v,KM v=roundOf Tryz.prog Q7 AQo 1 0 21 (AB Tryz.f183 0) ASq ASp v:=by
 rintro⟨a0,a1,a2,a3,⟨⟩⟩
 kernel_rfl
theorem Ab9:AD (AB Tryz.f183 0) 1=[]:=by kernel_rfl
theorem AcA:AZ Tryz.prog 0 (.loop (AB Tryz.f183 0)) (AQo.loop 0):=AX MZ (AQk) (AA Ab9 trivial)
theorem AZs:∀ v,AHP v=AS Tryz.prog Q7 AQo Tryz.f183 AQn AQm AQl v:=by
 rintro⟨a0,⟨⟩⟩
 kernel_rfl
theorem AdJ:AD (AW Tryz.f183) 0=[(0,AB Tryz.f183 0)]:=by kernel_rfl
theorem AV1:AU Tryz.prog 183 (AG 1 AQn AQm AQl ends):=AJ MZ Tryz.func183 (by kernel_rfl) (by kernel_rfl) rfl (fun v=>(ASr v).trans (AZs v)) (AA AdJ ⟨AcA,trivial⟩)
def AIQ:Env:=Q7.ext 183 true true (AG 1 AQn AQm AQl ends)
theorem Td:Ac Tryz.prog AIQ:=Env.Ae MZ AV1 (fun _=>AP rfl rfl) (fun _=>AL rfl rfl)
abbrev Ot:Hints:={ loop:=fun n=>match n with|0=>Aa 0 48 UZ UY By|_=>fun _ _ _=>none,fp:=fun n=>match n with|1=>[[0],[],[],[4],[]]|_=>[] }
theorem AAH:∀ v,By v=roundOf Tryz.prog AIQ Ot 1 0 48 (AB Tryz.f160 0) UZ UY v:=by
 rintro⟨a0,a1,a2,a3,a4,a5,a6,⟨⟩⟩
 kernel_rfl
theorem AMI:AD (AB Tryz.f160 0) 1=[]:=by kernel_rfl
theorem AMJ:AZ Tryz.prog 0 (.loop (AB Tryz.f160 0)) (Ot.loop 0):=AX Td (AAH) (AA AMI trivial)
theorem AHR:∀ v,H5 v=AS Tryz.prog AIQ Ot Tryz.f160 Oq Oo On v:=by
 rintro⟨a0,a1,⟨⟩⟩
 kernel_rfl
theorem AQr:AD (AW Tryz.f160) 0=[(0,AB Tryz.f160 0)]:=by kernel_rfl
theorem ACK:AU Tryz.prog 160 (AG 3 Oq Oo On QT):=AJ Td Tryz.func160 (by kernel_rfl) (by kernel_rfl) rfl (fun v=>(MC v).trans (AHR v)) (AA AQr ⟨AMJ,trivial⟩)
def PA:Env:=AIQ.E8 160 2 161 (AG 3 Oq Oo On QT)
theorem Nw:Ac Tryz.prog PA:=Env.Bc Td ACK (AL rfl rfl)
abbrev AZl:Hints:={  }
theorem AQf:∀ v,L5 v=AS Tryz.prog PA AZl Tryz.f130 Z5 Z4 Z3 v:=by
 rintro⟨a0,a1,⟨⟩⟩
 kernel_rfl
theorem AZk:AD (AW Tryz.f130) 0=[]:=by kernel_rfl
theorem AL5:AU Tryz.prog 130 (AG 2 Z5 Z4 Z3 AHJ):=AJ Nw Tryz.func130 (by kernel_rfl) (by kernel_rfl) rfl (fun v=>(Ss v).trans (AQf v)) (AA AZk trivial)
def ABN:Env:=PA.ext 130 true true (AG 2 Z5 Z4 Z3 AHJ)
theorem VR:Ac Tryz.prog ABN:=Env.Ae Nw AL5 (fun _=>AP rfl rfl) (fun _=>AL rfl rfl)
abbrev Ade:Hints:={  }
theorem Ab6:∀ v,AL4 v=AS Tryz.prog ABN Ade Tryz.f92 AZj AZi AZh v:=by
 rintro⟨a0,a1,⟨⟩⟩
 kernel_rfl
theorem Adc:AD (AW Tryz.f92) 0=[]:=by kernel_rfl
theorem AZg:AU Tryz.prog 92 (AG 2 AZj AZi AZh fof):=AJ VR Tryz.func92 (by kernel_rfl) (by kernel_rfl) rfl (fun v=>(AQc v).trans (Ab6 v)) (AA Adc trivial)
def ATC:Env:=ABN.ext 92 true true (AG 2 AZj AZi AZh fof)
theorem ABM:Ac Tryz.prog ATC:=Env.Ae VR AZg (fun _=>AP rfl rfl) (fun _=>AL rfl rfl)
abbrev AYn:Hints:={ loop:=fun n=>match n with|0=>Aa 0 18 AYl AYj OM|_=>fun _ _ _=>none }
theorem AUa:∀ v,OM v=roundOf Tryz.prog ATC AYn 1 0 18 (AB Tryz.f114 0) AYl AYj v:=by
 rintro⟨a0,a1,a2,a3,⟨⟩⟩
 kernel_rfl
theorem Ac2:AD (AB Tryz.f114 0) 1=[]:=by kernel_rfl
theorem Ac3:AZ Tryz.prog 0 (.loop (AB Tryz.f114 0)) (AYn.loop 0):=AX ABM (AUa) (AA Ac2 trivial)
theorem AbI:∀ v,ASF v=AS Tryz.prog ATC AYn Tryz.f114 AYm AYk AYi v:=by
 rintro⟨a0,⟨⟩⟩
 kernel_rfl
theorem AdZ:AD (AW Tryz.f114) 0=[(0,AB Tryz.f114 0)]:=by kernel_rfl
theorem AYh:AU Tryz.prog 114 (AG 1 AYm AYk AYi orI):=AJ ABM Tryz.func114 (by kernel_rfl) (by kernel_rfl) rfl (fun v=>(AYo v).trans (AbI v)) (AA AdZ ⟨Ac3,trivial⟩)
def AaP:Env:=ATC.ext 114 true true (AG 1 AYm AYk AYi orI)
theorem AMy:Ac Tryz.prog AaP:=Env.Ae ABM AYh (fun _=>AP rfl rfl) (fun _=>AL rfl rfl)
abbrev AYz:Hints:={  }
theorem APp:∀ v,Lu v=AS Tryz.prog AaP AYz Tryz.f97 ZR ZQ ZP v:=by
 rintro⟨a0,⟨⟩⟩
 kernel_rfl
theorem AYy:AD (AW Tryz.f97) 0=[]:=by kernel_rfl
theorem ALG:AU Tryz.prog 97 (AG 1 ZR ZQ ZP SY):=AJ AMy Tryz.func97 (by kernel_rfl) (by kernel_rfl) rfl (fun v=>(SX v).trans (APp v)) (AA AYy trivial)
def ABH:Env:=AaP.ext 97 true true (AG 1 ZR ZQ ZP SY)
theorem VN:Ac Tryz.prog ABH:=Env.Ae AMy ALG (fun _=>AP rfl rfl) (fun _=>AL rfl rfl)
end
end Go.Pev
end
section
namespace Go.Pev
open Go.Proofs
noncomputable section
abbrev AdB:Hints:={  }
theorem AYx:∀ v,APo v=AS Tryz.prog ABH AdB Tryz.f53 APn APm APl v:=by
 rintro⟨a0,⟨⟩⟩
 kernel_rfl
theorem AdA:AD (AW Tryz.f53) 0=[]:=by kernel_rfl
theorem AUy:AU Tryz.prog 53 (AG 1 APn APm APl ACA):=AJ VN Tryz.func53 (by kernel_rfl) (by kernel_rfl) rfl (fun v=>(AbS v).trans (AYx v)) (AA AdA trivial)
def ARg:Env:=ABH.ext 53 true true (AG 1 APn APm APl ACA)
theorem AEB:Ac Tryz.prog ARg:=Env.Ae VN AUy (fun _=>AP rfl rfl) (fun _=>AL rfl rfl)
abbrev AP3:Hints:={ fp:=fun n=>match n with|1=>[[0],[0],[2],[2],[],[0],[0],[2],[2],[],[],[20],[]]|_=>[] }
theorem AGo:∀ v,Hp v=AS Tryz.prog ARg AP3 Tryz.f98 OU OT OS v:=by
 rintro⟨a0,a1,⟨⟩⟩
 kernel_rfl
theorem AP2:AD (AW Tryz.f98) 0=[]:=by kernel_rfl
theorem ACD:AU Tryz.prog 98 (AG 2 OU OT OS DV):=AJ AEB Tryz.func98 (by kernel_rfl) (by kernel_rfl) rfl (fun v=>(Lv v).trans (AGo v)) (AA AP2 trivial)
def Kk:Env:=ARg.ext 98 true true (AG 2 OU OT OS DV)
theorem JC:Ac Tryz.prog Kk:=Env.Ae AEB ACD (fun _=>AP rfl rfl) (fun _=>AL rfl rfl)
abbrev ZN:Hints:={ loop:=fun n=>match n with|0=>Aa 0 33 ADR ADQ Cf|_=>fun _ _ _=>none }
theorem AGV:∀ v,Cf v=roundOf Tryz.prog Kk ZN 1 0 33 (AB Tryz.f93 0) ADR ADQ v:=by
 rintro⟨a0,a1,a2,a3,a4,⟨⟩⟩
 kernel_rfl
theorem AUw:AD (AB Tryz.f93 0) 1=[]:=by kernel_rfl
theorem AUx:AZ Tryz.prog 0 (.loop (AB Tryz.f93 0)) (ZN.loop 0):=AX JC (AGV) (AA AUw trivial)
theorem APk:∀ v,Ls v=AS Tryz.prog Kk ZN Tryz.f93 ZM ZL ZK v:=by
 rintro⟨a0,a1,⟨⟩⟩
 kernel_rfl
theorem AYw:AD (AW Tryz.f93) 0=[(0,AB Tryz.f93 0)]:=by kernel_rfl
theorem ALE:AU Tryz.prog 93 (AG 2 ZM ZL ZK OQ):=AJ JC Tryz.func93 (by kernel_rfl) (by kernel_rfl) rfl (fun v=>(SW v).trans (APk v)) (AA AYw ⟨AUx,trivial⟩)
def Q1:Env:=Kk.ext 93 true true (AG 2 ZM ZL ZK OQ)
theorem MX:Ac Tryz.prog Q1:=Env.Ae JC ALE (fun _=>AP rfl rfl) (fun _=>AL rfl rfl)
abbrev ZV:Hints:={ loop:=fun n=>match n with|0=>Aa 0 96 ADT ADS Dl|_=>fun _ _ _=>none,fp:=fun n=>match n with|7=>[[2],[2],[],[],[2],[2],[2],[2],[],[],[],[2],[2],[0],[0],[],[],[],[2],[2],[],[],[],[2],[2],[],[],[],[],[],[],[],[0],[0],[],[],[],[],[2],[],[],[],[]]|_=>[] }
theorem AGW:∀ v,Dl v=roundOf Tryz.prog Q1 ZV 1 0 96 (AB Tryz.f49 0) ADT ADS v:=by
 rintro⟨a0,a1,a2,a3,a4,a5,⟨⟩⟩
 kernel_rfl
theorem AUz:AD (AB Tryz.f49 0) 1=[]:=by kernel_rfl
theorem AU0:AZ Tryz.prog 0 (.loop (AB Tryz.f49 0)) (ZV.loop 0):=AX MX (AGW) (AA AUz trivial)
theorem APq:∀ v,Hm v=AS Tryz.prog Q1 ZV Tryz.f49 ZU ZT ZS v:=by
 rintro⟨a0,⟨⟩⟩
 kernel_rfl
theorem AY0:AD (AW Tryz.f49) 0=[(0,AB Tryz.f49 0)]:=by kernel_rfl
theorem ALH:AU Tryz.prog 49 (AG 1 ZU ZT ZS Gl):=AJ MX Tryz.func49 (by kernel_rfl) (by kernel_rfl) rfl (fun v=>(JN v).trans (APq v)) (AA AY0 ⟨AU0,trivial⟩)
def Q2:Env:=Q1.ext 49 true true (AG 1 ZU ZT ZS Gl)
theorem MY:Ac Tryz.prog Q2:=Env.Ae MX ALH (fun _=>AP rfl rfl) (fun _=>AL rfl rfl)
abbrev Ze:Hints:={ loop:=fun n=>match n with|0=>Aa 0 26 ADX ADW Sg|_=>fun _ _ _=>none }
theorem AGl:∀ v,Sg v=roundOf Tryz.prog Q2 Ze 1 0 26 (AB Tryz.f52 0) ADX ADW v:=by
 rintro⟨a0,a1,a2,a3,⟨⟩⟩
 kernel_rfl
theorem AVE:AD (AB Tryz.f52 0) 1=[]:=by kernel_rfl
theorem AVF:AZ Tryz.prog 0 (.loop (AB Tryz.f52 0)) (Ze.loop 0):=AX MY (AGl) (AA AVE trivial)
theorem AP0:∀ v,Zf v=AS Tryz.prog Q2 Ze Tryz.f52 Zd Zc Zb v:=by
 rintro⟨a0,⟨⟩⟩
 kernel_rfl
theorem AY6:AD (AW Tryz.f52) 0=[(0,AB Tryz.f52 0)]:=by kernel_rfl
theorem ALS:AU Tryz.prog 52 (AG 1 Zd Zc Zb AGm):=AJ MY Tryz.func52 (by kernel_rfl) (by kernel_rfl) rfl (fun v=>(AVG v).trans (AP0 v)) (AA AY6 ⟨AVF,trivial⟩)
def Ji:Env:=Q2.ext 52 true true (AG 1 Zd Zc Zb AGm)
theorem Gf:Ac Tryz.prog Ji:=Env.Ae MY ALS (fun _=>AP rfl rfl) (fun _=>AL rfl rfl)
abbrev Db:Hints:={ loop:=fun n=>match n with|0=>Aa 0 83 Qf Qc Cy|1=>Aa 0 83 Qe Qb Dt|2=>Aa 0 83 Qd Qa Cx|_=>fun _ _ _=>none,fp:=fun n=>match n with|14=>[[],[],[0],[0],[],[],[0],[0],[],[]]|13=>[[],[],[],[],[],[],[],[],[],[],[],[],[],[],[],[],[],[],[],[0],[0],[],[],[0],[0],[],[]]|12=>[[],[],[],[],[],[],[],[],[],[],[],[]]|_=>[] }
theorem WD:∀ v,Cx v=roundOf Tryz.prog Ji Db 3 0 83 (AB Tryz.f68 2) Qd Qa v:=by
 rintro⟨a0,a1,a2,a3,a4,⟨⟩⟩
 kernel_rfl
theorem AHe:AD (AB Tryz.f68 2) 3=[]:=by kernel_rfl
theorem AHh:AZ Tryz.prog 0 (.loop (AB Tryz.f68 2)) (Db.loop 2):=AX Gf (WD) (AA AHe trivial)
theorem WE:∀ v,Dt v=roundOf Tryz.prog Ji Db 2 0 83 (AB Tryz.f68 1) Qe Qb v:=by
 rintro⟨a0,a1,a2,a3,⟨⟩⟩
 kernel_rfl
theorem AHf:AD (AB Tryz.f68 1) 2=[(2,AB Tryz.f68 2)]:=by kernel_rfl
theorem AHi:AZ Tryz.prog 0 (.loop (AB Tryz.f68 1)) (Db.loop 1):=AX Gf (WE) (AA AHf ⟨AHh,trivial⟩)
theorem WG:∀ v,Cy v=roundOf Tryz.prog Ji Db 1 0 83 (AB Tryz.f68 0) Qf Qc v:=by
 rintro⟨a0,a1,a2,a3,⟨⟩⟩
 kernel_rfl
theorem AHg:AD (AB Tryz.f68 0) 1=[]:=by kernel_rfl
theorem AHj:AZ Tryz.prog 0 (.loop (AB Tryz.f68 0)) (Db.loop 0):=AX Gf (WG) (AA AHg trivial)
theorem ACX:∀ v,Io v=AS Tryz.prog Ji Db Tryz.f68 MM ML MK v:=by
 rintro⟨a0,a1,⟨⟩⟩
 kernel_rfl
theorem AMW:AD (AW Tryz.f68) 0=[(0,AB Tryz.f68 0),(1,AB Tryz.f68 1)]:=by kernel_rfl
theorem AAa:AU Tryz.prog 68 (AG 2 MM ML MK Cj):=AJ Gf Tryz.func68 (by kernel_rfl) (by kernel_rfl) rfl (fun v=>(Qg v).trans (ACX v)) (AA AMW ⟨AHj,AHi,trivial⟩)
def Iy:Env:=Ji.ext 68 true true (AG 2 MM ML MK Cj)
theorem IM:Ac Tryz.prog Iy:=Env.Ae Gf AAa (fun _=>AP rfl rfl) (fun _=>AL rfl rfl)
abbrev AEf:Hints:={ loop:=fun n=>match n with|0=>Aa 0 20 AIs AIr XR|_=>fun _ _ _=>none }
theorem AIq:∀ v,XR v=roundOf Tryz.prog Iy AEf 1 0 20 (AB Tryz.f38 0) AIs AIr v:=by
 rintro⟨a0,a1,⟨⟩⟩
 kernel_rfl
theorem AWq:AD (AB Tryz.f38 0) 1=[]:=by kernel_rfl
theorem AWr:AZ Tryz.prog 0 (.loop (AB Tryz.f38 0)) (AEf.loop 0):=AX IM (AIq) (AA AWq trivial)
theorem ATU:∀ v,AEg v=AS Tryz.prog Iy AEf Tryz.f38 AEe AEd AEc v:=by
 rintro⟨a0,⟨⟩⟩
 kernel_rfl
theorem AaY:AD (AW Tryz.f38) 0=[(0,AB Tryz.f38 0)]:=by kernel_rfl
theorem ANG:AU Tryz.prog 38 (AG 1 AEe AEd AEc LG):=AJ IM Tryz.func38 (by kernel_rfl) (by kernel_rfl) rfl (fun v=>(AWs v).trans (ATU v)) (AA AaY ⟨AWr,trivial⟩)
def Qp:Env:=Iy.ext 38 true true (AG 1 AEe AEd AEc LG)
theorem Kc:Ac Tryz.prog Qp:=Env.Ae IM ANG (fun _=>AP rfl rfl) (fun _=>AL rfl rfl)
abbrev JI:Hints:={ loop:=fun n=>match n with|0=>Aa 0 138 X3 X1 Cq|1=>Aa 0 138 X2 X0 DQ|_=>fun _ _ _=>none,fp:=fun n=>match n with|10=>[[],[],[],[0],[0],[],[],[],[],[],[4],[4],[],[],[0],[0],[],[],[],[],[],[4],[4],[],[],[0],[0],[],[],[],[],[],[4],[4],[],[],[],[]]|8=>[[4],[4],[],[],[4],[4],[4],[4],[],[],[],[4],[4],[0],[0],[],[],[],[4],[4],[],[],[],[4],[4],[0],[0],[],[],[]]|_=>[] }
theorem ABd:∀ v,DQ v=roundOf Tryz.prog Qp JI 2 0 138 (AB Tryz.f50 1) X2 X0 v:=by
 rintro⟨a0,a1,a2,a3,a4,a5,⟨⟩⟩
 kernel_rfl
theorem ANx:AD (AB Tryz.f50 1) 2=[]:=by kernel_rfl
theorem ANz:AZ Tryz.prog 0 (.loop (AB Tryz.f50 1)) (JI.loop 1):=AX Kc (ABd) (AA ANx trivial)
theorem ABe:∀ v,Cq v=roundOf Tryz.prog Qp JI 1 0 138 (AB Tryz.f50 0) X3 X1 v:=by
 rintro⟨a0,a1,a2,a3,⟨⟩⟩
 kernel_rfl
theorem ANy:AD (AB Tryz.f50 0) 1=[]:=by kernel_rfl
theorem AN0:AZ Tryz.prog 0 (.loop (AB Tryz.f50 0)) (JI.loop 0):=AX Kc (ABe) (AA ANy trivial)
theorem AJZ:∀ v,Ee v=AS Tryz.prog Qp JI Tryz.f50 Rh Rg Rf v:=by
 rintro⟨a0,⟨⟩⟩
 kernel_rfl
theorem ATv:AD (AW Tryz.f50) 0=[(0,AB Tryz.f50 0),(1,AB Tryz.f50 1)]:=by kernel_rfl
theorem AFF:AU Tryz.prog 50 (AG 1 Rh Rg Rf DC):=AJ Kc Tryz.func50 (by kernel_rfl) (by kernel_rfl) rfl (fun v=>(FT v).trans (AJZ v)) (AA ATv ⟨AN0,ANz,trivial⟩)
def NT:Env:=Qp.ext 50 true true (AG 1 Rh Rg Rf DC)
theorem Ki:Ac Tryz.prog NT:=Env.Ae Kc AFF (fun _=>AP rfl rfl) (fun _=>AL rfl rfl)
abbrev S2:Hints:={ loop:=fun n=>match n with|0=>Aa 0 32 AAF AAE ER|_=>fun _ _ _=>none,fp:=fun n=>match n with|7=>[[],[0],[0],[],[],[],[],[0],[0],[],[],[],[],[],[],[3,4],[]]|_=>[] }
theorem ACJ:∀ v,ER v=roundOf Tryz.prog NT S2 1 0 32 (AB Tryz.f36 0) AAF AAE v:=by
 rintro⟨a0,a1,a2,a3,⟨⟩⟩
 kernel_rfl
theorem AQp:AD (AB Tryz.f36 0) 1=[]:=by kernel_rfl
theorem AQq:AZ Tryz.prog 0 (.loop (AB Tryz.f36 0)) (S2.loop 0):=AX Ki (ACJ) (AA AQp trivial)
theorem AMH:∀ v,NC v=AS Tryz.prog NT S2 Tryz.f36 S1 S0 Sy v:=by
 rintro⟨a0,⟨⟩⟩
 kernel_rfl
theorem AV3:AD (AW Tryz.f36) 0=[(0,AB Tryz.f36 0)]:=by kernel_rfl
theorem AHQ:AU Tryz.prog 36 (AG 1 S1 S0 Sy Ik):=AJ Ki Tryz.func36 (by kernel_rfl) (by kernel_rfl) rfl (fun v=>(AAG v).trans (AMH v)) (AA AV3 ⟨AQq,trivial⟩)
def NW:Env:=NT.ext 36 true true (AG 1 S1 S0 Sy Ik)
theorem Kq:Ac Tryz.prog NW:=Env.Ae Ki AHQ (fun _=>AP rfl rfl) (fun _=>AL rfl rfl)
abbrev Xo:Hints:={ loop:=fun n=>match n with|0=>Aa 0 26 AC5 AC4 FQ|_=>fun _ _ _=>none,fp:=fun n=>match n with|6=>[[],[],[],[],[],[],[],[],[]]|_=>[] }
theorem AFE:∀ v,FQ v=roundOf Tryz.prog NW Xo 1 0 26 (AB Tryz.f19 0) AC5 AC4 v:=by
 rintro⟨a0,a1,a2,⟨⟩⟩
 kernel_rfl
theorem ATo:AD (AB Tryz.f19 0) 1=[]:=by kernel_rfl
theorem ATp:AZ Tryz.prog 0 (.loop (AB Tryz.f19 0)) (Xo.loop 0):=AX Kq (AFE) (AA ATo trivial)
theorem ANp:∀ v,PN v=AS Tryz.prog NW Xo Tryz.f19 Xn Xm Xl v:=by
 rintro⟨a0,a1,⟨⟩⟩
 kernel_rfl
theorem AXO:AD (AW Tryz.f19) 0=[(0,AB Tryz.f19 0)]:=by kernel_rfl
theorem AJP:AU Tryz.prog 19 (AG 2 Xn Xm Xl Re):=AJ Kq Tryz.func19 (by kernel_rfl) (by kernel_rfl) rfl (fun v=>(AC6 v).trans (ANp v)) (AA AXO ⟨ATp,trivial⟩)
def AA5:Env:=NW.ext 19 true true (AG 2 Xn Xm Xl Re)
theorem VI:Ac Tryz.prog AA5:=Env.Ae Kq AJP (fun _=>AP rfl rfl) (fun _=>AL rfl rfl)
abbrev AdT:Hints:={  }
theorem Aaa:∀ v,ARl v=AS Tryz.prog AA5 AdT Tryz.f126 AWw AWv AWu v:=by
 rintro⟨a0,a1,⟨⟩⟩
 kernel_rfl
theorem AdS:AD (AW Tryz.f126) 0=[]:=by kernel_rfl
theorem AWt:AU Tryz.prog 126 (AG 2 AWw AWv AWu tof):=AJ VI Tryz.func126 (by kernel_rfl) (by kernel_rfl) rfl (fun v=>(AWx v).trans (Aaa v)) (AA AdS trivial)
def AS9:Env:=AA5.ext 126 true true (AG 2 AWw AWv AWu tof)
theorem AA2:Ac Tryz.prog AS9:=Env.Ae VI AWt (fun _=>AP rfl rfl) (fun _=>AL rfl rfl)
abbrev Z9:Hints:={ loop:=fun n=>match n with|0=>Aa 0 41 ADm ADl Fs|_=>fun _ _ _=>none }
theorem AHK:∀ v,Fs v=roundOf Tryz.prog AS9 Z9 1 0 41 (AB Tryz.f35 0) ADm ADl v:=by
 rintro⟨a0,a1,a2,a3,a4,⟨⟩⟩
 kernel_rfl
theorem AVy:AD (AB Tryz.f35 0) 1=[]:=by kernel_rfl
theorem AVz:AZ Tryz.prog 0 (.loop (AB Tryz.f35 0)) (Z9.loop 0):=AX AA2 (AHK) (AA AVy trivial)
theorem AQi:∀ v,QO v=AS Tryz.prog AS9 Z9 Tryz.f35 Z8 Z7 Z6 v:=by
 rintro⟨a0,a1,a2,⟨⟩⟩
 kernel_rfl
theorem AZp:AD (AW Tryz.f35) 0=[(0,AB Tryz.f35 0)]:=by kernel_rfl
theorem AL8:AU Tryz.prog 35 (AG 3 Z8 Z7 Z6 Sv):=AJ AA2 Tryz.func35 (by kernel_rfl) (by kernel_rfl) rfl (fun v=>(ADn v).trans (AQi v)) (AA AZp ⟨AVz,trivial⟩)
def Q8:Env:=AS9.ext 35 true true (AG 3 Z8 Z7 Z6 Sv)
theorem Ma:Ac Tryz.prog Q8:=Env.Ae AA2 AL8 (fun _=>AP rfl rfl) (fun _=>AL rfl rfl)
end
end Go.Pev
end
section
namespace Go.Pev
open Go.Proofs
noncomputable section
abbrev RQ:Hints:={ loop:=fun n=>match n with|0=>Aa 0 47 XL XK EF|_=>fun _ _ _=>none,fp:=fun n=>match n with|6=>[[],[0],[0],[],[],[],[],[0],[0],[],[],[],[],[],[],[3,4],[]]|_=>[] }
theorem ABU:∀ v,EF v=roundOf Tryz.prog Q8 RQ 1 0 47 (AB Tryz.f78 0) XL XK v:=by
 rintro⟨a0,a1,a2,a3,a4,⟨⟩⟩
 kernel_rfl
theorem ANA:AD (AB Tryz.f78 0) 1=[]:=by kernel_rfl
theorem ANB:AZ Tryz.prog 0 (.loop (AB Tryz.f78 0)) (RQ.loop 0):=AX Ma (ABU) (AA ANA trivial)
theorem AIn:∀ v,Md v=AS Tryz.prog Q8 RQ Tryz.f78 RP RO RN v:=by
 rintro⟨a0,a1,⟨⟩⟩
 kernel_rfl
theorem ATP:AD (AW Tryz.f78) 0=[(0,AB Tryz.f78 0)]:=by kernel_rfl
theorem AEZ:AU Tryz.prog 78 (AG 2 RP RO RN IP):=AJ Ma Tryz.func78 (by kernel_rfl) (by kernel_rfl) rfl (fun v=>(XM v).trans (AIn v)) (AA ATP ⟨ANB,trivial⟩)
def NR:Env:=Q8.ext 78 true true (AG 2 RP RO RN IP)
theorem Kb:Ac Tryz.prog NR:=Env.Ae Ma AEZ (fun _=>AP rfl rfl) (fun _=>AL rfl rfl)
abbrev Xk:Hints:={ loop:=fun n=>match n with|0=>Aa 0 38 AC2 AC1 Ec|_=>fun _ _ _=>none,fp:=fun n=>match n with|6=>[[0],[0],[],[],[],[2],[2],[],[],[],[]]|_=>[] }
theorem AFD:∀ v,Ec v=roundOf Tryz.prog NR Xk 1 0 38 (AB Tryz.f55 0) AC2 AC1 v:=by
 rintro⟨a0,a1,a2,a3,a4,⟨⟩⟩
 kernel_rfl
theorem ATm:AD (AB Tryz.f55 0) 1=[]:=by kernel_rfl
theorem ATn:AZ Tryz.prog 0 (.loop (AB Tryz.f55 0)) (Xk.loop 0):=AX Kb (AFD) (AA ATm trivial)
theorem ANo:∀ v,PM v=AS Tryz.prog NR Xk Tryz.f55 Xj Xi Xh v:=by
 rintro⟨a0,a1,⟨⟩⟩
 kernel_rfl
theorem AXN:AD (AW Tryz.f55) 0=[(0,AB Tryz.f55 0)]:=by kernel_rfl
theorem AJO:AU Tryz.prog 55 (AG 2 Xj Xi Xh Rd):=AJ Kb Tryz.func55 (by kernel_rfl) (by kernel_rfl) rfl (fun v=>(AC3 v).trans (ANo v)) (AA AXN ⟨ATn,trivial⟩)
def AA4:Env:=NR.ext 55 true true (AG 2 Xj Xi Xh Rd)
theorem VH:Ac Tryz.prog AA4:=Env.Ae Kb AJO (fun _=>AP rfl rfl) (fun _=>AL rfl rfl)
abbrev AU6:Hints:={ fp:=fun n=>match n with|3=>[[0],[0],[0],[],[],[12],[],[],[3],[]]|_=>[] }
theorem ALM:∀ v,JP v=AS Tryz.prog AA4 AU6 Tryz.f41 Sf Se Sd v:=by
 rintro⟨a0,a1,⟨⟩⟩
 kernel_rfl
theorem AU5:AD (AW Tryz.f41) 0=[]:=by kernel_rfl
theorem AGb:AU Tryz.prog 41 (AG 2 Sf Se Sd M6):=AJ VH Tryz.func41 (by kernel_rfl) (by kernel_rfl) rfl (fun v=>(OR v).trans (ALM v)) (AA AU5 trivial)
def TZ:Env:=AA4.ext 41 true true (AG 2 Sf Se Sd M6)
theorem Q3:Ac Tryz.prog TZ:=Env.Ae VH AGb (fun _=>AP rfl rfl) (fun _=>AL rfl rfl)
abbrev AbX:Hints:={  }
theorem AU9:∀ v,Wm v=AS Tryz.prog TZ AbX Tryz.f168 AGh AGg AGf v:=by
 rintro⟨a0,a1,⟨⟩⟩
 kernel_rfl
theorem AbW:AD (AW Tryz.f168) 0=[]:=by kernel_rfl
theorem APy:AU Tryz.prog 168 (AG 2 AGh AGg AGf D4):=AJ Q3 Tryz.func168 (by kernel_rfl) (by kernel_rfl) rfl (fun v=>(ALP v).trans (AU9 v)) (AA AbW trivial)
def Q4:Env:=TZ.ext 168 true true (AG 2 AGh AGg AGf D4)
theorem Kj:Ac Tryz.prog Q4:=Env.Ae Q3 APy (fun _=>AP rfl rfl) (fun _=>AL rfl rfl)
abbrev Zn:Hints:={ loop:=fun n=>match n with|0=>Aa 1 49 ASe ASc M8|1=>Aa 1 49 ASd ASb M7|_=>fun _ _ _=>none,fp:=fun n=>match n with|4=>[[],[],[],[],[],[],[0],[0],[],[],[],[0],[0],[],[]]|6=>[[],[],[],[],[],[],[],[],[0],[0],[],[],[0],[0],[0],[1],[0],[1]]|_=>[] }
theorem AQH:∀ v,M7 v=roundOf Tryz.prog Q4 Zn 2 1 49 (AB Tryz.f162 1) ASd ASb v:=by
 rintro⟨a0,a1,a2,a3,a4,⟨⟩⟩
 kernel_rfl
theorem Abg:AD (AB Tryz.f162 1) 2=[]:=by kernel_rfl
theorem Abi:AZ Tryz.prog 1 (.loop (AB Tryz.f162 1)) (Zn.loop 1):=AX Kj (AQH) (AA Abg trivial)
theorem AQI:∀ v,M8 v=roundOf Tryz.prog Q4 Zn 1 1 49 (AB Tryz.f162 0) ASe ASc v:=by
 rintro⟨a0,a1,a2,a3,⟨⟩⟩
 kernel_rfl
theorem Abh:AD (AB Tryz.f162 0) 1=[(1,AB Tryz.f162 1)]:=by kernel_rfl
theorem Abj:AZ Tryz.prog 1 (.loop (AB Tryz.f162 0)) (Zn.loop 0):=AX Kj (AQI) (AA Abh ⟨Abi,trivial⟩)
theorem AZE:∀ v,AGs v=AS Tryz.prog Q4 Zn Tryz.f162 AQL AQK AQJ v:=by
 rintro⟨a0,a1,a2,⟨⟩⟩
 kernel_rfl
theorem AdF:AD (AW Tryz.f162) 0=[(0,AB Tryz.f162 0)]:=by kernel_rfl
theorem AVK:AU Tryz.prog 162 (AG 3 AQL AQK AQJ AVL):=AJ Kj Tryz.func162 (by kernel_rfl) (by kernel_rfl) rfl (fun v=>(ASf v).trans (AZE v)) (AA AdF ⟨Abj,trivial⟩)
def AIP:Env:=Q4.ext 162 false true (AG 3 AQL AQK AQJ AVL)
theorem Tb:Ac Tryz.prog AIP:=Env.Ae Kj AVK ((by simp)) (fun _=>AL rfl rfl)
abbrev AE6:Hints:={ loop:=fun n=>match n with|0=>Aa 1 76 AJF AJE JG|_=>fun _ _ _=>none,fp:=fun n=>match n with|6=>[[],[],[],[],[],[],[],[],[],[],[],[],[0],[0],[],[],[],[],[0],[0],[0],[1],[0],[1]]|5=>[[],[],[],[],[0],[0],[],[],[],[],[0],[0],[],[]]|3=>[[],[],[],[],[],[],[],[],[],[0],[0],[],[],[],[],[],[0],[0],[],[]]|_=>[] }
theorem AJD:∀ v,JG v=roundOf Tryz.prog AIP AE6 1 1 76 (AB Tryz.f189 0) AJF AJE v:=by
 rintro⟨a0,a1,a2,a3,⟨⟩⟩
 kernel_rfl
theorem AXJ:AD (AB Tryz.f189 0) 1=[]:=by kernel_rfl
theorem AXK:AZ Tryz.prog 1 (.loop (AB Tryz.f189 0)) (AE6.loop 0):=AX Tb (AJD) (AA AXJ trivial)
theorem ATj:∀ v,WX v=AS Tryz.prog AIP AE6 Tryz.f189 AE5 AE4 AE3 v:=by
 rintro⟨a0,a1,a2,a3,⟨⟩⟩
 kernel_rfl
theorem Aak:AD (AW Tryz.f189) 0=[(0,AB Tryz.f189 0)]:=by kernel_rfl
theorem ANg:AU Tryz.prog 189 (AG 4 AE5 AE4 AE3 ACy):=AJ Tb Tryz.func189 (by kernel_rfl) (by kernel_rfl) rfl (fun v=>(AJG v).trans (ATj v)) (AA Aak ⟨AXK,trivial⟩)
def Qs:Env:=AIP.ext 189 false true (AG 4 AE5 AE4 AE3 ACy)
theorem Kh:Ac Tryz.prog Qs:=Env.Ae Tb ANg ((by simp)) (fun _=>AL rfl rfl)
abbrev QK:Hints:={ loop:=fun n=>match n with|0=>Aa 1 56 ALn ALl JT|1=>Aa 1 56 ALm ALk JS|_=>fun _ _ _=>none,fp:=fun n=>match n with|10=>[[],[],[],[],[],[],[],[],[],[],[0],[0],[],[],[0],[0],[0],[1],[0],[1]]|_=>[] }
theorem ALi:∀ v,JS v=roundOf Tryz.prog Qs QK 2 1 56 (AB Tryz.f163 1) ALm ALk v:=by
 rintro⟨a0,a1,a2,a3,⟨⟩⟩
 kernel_rfl
theorem AZR:AD (AB Tryz.f163 1) 2=[]:=by kernel_rfl
theorem AZT:AZ Tryz.prog 1 (.loop (AB Tryz.f163 1)) (QK.loop 1):=AX Kh (ALi) (AA AZR trivial)
theorem ALj:∀ v,JT v=roundOf Tryz.prog Qs QK 1 1 56 (AB Tryz.f163 0) ALn ALl v:=by
 rintro⟨a0,a1,a2,a3,a4,⟨⟩⟩
 kernel_rfl
theorem AZS:AD (AB Tryz.f163 0) 1=[]:=by kernel_rfl
theorem AZU:AZ Tryz.prog 1 (.loop (AB Tryz.f163 0)) (QK.loop 0):=AX Kh (ALj) (AA AZS trivial)
theorem AVZ:∀ v,Wo v=AS Tryz.prog Qs QK Tryz.f163 AG3 AG2 AG1 v:=by
 rintro⟨a0,a1,a2,⟨⟩⟩
 kernel_rfl
theorem Abt:AD (AW Tryz.f163) 0=[(0,AB Tryz.f163 0),(1,AB Tryz.f163 1)]:=by kernel_rfl
theorem AQR:AU Tryz.prog 163 (AG 3 AG3 AG2 AG1 ADh):=AJ Kh Tryz.func163 (by kernel_rfl) (by kernel_rfl) rfl (fun v=>(ALo v).trans (AVZ v)) (AA Abt ⟨AZU,AZT,trivial⟩)
def Wz:Env:=Qs.ext 163 false true (AG 3 AG3 AG2 AG1 ADh)
theorem O8:Ac Tryz.prog Wz:=Env.Ae Kh AQR ((by simp)) (fun _=>AL rfl rfl)
abbrev AAo:Hints:={ loop:=fun n=>match n with|0=>Aa 1 65 ADx ADw Fy|_=>fun _ _ _=>none,fp:=fun n=>match n with|10=>[[],[],[],[],[],[],[],[],[],[],[0],[0],[],[],[0],[0],[0],[1],[0],[1]]|_=>[] }
theorem AHt:∀ v,Fy v=roundOf Tryz.prog Wz AAo 1 1 65 (AB Tryz.f164 0) ADx ADw v:=by
 rintro⟨a0,a1,a2,a3,a4,a5,⟨⟩⟩
 kernel_rfl
theorem AWM:AD (AB Tryz.f164 0) 1=[]:=by kernel_rfl
theorem AWN:AZ Tryz.prog 1 (.loop (AB Tryz.f164 0)) (AAo.loop 0):=AX O8 (AHt) (AA AWM trivial)
theorem ARL:∀ v,Qh v=AS Tryz.prog Wz AAo Tryz.f164 AAn AAm AAl v:=by
 rintro⟨a0,a1,a2,⟨⟩⟩
 kernel_rfl
theorem AZ9:AD (AW Tryz.f164) 0=[(0,AB Tryz.f164 0)]:=by kernel_rfl
theorem AMi:AU Tryz.prog 164 (AG 3 AAn AAm AAl TG):=AJ O8 Tryz.func164 (by kernel_rfl) (by kernel_rfl) rfl (fun v=>(ADy v).trans (ARL v)) (AA AZ9 ⟨AWN,trivial⟩)
def ABQ:Env:=Wz.ext 164 false true (AG 3 AAn AAm AAl TG)
theorem VU:Ac Tryz.prog ABQ:=Env.Ae O8 AMi ((by simp)) (fun _=>AL rfl rfl)
abbrev AUZ:Hints:={ fp:=fun n=>match n with|1=>[[],[],[0],[0],[],[],[0],[0],[]]|_=>[] }
theorem AK2:∀ v,Mq v=AS Tryz.prog ABQ AUZ Tryz.f205 R8 R7 R6 v:=by
 rintro⟨a0,a1,a2,a3,⟨⟩⟩
 kernel_rfl
theorem AUY:AD (AW Tryz.f205) 0=[]:=by kernel_rfl
theorem AGC:AU Tryz.prog 205 (AG 4 R8 R7 R6 J0):=AJ VU Tryz.func205 (by kernel_rfl) (by kernel_rfl) rfl (fun v=>(Y9 v).trans (AK2 v)) (AA AUY trivial)
def TU:Env:=ABQ.ext 205 false true (AG 4 R8 R7 R6 J0)
theorem Qw:Ac Tryz.prog TU:=Env.Ae VU AGC ((by simp)) (fun _=>AL rfl rfl)
abbrev AUp:Hints:={  }
theorem ALA:∀ v,Mw v=AS Tryz.prog TU AUp Tryz.f193 SN SM SK v:=by
 rintro⟨a0,a1,a2,a3,a4,⟨⟩⟩
 kernel_rfl
theorem AUo:AD (AW Tryz.f193) 0=[]:=by kernel_rfl
theorem AGP:AU Tryz.prog 193 (AG 5 SN SM SK J7):=AJ Qw Tryz.func193 (by kernel_rfl) (by kernel_rfl) rfl (fun v=>(ZH v).trans (ALA v)) (AA AUo trivial)
def TW:Env:=TU.ext 193 false true (AG 5 SN SM SK J7)
theorem Qy:Ac Tryz.prog TW:=Env.Ae Qw AGP ((by simp)) (fun _=>AL rfl rfl)
abbrev AUt:Hints:={  }
theorem ALC:∀ v,Mz v=AS Tryz.prog TW AUt Tryz.f192 SV SU SS v:=by
 rintro⟨a0,a1,a2,⟨⟩⟩
 kernel_rfl
theorem AUs:AD (AW Tryz.f192) 0=[]:=by kernel_rfl
theorem AGS:AU Tryz.prog 192 (AG 3 SV SU SS J8):=AJ Qy Tryz.func192 (by kernel_rfl) (by kernel_rfl) rfl (fun v=>(ZI v).trans (ALC v)) (AA AUs trivial)
def TY:Env:=TW.ext 192 false true (AG 3 SV SU SS J8)
theorem Q0:Ac Tryz.prog TY:=Env.Ae Qy AGS ((by simp)) (fun _=>AL rfl rfl)
abbrev AXs:Hints:={  }
theorem AOf:∀ v,Pb v=AS Tryz.prog TY AXs Tryz.f165 YT YS YR v:=by
 rintro⟨a0,a1,a2,⟨⟩⟩
 kernel_rfl
theorem AXr:AD (AW Tryz.f165) 0=[]:=by kernel_rfl
theorem AJk:AU Tryz.prog 165 (AG 3 YT YS YR Rr):=AJ Q0 Tryz.func165 (by kernel_rfl) (by kernel_rfl) rfl (fun v=>(ADH v).trans (AOf v)) (AA AXr trivial)
def Qu:Env:=TY.ext 165 false true (AG 3 YT YS YR Rr)
theorem MW:Ac Tryz.prog Qu:=Env.Ae Q0 AJk ((by simp)) (fun _=>AL rfl rfl)
end
end Go.Pev
end
