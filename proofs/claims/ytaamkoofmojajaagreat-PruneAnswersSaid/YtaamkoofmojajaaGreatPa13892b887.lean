/- A part of the proofs of this seat: KF KG KH U24a U24b U24c U24d U23a U23b U23c U23d U23e T24b U24f U24g U24h U24i U24j U24k U24l U24m U24n PlnD U21a U21b SIa SIb SIc SId SIe SIf U23f U23g PlnE U23h U23i U21c U21d U21e U23j G24gP1 G24gP2 G24gP3 G24gP4 G24gP5 G24gP6. -/
import Derived.Test.YtaamkoofmojajaaGreatPfbcd21c5f9
import Derived.KernelRfl
import Derived.Test.YtaamkoofmojajaaGreatProg
set_option linter.unusedVariables false
set_option linter.unusedSimpArgs false
set_option linter.unusedSectionVars false
set_option maxRecDepth 100000
section
section
namespace Go.Pev.Pl
theorem ATP{N:Nat}{ts:List Tie}(hN:N≤64){i:Nat}(h:LD N ts i):In (N:Int) (ed (ts.getD i zT)).1∧In (N:Int) (ed (ts.getD i zT)).2.1:=by
 obtain⟨q1,q2,q3,_⟩:=h
 exact⟨⟨by omega,by omega,q1,by show(ts.getD i zT).1<_;omega⟩,⟨by omega,by omega,by show 0≤(ts.getD i zT).2.1;omega,q3⟩⟩
theorem AOD{N:Nat}{ts:List Tie}(hN:N≤64)(h:oks N ts):∀ e∈trs ts ts.length,In (N:Int) e.1∧In (N:Int) e.2.1:=by
 intro e he
 obtain⟨i,hi,rfl⟩:=Abj ts e _ he
 exact ATP hN (h i (by simp[hi]))
theorem Aeb{N:Nat}{ts:List Tie}(hN:N≤64)(h:oks N ts):∀ e∈ts.map ed,In (N:Int) e.1∧In (N:Int) e.2.1:=by
 intro e he
 obtain⟨t,ht,rfl⟩:=AfW.1 he
 obtain⟨i,hi,rfl⟩:=AgE ht
 have:=ATP hN (h i (by simp[hi]))
 simpa [hi]using this
theorem AQg{N:Nat}(ts:List Tie)(hs:ts.length≤400)(h:oks N ts):OV (((N:Int),(ts,())),(0:Int),())=some (trs ts ts.length,()):=by
 rw[So,Lv]
 have e:=Cf (step:=Ca) (fun i (a:List Edge)=>((0:Int),a,ts,AO ts,(i:Int),())) (List.range ts.length) (fun i a=>.inl (if(ts.getD i zT).2.2.2.1=true then a++[ed (ts.getD i zT)]else a)) (fun a=>.inl (a,())) (fun i a=>a.length≤i) (by simp;omega)
  (fun i x a hi hx ha=>by
   refine⟨fun m' h' => ?_,fun r h'=>(by cases h')⟩
   cases h'
   have:=EC hx
   subst this
   rw[Afp]at hi
   have hlv:=(h x (by simp[hi])).2.2.2.1
   constructor
   ·rw[Ca,AN,AJ,Ae9 hi]
    simp only[Ci zT hi,AN]
    have hfit:fits ((a.length:Int)+(([((ts.getD x zT).1,(ts.getD x zT).2.1,())]:List Edge).length:Int))=true:=BI (by simp;omega)
    rw[AH (by omega),Ap,Ae9 hlv]
    cases ht4:(ts.getD x zT).2.2.2.1
    ·simp
    ·simp only[hfit]
     simp[ed,A4]
   ·split
    ·rw[AfH];simp;omega
    ·omega)
  (fun a _=>by rw[Ca,Afp,AN,AJ,Ae8 (by omega)]) [] (AfN _)
 have e':AS Ca many ((0:Int),[],ts,AO ts,(0:Int),())=_:=e
 simp only[e']
 rw[BL (fun i a=>if(ts.getD i zT).2.2.2.1=true then a++[ed (ts.getD i zT)]else a)]
 rfl
def cnt(out:List Int)(N:Nat):Nat:=((List.range N).filter fun k=>decide (out.getD k 0=(k:Int))).length
theorem AKJ{N:Nat}{rings:List (List Int)}{l:List Edge}{out:List Int}(h:FC (N:Int) rings l)(hc:T1 (N:Int) l out):rings.length=cnt out N:=by
 have hsz:=h.fr.sz
 have hp:(rings.map hd).Perm (((List.range N).filter fun k=>decide (out.getD k 0=(k:Int))).map fun(k:Nat)=>(k:Int)):=by
  rw[Ahl]
  ·intro a
   simp only[AfW,Afv,AgI,AfC]
   constructor
   ·rintro⟨A,hA,rfl⟩
    have gA:=h.fr.rg A hA
    have ih:In (N:Int) (hd A):=NU gA
    have hh:=S6 gA.2.1
    have:=AMm h hc hA ih hh
    obtain⟨_,_,a1,a2⟩:=ih
    refine⟨(hd A).toNat,⟨by omega,?_⟩,by omega⟩
    rw[show out.getD (hd A).toNat 0=cl out (hd A)from rfl,← this]
    omega
   ·rintro⟨k,⟨hk,ho⟩,rfl⟩
    have ik:In (N:Int) (k:Int):=⟨hsz.1,hsz.2,by omega,by omega⟩
    obtain⟨A,hA,hm⟩:=h.fr.cov _ ik
    refine⟨A,hA,?_⟩
    rw[AMm h hc hA ik hm]
    unfold cl
    rw[Af2];exact ho
  ·exact(Age.2 h.fr.up).imp (fun h=>by omega)
  ·refine List.Pairwise.map _ (S:=fun a b=>a≠b) (R:=fun a b=>a≠b) (fun a b h h'=>h (by omega)) ?_
   exact(AiD).filter _
 have:=hp.length_eq
 rw[Af8,Af8]at this
 exact this
theorem Nm(N:Nat)(hN:N≤64)(p:List Tie)(q:List Edge)(out:List Int)(ho:out.length=N):AS DI many ((N:Int),p,q,out,(0:Int),(0:Int),())=some (.inl ((N:Int),p,q,(cnt out N:Int),())):=by
 have e:=Cf (step:=DI) (fun i (a:Nat)=>((N:Int),p,q,out,(a:Int),(i:Int),())) (List.range N) (fun k a=>.inl (if out.getD k 0=(k:Int)then a+1 else a)) (fun a=>.inl ((N:Int),p,q,(a:Int),())) (fun i a=>a≤i) (by simp;omega)
  (fun i x a hi hx ha=>by
   refine⟨fun m' h' => ?_,fun r h'=>(by cases h')⟩
   cases h'
   have:=EC hx
   subst this
   rw[Afp]at hi
   constructor
   ·rw[DI,AJ,Ae9 hi]
    simp only[Ci 0 (show x<out.length by omega),E2,Ao]
    rw[AH (by omega),AH (by omega)]
    by_cases h:out.getD x 0=(x:Int)
    ·rw[Ae9 h,AfQ h]
    ·rw[Ae8 h,AfM h]
   ·split<;>omega)
  (fun a _=>by rw[DI,Afp,AJ,Ae8 (by omega)]) 0 (AfN _)
 have e':AS DI many ((N:Int),p,q,out,(0:Int),(0:Int),())=_:=e
 rw[e',BL (fun k a=>if out.getD k 0=(k:Int)then a+1 else a)]
 have key:∀ (xs:List Nat) (a:Nat),xs.foldl (fun a k=>if out.getD k 0=(k:Int)then a+1 else a) a=a+(xs.filter fun k=>decide (out.getD k 0=(k:Int))).length:=by
  intro xs
  induction xs with
  |nil=>intro a;rfl
  |cons x xs ih=>
   intro a
   rw[Af5,ih,Agb]
   by_cases h:out.getD x 0=(x:Int)
   ·simp only[h,Afb,AfK,AfJ];omega
   ·simp only[h,AfP,AfR,AfO]
 rw[key,AgD]
 rfl
theorem ABR(n:Int)(ts:List Tie)(hl:ts.length<4611686018427387904):∃ b:Bool,Cn ((n,(ts,())),())=some (b,())∧FV ((n,(ts,())),())=some (b,())∧(b=true→∃ N:Nat,n=(N:Int)∧1≤N∧N≤64∧ts.length≤400∧oks N ts):=by
 by_cases hn:¬ (1≤n∧n≤64)
 ·refine⟨false,?_,?_,fun h=>by cases h⟩
  ·rw[FL,EU,Al,Al]
   by_cases h:n<1
   ·simp only[Ae9 h]
   ·simp only[Ae8 h,Ae9 (show 64<n by omega)]
  ·rw[JS,Ho]
   simp only[Sp,Lx,Ap]
   by_cases h:1≤n
   ·simp only[Ae9 h,Ae8 (show ¬ n≤64 by omega),Afc]
   ·simp only[Ae8 h,Afc]
 have hn:=AhK.1 hn
 obtain⟨N,rfl⟩:=AfL (show 0≤n by omega)
 have hsz:Sq ((N:Int),())=some (true,()):=by
  simp only[Sp,Lx,Ap,Ae9 hn.1,Ae9 hn.2]
 by_cases h4:¬ ts.length≤400
 ·refine⟨false,?_,?_,fun h=>by cases h⟩
  ·rw[FL,EU]
   simp only[Al,AN]
   rw[Ae8 (show ¬ (N:Int)<1 by omega),Ae8 (show ¬ 64<(N:Int) by omega),Ae9 (show 400<(ts.length:Int) by omega)]
  ·rw[JS,Ho]
   simp only[hsz,AfI,Al,AN]
   rw[Ae9 (show 400<(ts.length:Int) by omega)]
 have h4:=AhK.1 h4
 have R:=PY N (by omega) ts h4
 have L:=AMF N (by omega) ts h4
 by_cases ho:¬ oks N ts
 ·rw[AfM ho]at R L
  refine⟨false,?_,?_,fun h=>by cases h⟩
  ·rw[FL,EU]
   simp only[Al,AN]
   rw[Ae8 (show ¬ (N:Int)<1 by omega),Ae8 (show ¬ 64<(N:Int) by omega),Ae8 (show ¬ 400<(ts.length:Int) by omega)]
   simp only[R]
  ·rw[JS,Ho]
   simp only[hsz,AfI,Al,AN,Zr N (by omega)]
   rw[Ae8 (show ¬ 400<(ts.length:Int) by omega)]
   rw[AN]at L
   simp only[L]
 have ho:=AhK.1 ho
 rw[AfQ ho]at R L
 have hin:=AOD (show N≤64 by omega) ho
 have hlen:=AE6 ts ts.length
 obtain⟨out,hc,hcl⟩:=Dy (N:Int) (trs ts ts.length) hn (by omega) hin
 rcases(ATs (N:Int) (trs ts ts.length) hn (by omega)).symm with⟨hno,_⟩|⟨_,rings,hf,hfc⟩
 ·exact absurd hin hno
 have hcount:=AKJ hfc hcl
 have hol:out.length=N:=by have:=hcl.len;omega
 refine⟨decide ((cnt out N:Int)=(N:Int)-(trs ts ts.length).length),?_,?_,fun _=>⟨N,rfl,by omega,by omega,h4,ho⟩⟩
 ·rw[FL,EU]
  simp only[Al,AN]
  rw[Ae8 (show ¬ (N:Int)<1 by omega),Ae8 (show ¬ 64<(N:Int) by omega),Ae8 (show ¬ 400<(ts.length:Int) by omega)]
  simp only[R,hc,Nm N (by omega) _ _ out hol,Ao]
  rw[Aj (by omega)]
 ·rw[JS,Ho]
  simp only[hsz,AfI,Al,AN,Zr N (by omega)]
  rw[Ae8 (show ¬ 400<(ts.length:Int) by omega)]
  rw[AN]at L
  simp only[L,AQg ts h4 ho,hf,Df,Ao,hcount]
  rw[Aj (by omega)]
end Go.Pev.Pl
end
section
namespace Go.Pev.Pl
theorem T1.unique{N:Nat}{l:List Edge}{a b:List Int}(h1:1≤N)(h2:N≤64)(ha:T1 (N:Int) l a)(hb:T1 (N:Int) l b):a=b:=by
 have la:=ha.len
 have lb:=hb.len
 refine G4 (0:Int) (by omega) fun k hk => ?_
 have ik:In (N:Int) (k:Int):=⟨by omega,by omega,by omega,by omega⟩
 have e1:=ha.least _ _ ik (hb.isin _ ik) (hb.con _ ik)
 have e2:=hb.least _ _ ik (ha.isin _ ik) (ha.con _ ik)
 unfold cl at e1 e2
 rw[Af2]at e1 e2
 omega
theorem AEQ(xs:List Tie)(a:List Edge):xs.foldl (fun a x=>a++[ed x]) a=a++xs.map ed:=AW3 ed xs a
theorem AQw(n:Int)(ts:List Tie)(hs:ts.length≤400)(h:FV ((n,(ts,())),())=some (true,())):Z9 ((n,(ts,())),())=some (ts.map ed,()):=by
 rw[AD8,QB]
 simp only[h,AfI]
 have e:=Cf (step:=FX) (fun i (a:List Edge)=>(a,ts,AO ts,(i:Int),())) ts (fun x a=>.inl (a++[ed x])) (fun a=>.inl (a,())) (fun i a=>a.length≤i) (by omega)
  (fun i x a hi hx ha=>by
   refine⟨fun m' h' => ?_,fun r h'=>(by cases h')⟩
   cases h'
   constructor
   ·rw[FX]
    simp only[AN]
    rw[AJ,Ae9 hi]
    simp only[Ai hx]
    rw[BI (by simp;omega),AH (by omega)]
    rfl
   ·rw[AfH];simp;omega)
  (fun a _=>by rw[FX,AN,AJ,Ae8 (by omega)]) [] (AfN _)
 have e':AS FX many ([],ts,AO ts,(0:Int),())=_:=e
 simp only[e']
 rw[BL (fun x a=>a++[ed x]),AEQ]
 rfl
theorem ANL(n:Int)(ts:List Tie)(hs:ts.length≤400)(h:Cn ((n,(ts,())),())=some (true,())):Qe ((n,(ts,())),())=some (ts.map ed,()):=by
 rw[AAr,NK]
 simp only[h,AfI]
 have e:=Cf (step:=EG) (fun i (a:List Edge)=>(n,ts,a,(i:Int),())) ts (fun x a=>.inl (a++[ed x])) (fun a=>.inl (a,())) (fun i a=>a.length≤i) (by omega)
  (fun i x a hi hx ha=>by
   refine⟨fun m' h' => ?_,fun r h'=>(by cases h')⟩
   cases h'
   constructor
   ·rw[EG]
    simp only[AN]
    rw[AJ,Ae9 hi]
    simp only[Ai hx]
    rw[BI (by simp;omega),AH (by omega)]
    rfl
   ·rw[AfH];simp;omega)
  (fun a _=>by rw[EG,AN,AJ,Ae8 (by omega)]) [] (AfN _)
 have e':AS EG many (n,ts,[],(0:Int),())=_:=e
 simp only[e']
 rw[BL (fun x a=>a++[ed x]),AEQ]
 rfl
def InV(N:Nat)(x:Int):Prop:=0≤x∧x<(N:Int)
instance (N:Nat)(x:Int):Decidable (InV N x):=inferInstanceAs (Decidable (_∧_))
end Go.Pev.Pl
end
section
namespace Go.Pev.Pl
end Go.Pev.Pl
end
section
namespace Go.Pev.Pl
theorem AEJ(l:List Edge)(u v:Int)(hs:l.length<1073741824):AAR (l,(u,(v,())),())=some (decide (((u,(v,())):Edge)∈l),()):=by
 rw[AMu,XF]
 have e:=Iq (step:=H4) (fun i=>(l,u,v,(i:Int),())) l (fun x=>decide (x=(u,v,()))) (fun _=>.inl (true,())) (.inr (.inl ())) (by omega)
  (fun i x hi hx=>by
   rw[H4,AN,AJ,Ae9 hi]
   simp only[Ai hx,Ao]
   rw[AH (by omega)]
   obtain⟨a,b,⟨⟩⟩:=x
   by_cases h1:a=u
   ·by_cases h2:b=v
    ·simp[h1,h2]
    ·simp[h1,h2]
   ·simp[h1])
  (by rw[H4,AN,AJ,Ae8 (by omega)])
 have e':AS H4 many (l,u,v,(0:Int),())=_:=e
 simp only[e']
 have hany:(l.any fun x=>decide (x=(u,v,())))=decide (((u,(v,())):Edge)∈l):=by
  rw[AgZ]
  simp
 rw[hany]
 generalize decide (((u,(v,())):Edge)∈l)=b
 cases b<;>rfl
def WS(l:List Edge)(u v:Int):Prop:=((u,(v,())):Edge)∈l∨((v,(u,())):Edge)∈l
instance (l:List Edge)(u v:Int):Decidable (WS l u v):=inferInstanceAs (Decidable (_∨_))
def WE(N:Nat)(l:List Edge)(u:Nat):List Edge:=((List.range (N-(u+1))).filter fun i=>decide (WS l (u:Int) ((u+1+i:Nat):Int))).map fun(i:Nat)=>((u:Int),((u+1+i:Nat):Int),())
def I6(N:Nat)(l:List Edge):List Edge:=(List.range N).flatMap fun u=>WE N l u
theorem KP{α β:Type}(P:β→Prop)[DecidablePred P](g:β→α):∀ (xs:List β) (a:List α),xs.foldl (fun a x=>if P x then a++[g x]else a) a=a++(xs.filter fun x=>decide (P x)).map g:=by
 intro xs
 induction xs with
 |nil=>intro a;simp
 |cons x xs ih=>
  intro a
  rw[Af5,ih,Agb]
  by_cases h:P x
  ·simp[h]
  ·simp[h]
theorem AKT(N:Nat)(hN:N≤64)(l:List Edge)(hs:l.length<1073741824)(u:Nat)(hu:u<N)(a:List Edge)(ha:a.length≤64*u):
  AS DK many ((N:Int),l,a,(u:Int),((u+1:Nat):Int),())=some (.inl ((N:Int),l,a++WE N l u,(u:Int),())):=by
 have e:=Cf (step:=DK) (fun i (a:List Edge)=>((N:Int),l,a,(u:Int),((u+1+i:Nat):Int),())) (List.range (N-(u+1))) (fun i a=>.inl (if WS l (u:Int) ((u+1+i:Nat):Int)then a++[((u:Int),((u+1+i:Nat):Int),())]else a)) (fun a=>.inl ((N:Int),l,a,(u:Int),())) (fun i a=>a.length≤64*u+i) (by simp;omega)
  (fun i x a hi hx ha=>by
   refine⟨fun m' h' => ?_,fun r h'=>(by cases h')⟩
   cases h'
   have:=EC hx
   subst this
   rw[Afp]at hi
   constructor
   ·rw[DK,AJ,Ae9 (show u+1+x<N by omega)]
    simp only[AEJ l _ _ hs,AN]
    have hfit:fits ((a.length:Int)+(([((u:Int),((u+1+x:Nat):Int),())]:List Edge).length:Int))=true:=BI (by simp;omega)
    rw[hfit,AH (by omega)]
    by_cases q1:(((u:Int),(((u+1+x:Nat):Int),())):Edge)∈l
    ·rw[Ae9 q1,AfQ (show WS l (u:Int) ((u+1+x:Nat):Int)from .inl q1)]
     rfl
    ·rw[Ae8 q1]
     by_cases q2:(((((u+1+x:Nat):Int),((u:Int),()))):Edge)∈l
     ·rw[Ae9 q2,AfQ (show WS l (u:Int) ((u+1+x:Nat):Int)from .inr q2)]
      rfl
     ·rw[Ae8 q2,AfM (show ¬ WS l (u:Int) ((u+1+x:Nat):Int)from fun h=>by rcases h with h|h;exact q1 h;exact q2 h)]
      rfl
   ·split
    ·rw[AfH];simp;omega
    ·omega)
  (fun a _=>by rw[DK,Afp,AJ,Ae8 (by omega)]) a (by omega)
 have e':AS DK many ((N:Int),l,a,(u:Int),((u+1:Nat):Int),())=_:=e
 rw[e',BL (fun i a=>if WS l (u:Int) ((u+1+i:Nat):Int)then a++[((u:Int),((u+1+i:Nat):Int),())]else a),KP (fun i:Nat=>WS l (u:Int) ((u+1+i:Nat):Int)) (fun i:Nat=>((u:Int),((u+1+i:Nat):Int),()))]
 rfl
theorem AKH(N:Nat)(hN:N≤64)(l:List Edge)(u:Nat):(WE N l u).length≤64:=by
 unfold WE
 rw[Af8]
 have:=Agw (fun i=>decide (WS l (u:Int) ((u+1+i:Nat):Int))) (List.range (N-(u+1)))
 rw[Afp]at this
 omega
theorem AKS(N:Nat)(hN:N≤64)(l:List Edge)(hs:l.length<1073741824):Pj ((N:Int),l,())=some (I6 N l,()):=by
 rw[Yk,Mo]
 have e:=Cf (step:=ED) (fun i (a:List Edge)=>((N:Int),l,a,(i:Int),())) (List.range N) (fun u a=>.inl (a++WE N l u)) (fun a=>.inl (a,())) (fun i a=>a.length≤64*i) (by simp;omega)
  (fun i x a hi hx ha=>by
   refine⟨fun m' h' => ?_,fun r h'=>(by cases h')⟩
   cases h'
   have:=EC hx
   subst this
   rw[Afp]at hi
   have hrow:=AKH N hN l x
   constructor
   ·rw[ED,AJ,Ae9 hi,AH (by omega)]
    simp only[AKT N hN l hs x hi a ha]
    rw[AH (by omega)]
   ·rw[AfH];omega)
  (fun a _=>by rw[ED,Afp,AJ,Ae8 (by omega)]) [] (AfN _)
 have e':AS ED many ((N:Int),l,[],(0:Int),())=_:=e
 simp only[e']
 rw[BL (fun u a=>a++WE N l u)]
 have key:∀ (xs:List Nat) (a:List Edge),xs.foldl (fun a u=>a++WE N l u) a=a++xs.flatMap fun u=>WE N l u:=by
  intro xs
  induction xs with
  |nil=>intro a;simp
  |cons x xs ih=>intro a;rw[Af5,ih];simp
 rw[key]
 rfl
end Go.Pev.Pl
end
section
namespace Go.Pev.Pl
theorem Yf(N:Nat)(hN:N≤64)(l:List Edge):(I6 N l).length≤4096:=by
 have key:∀ M,((List.range M).flatMap fun u=>WE N l u).length≤64*M:=by
  intro M
  induction M with
  |zero=>simp
  |succ M ih=>
   rw[AgO,AhT,AfH]
   have:=AKH N hN l M
   simp only[AgU,List.flatMap_nil,AgL]
   omega
 have:=key N
 unfold I6
 omega
def Jj(N:Nat)(ts:List Tie)(l:List Edge):List Edge:=(I6 N l).filter fun x => !decide (x∈ts.map ed)
def YU(l:List Tie)(t:Tie):List Tie:=l.take (l.findIdx fun x => !decide (ahead x t))++t::l.drop (l.findIdx fun x => !decide (ahead x t))
end Go.Pev.Pl
end
section
namespace Go.Pev.Pl
def valid(N:Nat)(t:Tie):Prop:=0≤t.1∧t.1<t.2.1∧t.2.1<(N:Int)∧0≤t.2.2.1∧t.2.2.1≤HW N
theorem ahead.trans{a b c:Tie}(h:ahead a b)(h':ahead b c):ahead a c:=by
 unfold ahead at *
 omega
theorem W4(N:Nat)(ts:List Tie):oks N ts↔(∀ t∈ts,valid N t)∧ts.Pairwise ahead:=by
 constructor
 ·intro h
  have hv:∀ i,i<ts.length→LD N ts i:=fun i hi=>h i (by simpa using hi)
  refine⟨fun t ht => ?_,?_⟩
  ·obtain⟨i,hi,rfl⟩:=AgE ht
   obtain⟨q1,q2,q3,q4,q5,_⟩:=hv i hi
   simp only[AfB,AfE hi,Afg]at q1 q2 q3 q4 q5
   exact⟨q1,q2,q3,q4,q5⟩
  ·have key:∀ (d i:Nat),i+d+1<ts.length→ahead (ts.getD i zT) (ts.getD (i+d+1) zT):=by
    intro d
    induction d with
    |zero=>
     intro i hi
     obtain⟨_,_,_,_,_,q⟩:=hv (i+0+1) hi
     rcases q with q|q
     ·omega
     ·simpa using q
    |succ d ih=>
     intro i hi
     have h1:=ih i (by omega)
     obtain⟨_,_,_,_,_,q⟩:=hv (i+(d+1)+1) hi
     rcases q with q|q
     ·omega
     ·rw[show i+(d+1)+1-1=i+d+1 by omega]at q
      exact h1.trans q
   rw[AgG]
   intro i j hi hj hij
   have:=key (j-i-1) i (by omega)
   rw[show i+(j-i-1)+1=j by omega]at this
   simpa only[AfB,AfE hi,AfE hj,Afg]using this
 ·rintro⟨h1,h2⟩ i hi
  have hi:i<ts.length:=by simpa using hi
  have e:∀ j (hj:j<ts.length),ts.getD j zT=ts[j]:=fun j hj=>by
   simp only[AfB,AfE hj,Afg]
  obtain⟨q1,q2,q3,q4,q5⟩:=h1 ts[i] (AgP hi)
  unfold LD
  rw[e i hi]
  refine⟨q1,q2,q3,q4,q5,?_⟩
  by_cases h0:i=0
  ·exact .inl h0
  ·right
   rw[e (i-1) (by omega)]
   exact(AgG.1 h2) (i-1) i (by omega) hi (by omega)
theorem ADk(l:List Tie)(t:Tie):(YU l t).Perm (t::l):=by
 unfold YU
 refine List.perm_middle.trans ?_
 rw[Af1]
theorem AU2{l:List Tie}{t:Tie}(h:l.Pairwise ahead)(hn:∀ x∈l,¬ (x.1=t.1∧x.2.1=t.2.1)):(YU l t).Pairwise ahead:=by
 induction l with
 |nil=>simp[YU]
 |cons a l ih=>
  rw[Afy]at h
  have hna:=hn a (by simp)
  have hnl:∀ x∈l,¬ (x.1=t.1∧x.2.1=t.2.1):=fun x hx=>hn x (by simp[hx])
  by_cases ha:ahead a t
  ·have e:YU (a::l) t=a::YU l t:=by
    unfold YU
    rw[Ahc]
    simp[ha]
   rw[e,Afy]
   refine⟨fun x hx => ?_,ih h.2 hnl⟩
   rcases AfG.1 ((ADk l t).mem_iff.1 hx)with rfl|hx
   ·exact ha
   ·exact h.1 x hx
  ·have e:YU (a::l) t=t::a::l:=by
    unfold YU
    rw[Ahc]
    simp[ha]
   have hta:ahead t a:=by unfold ahead at *;omega
   rw[e,Afy,Afy]
   refine⟨fun x hx => ?_,h.1,h.2⟩
   rcases AfG.1 hx with rfl|hx
   ·exact hta
   ·exact hta.trans (h.1 x hx)
end Go.Pev.Pl
end
section
namespace Go.Pev.Pl
theorem Zj(N:Nat)(l:List Edge)(x:Edge):x∈I6 N l↔0≤x.1∧x.1<x.2.1∧x.2.1<(N:Int)∧WS l x.1 x.2.1:=by
 unfold I6 WE
 simp only[AiC,AfW,Afv,AgI,AfC]
 constructor
 ·rintro⟨u,hu,i,⟨hi,he⟩,rfl⟩
  exact⟨by show(0:Int)≤(u:Int);omega,by show(u:Int)<((u+1+i:Nat):Int);omega,by show((u+1+i:Nat):Int)<(N:Int);omega,he⟩
 ·obtain⟨a,b,⟨⟩⟩:=x
  rintro⟨h1,h2,h3,h4⟩
  simp only at h1 h2 h3 h4
  obtain⟨u,rfl⟩:=AfL h1
  obtain⟨v,rfl⟩:=AfL (show 0≤b by omega)
  refine⟨u,by omega,v-(u+1),⟨by omega,?_⟩,?_⟩
  ·rw[show u+1+(v-(u+1))=v by omega];exact h4
  ·rw[show u+1+(v-(u+1))=v by omega]
def IL(p x:Edge):Prop:=p.1<x.1∨(p.1=x.1∧p.2.1<x.2.1)
theorem UA(N:Nat)(l:List Edge):(I6 N l).Pairwise IL:=by
 unfold I6
 rw[List.pairwise_flatMap]
 refine⟨fun u _ => ?_,?_⟩
 ·unfold WE
  rw[Age]
  refine AhM _ ?_
  refine List.pairwise_lt_range.imp fun h => ?_
  exact .inr ⟨rfl,by show((u+1+_:Nat):Int)<((u+1+_:Nat):Int);omega⟩
 ·refine List.pairwise_lt_range.imp fun h x hx y hy => ?_
  unfold WE at hx hy
  simp only[AfW]at hx hy
  obtain⟨i,_,rfl⟩:=hx
  obtain⟨j,_,rfl⟩:=hy
  exact .inl (by simp only;omega)
theorem Sb(N:Nat)(ts:List Tie)(l:List Edge)(x:Edge):x∈Jj N ts l↔(0≤x.1∧x.1<x.2.1∧x.2.1<(N:Int)∧WS l x.1 x.2.1)∧¬ x∈ts.map ed:=by
 unfold Jj
 rw[Afv,Zj]
 simp
theorem ASA(N:Nat)(ts:List Tie)(l:List Edge):(Jj N ts l).Pairwise IL:=(UA N l).filter _
end Go.Pev.Pl
end
section
namespace Go.Pev.Pl
open Tok
instance (n v:Int):Decidable (In n v):=inferInstanceAs (Decidable (_∧_))
instance (n:Int):Decidable (Sz n):=inferInstanceAs (Decidable (_∧_))
theorem JW(n v:Int):AMU (n,v,())=some (decide (In n v),()):=by
 rw[Ac2,ARJ]
 simp only[Ap,Al]
 by_cases h1:1≤n<;>by_cases h2:n≤64<;>by_cases h3:0≤v<;>simp[In,h1,h2,h3]
theorem AEh(n u v:Int):ANs (n,u,v,())=some (Dt n u v,()):=by
 rw[AbU,AIq]
 simp only[JW,Dt,Ao]
 by_cases h1:In n u
 ·by_cases h2:In n v
  ·by_cases h3:u=v
   ·simp[h1,h2,h3]
   ·obtain⟨a1,a2,a3,a4⟩:=h1
    obtain⟨b1,b2,b3,b4⟩:=h2
    have hb:=FU a1 a2 a3 (by omega)
    have e1:u*n=n*u:=Int.mul_comm _ _
    have e2:n*(u+1)=n*u+n:=by rw[Ah2,Ah3]
    rw[e1,Aj (n:=n*u) (by omega),Aj (n:=n+n*u) (by omega),Aj (n:=n+n*u+v) (by omega),e2]
    have e3:n+n*u+v=n*u+n+v:=by omega
    simp[In,a1,a2,a3,a4,b3,b4,h3,e3]
  ·simp[h1,h2]
 ·simp[h1]
theorem T4(n t:Int)(ht:-9223372036854775808≤t∧t≤9223372036854775807):Wo (n,t,())=some (Nd (B4 n t)):=by
 rw[AOM,Ri]
 simp only[JW,Al,Ap]
 by_cases hi:In n t
 ·simp only[hi,AfK,B4,Afb,Nd]
 ·simp only[hi,AfR]
  by_cases h1:n<1
  ·have hs:¬ Sz n:=fun h=>by have:=h.1;omega
   simp only[h1,AfK,B4,hi,AfP,hs,Agc,Nd]
  ·simp only[h1,AfR]
   by_cases h2:64<n
   ·have hs:¬ Sz n:=fun h=>by have:=h.2;omega
    simp only[h2,AfK,B4,hi,AfP,hs,Agc,Nd]
   ·have a1:1≤n:=by omega
    have a2:n≤64:=by omega
    have hb:=FU (u:=n) a1 a2 (by omega) (by omega)
    have e3:n*(n+1)=n*n+n:=by rw[Ah2,Ah3]
    rw[Aj (n:=n*n) (by omega),Aj (n:=n+n*n) (by omega)]
    simp only[h2,AfR]
    by_cases h3:t<n
    ·have:¬ n≤t:=by omega
     simp only[h3,AfK,B4,hi,AfP,this,Agc,and_false,Nd]
    ·simp only[h3,AfR]
     by_cases h4:n+n*n≤t
     ·have:¬ t<n*(n+1):=by omega
      simp only[h4,AfK,B4,hi,AfP,this,Agc,and_false,Nd]
     ·obtain⟨d1,d2,d3⟩:=AII (t:=t) ⟨a1,a2⟩ (by omega) (by omega)
      have q1:=d1.2.2.1
      have q2:=d1.2.2.2
      rw[Aj (n:=t-n) (by omega)]
      have hq:(t-n).tdiv n=t/n-1:=by
       rw[Ag5 (by omega)]
       have:=Int.add_mul_ediv_right t (-1) (show n≠0 by omega)
       rw[show t-n=t + -1*n by omega,this];omega
      have hm:(t-n).tmod n=t % n:=by
       rw[Int.tmod_eq_emod_of_nonneg (by omega)]
       have:=Int.add_mul_emod_self_right t (-1) n
       rw[show t-n=t + -1*n by omega,this]
      simp only[h4,AfR,Rv,Pc,AFx,WH]
      rw[AfM (by omega),AfM (by omega),hq,hm,Aj (n:=t/n-1) (by omega)]
      simp only[]
      rw[Ao,B4,AfM hi]
      by_cases h5:t/n-1=t % n
      ·rw[AfM (by intro h;exact h.2.2.2 h5),Ae9 h5];rfl
      ·rw[AfQ ⟨⟨a1,a2⟩,by omega,by omega,h5⟩,Ae8 h5];rfl
theorem AMH(xs ys:List (List Int))(hs:xs.length<9223372036854775808)(hi:∀ x∈xs,x.length<9223372036854775808):AHD (xs,ys,())=some (decide (xs=ys),()):=by
 rw[AQp,Ss,QN]
 by_cases hl:xs.length=ys.length
 ·rw[Ae9 hl]
  simp only[AfI]
  rcases X2 (step:=FW) (fun i=>(xs,ys,((i:Nat):Int),())) xs.length (fun i => !decide (xs.getD i []=ys.getD i [])) (fun _=>.inl (false,())) (.inr (.inl ())) hs (fun i hii=>by
   have hm:(xs.getD i []).length<9223372036854775808:=hi _ (by simp[hii])
   rw[FW,AN,AJ,Ae9 hii]
   simp (disch:=first|omega|exact hm) only[Ci ([]:List Int),AH,AAB]
   by_cases h:xs.getD i []=ys.getD i []
   ·rw[Ae9 h];simp
   ·rw[Ae8 h];simp) (by rw[FW,AN,AJ,Ae8 (by omega)])with⟨k,hk,hP,_,e⟩|⟨h,e⟩
  ·have e':AS FW many (xs,ys,(0:Int),())=_:=e
   rw[e']
   have:xs≠ys:=VG ([]:List Int) (j:=k) (by simpa using hP)
   simp[this]
  ·have e':AS FW many (xs,ys,(0:Int),())=_:=e
   rw[e']
   have:xs=ys:=G4 ([]:List Int) hl fun j hj=>by simpa using h j hj
   simp[this]
 ·rw[Ae8 hl]
  have:xs≠ys:=fun e=>hl (by rw[e])
  simp[this]
theorem AMA(N:Nat)(hN:N≤64)(c:Int):∀ (k i n:Nat),i+k=N→k<n→AQ JR n ((N:Int),c,(N:Int),BJ i,(i:Int),())=some (.inl (c,(N:Int),BJ N,())):=by
 intro k
 induction k with
 |zero=>
  intro i n hi hn
  obtain⟨n,rfl⟩:∃ k,n=k+1:=⟨n-1,by omega⟩
  have:i=N:=by omega
  subst this
  rw[AQ,JR,AJ,Ae8 (by omega)]
 |succ k ih=>
  intro i n hi hn
  obtain⟨n,rfl⟩:∃ k,n=k+1:=⟨n-1,by omega⟩
  rw[AQ,JR,AJ,Ae9 (by omega)]
  simp only[AN,T8,AfJ,AfV]
  rw[BI (by omega),AH (by omega)]
  simp only[Cd,← PT]
  exact ih (i+1) n (by omega) (by omega)
theorem AQf(n:Int):AG8 (n,())=some (Gy n):=by
 have hm:4294967296<many:=by simp only[many];omega
 rw[AVy,Zm,Gy]
 simp only[Al]
 by_cases h1:n<1
 ·have:¬ Sz n:=fun h=>by have:=h.1;omega
  simp[h1,this]
 ·by_cases h2:64<n
  ·have:¬ Sz n:=fun h=>by have:=h.2;omega
   simp[h1,h2,this]
  ·obtain⟨N,rfl⟩:=AfL (show 0≤n by omega)
   have hS:Sz (N:Int):=⟨by omega,by omega⟩
   have e:=AMA N (by omega) 0 N 0 many (by omega) (by omega)
   have e':AQ JR many ((N:Int),0,(N:Int),[],(0:Int),())=_:=e
   simp[h1,h2,hS,Ag,e']
end Go.Pev.Pl
end
section
namespace Go.Pev.Pl
theorem LX(xs:List Int)(t:Int)(hs:xs.length<9223372036854775808):Mr (xs,t,())=some (pos xs t,()):=by
 rw[APY,R7]
 have e:=Iq (step:=Hj) (fun i=>(xs,t,(i:Int),())) xs (fun x=>decide (x=t)) (fun i=>.inl ((i:Int),())) (.inr (.inl ())) hs
  (fun i x hi hx=>by
   rw[Hj,AN,AJ,Ae9 hi]
   simp only[Ai hx,Ao]
   by_cases h:x=t
   ·simp[h]
   ·simp only[h,AfR];rw[AH (by omega)];simp)
  (by rw[Hj,AN,AJ,Ae8 (by omega)])
 have e':AS Hj many (xs,t,(0:Int),())=_:=e
 rw[e',AIr,pos]
 by_cases h:t∈xs<;>simp[h]
instance (xs:List Int):Decidable (Rt xs):=inferInstanceAs (Decidable (_∧_∧_))
theorem LU(xs:List Int):PZ (xs,())=some (decide (Rt xs),()):=by
 rw[AOw,Ru,AN,Al]
 by_cases hl:xs.length≤1000
 ·rw[Ae8 (by omega)]
  simp only[]
  rcases X2 (step:=FM) (fun i=>(xs,((i:Nat):Int),())) xs.length (fun i=>decide (xs.getD i 0<0)||decide (10000<xs.getD i 0)||decide (xs.getD i 0∈xs.take i)) (fun _=>.inl (false,())) (.inr (.inl ())) (by omega) (fun i hi=>by
   rw[FM,AN,AJ,Ae9 hi]
   have hpl:Mr (xs.take i,xs.getD i 0,())=some (pos (xs.take i) (xs.getD i 0),()):=LX _ _ (by simp;omega)
   simp (disch:=omega) only[Ci (0:Int),Jw,hpl,AH,Al,Ap]
   by_cases h1:xs.getD i 0<0
   ·simp only[h1,AfK];simp
   ·by_cases h2:10000<xs.getD i 0
    ·simp only[h1,h2,AfK,AfR];simp
    ·by_cases h3:xs.getD i 0∈xs.take i
     ·obtain⟨k,e,_⟩:=AF5 h3
      rw[e]
      simp only[h1,h2,h3,AfK,AfR];simp
     ·rw[Ph h3]
      simp only[h1,h2,h3,AfR];simp) (by rw[FM,AN,AJ,Ae8 (by omega)])with⟨k,hk,hP,_,e⟩|⟨h,e⟩
  ·have e':AS FM many (xs,(0:Int),())=_:=e
   rw[e']
   have:¬ Rt xs:=by
    rintro⟨_,h1,h2⟩
    have hm:xs.getD k 0∈xs:=by
     rw[AfB,AfE hk,Afg];exact AgP hk
    have:=h1 _ hm
    have h3:=(P5 xs).1 h2 k hk
    have c1:¬ xs.getD k 0<0:=by omega
    have c2:¬ 10000<xs.getD k 0:=by omega
    rw[Ae8 c1,Ae8 c2,Ae8 h3]at hP
    cases hP
   simp[this]
  ·have e':AS FM many (xs,(0:Int),())=_:=e
   rw[e']
   have:Rt xs:=by
    have key:∀ j,j<xs.length→¬ xs.getD j 0<0∧¬ 10000<xs.getD j 0∧xs.getD j 0∉xs.take j:=fun j hj=>by
     have:=h j hj
     rw[AhL,AhL,Aft,Aft,Aft]at this
     exact⟨this.1.1,this.1.2,this.2⟩
    refine⟨hl,fun x hx => ?_,(P5 xs).2 fun j hj=>(key j hj).2.2⟩
    obtain⟨j,hj,rfl⟩:=AgE hx
    obtain⟨k1,k2,_⟩:=key j hj
    rw[AfB,AfE hj,Afg]at k1 k2
    omega
   simp[this]
 ·rw[Ae9 (by omega)]
  have:¬ Rt xs:=fun h=>hl h.1
  simp[this]
theorem On(xs:List Int)(t:Int)(hs:xs.length<9223372036854775808):AAc (xs,t,())=some (Io xs t):=by
 rw[AW2,AAb,Io]
 simp only[LX xs t hs,LU]
 by_cases hr:Rt xs
 ·have hl:=hr.1
  simp only[hr,AfK,AfI,Ags]
  by_cases h:t∈xs
  ·have hk:xs.findIdx (fun x=>decide (x=t))<xs.length:=Ago.2 ⟨t,h,by simp⟩
   rw[pos,AfQ h,AfQ h,A6,rot]
   generalize xs.findIdx (fun x=>decide (x=t))=k at *
   rw[Al,Ae8 (by omega)]
   simp only[Du (AhE hk),Jw (AhE hk)]
   rw[BI (by simp only[AN,AfV,Afj];omega)]
   simp only[]
   rw[BI (by simp only[AN,Cd,Afi,AfT,Afj];omega)]
   simp only[Cd,Afi]
  ·rw[Ph h,AfM h,Al]
   simp
 ·simp[hr]
theorem UB(xs:List Int):W0 (xs,())=some (plain xs,()):=by
 rw[APT,R5,plain]
 simp only[LU]
 by_cases hr:Rt xs
 ·have hl:=hr.1
  simp only[hr,AfK,AfI,Ags]
  cases xs with
  |nil=>simp[AN,Dr]
  |cons x xs=>
   rw[AN,Ao,Ae8 (by simp only[AfJ];omega)]
   have i0:idx (x::xs) (0:Int)=some x:=by rw[Ev];rfl
   simp only[i0]
   have e:=Cf (step:=Hh) (fun i (a:Int)=>(x::xs,a,(i:Int),())) (x::xs) (fun y a=>.inl (Bt a y)) (fun a=>.inl (x::xs,a,())) (fun _ _=>True) (by omega)
    (fun i y a hi hy _=>by
     refine⟨fun m' h' => ?_,fun r h'=>by cases h'⟩
     cases h'
     rw[Hh,AN,AJ,Ae9 hi]
     simp only[Ai hy]
     rw[AH (by omega)]
     exact⟨rfl,trivial⟩)
    (fun a _=>by rw[Hh,AN,AJ,Ae8 (by omega)]) x trivial
   have e':AS Hh many (x::xs,x,(0:Int),())=_:=e
   rw[e',BL]
   have hmin:(x::xs).foldl (fun a y=>Bt a y) x=GX (x::xs):=by
    rw[Af5,GX]
    have:Bt x x=x:=by rw[Bt];split<;>rfl
    rw[this]
   rw[hmin]
   have hm:=(Ea (xs:=x::xs) (by simp)).1
   simp only[On (x::xs) _ (by omega),Io,hr,hm,Ahs,Afb]
   simp
 ·simp[hr]
end Go.Pev.Pl
end
section
namespace Go.Pev.Pl
open Tok
noncomputable instance (n:Int) (xs:List Int):Decidable (TI n xs):=Classical.propDecidable _
end Go.Pev.Pl
end
section
namespace Go.Pev.Pl
open Tok
theorem AFT(n t u:Int)(ht:-9223372036854775808≤t∧t≤9223372036854775807):Xv (n,t,u,())=some (Jx n t u,()):=by
 rw[AJo,OB,Jx]
 simp only[T4 n t ht,Ao]
 cases B4 n t with
 |none=>rfl
 |some x=>cases x with
  |ver v=>
   by_cases h:v=u<;>simp[Nd,st,h]
  |arc p q=>
   by_cases h:q=u<;>simp[Nd,st,h]
end Go.Pev.Pl
end
section
namespace Go.Pev.Pl
open Tok
theorem Abk(n:Int)(l:List Int)(i:Nat)(hi:i<l.length)(hl:l.length<1073741824)(d5 d6 d7 d8:Bool)(d9 d10:Int)(d11:Bool)(d12 d13 d14 d15 d16:Int)(d17:Bool)(d18 d19 d20 d21 d22 d23 d24 d25 d26:Int)(d27:Bool):
  ∀ (m k cnt:Nat) (acc:List Int),k+m=l.length→acc.length≤k→m<cnt →
  AQ JG cnt (n,l,(i:Int),acc,(k:Int),d5,d6,d7,d8,d9,d10,d11,d12,d13,d14,d15,d16,d17,d18,d19,d20,d21,d22,d23,d24,d25,d26,d27,()) =
   some (.inl (n,(i:Int),acc++(List.range' k m).map (fun k=>l.getD ((i+k) % l.length) 0),d5,d6,d7,d8,d9,d10,d11,d12,d13,d14,d15,d16,d17,d18,l,d19,d20,d21,d22,d23,d24,d25,d26,d27,())):=by
 intro m
 induction m with
 |zero=>
  intro k cnt acc hk ha hc
  obtain⟨cnt,rfl⟩:∃ c,cnt=c+1:=⟨cnt-1,by omega⟩
  rw[AQ,JG,AN,AJ,Ae8 (by omega)]
  simp
 |succ m ih=>
  intro k cnt acc hk ha hc
  obtain⟨cnt,rfl⟩:∃ c,cnt=c+1:=⟨cnt-1,by omega⟩
  have hm:(i+k) % l.length<l.length:=Nat.mod_lt _ (by omega)
  rw[AQ,JG,AN,AJ,Ae9 (by omega)]
  simp only[]
  rw[wrap_add (by omega),Wz (by omega)]
  simp only[Ci (0:Int) hm,E2]
  rw[BI (by simp only[AN,AfJ,AfV];omega),AH (by omega)]
  simp only[Cd]
  rw[ih (k+1) cnt _ (by omega) (by simp;omega) (by omega)]
  simp[AiB]
theorem AOH(n:Int)(l:List Int)(i:Nat)(hi:i<l.length)(h1:1<l.length)(hl:l.length<1073741824)(hr:∀ x∈l, -9223372036854775808≤x∧x≤9223372036854775807):
  DV (n,l,false,(i:Int),())=if KG n l i then some (.inl (n,FN l i,true,((i+1:Nat):Int),()))else some (.inl (n,l,false,((i+1:Nat):Int),())):=by
 have hmany:4294967296<many:=by simp only[many];omega
 have m1:(i+1) % l.length<l.length:=Nat.mod_lt _ (by omega)
 have m2:(i+2) % l.length<l.length:=Nat.mod_lt _ (by omega)
 have m0:(i+l.length-1) % l.length<l.length:=Nat.mod_lt _ (by omega)
 have hin:∀ {k:Nat},k<l.length→l.getD k 0∈l:=fun {k} hk=>by
  rw[AfB,AfE hk,Afg];exact AgP hk
 have w2:IntKind.wrap .i64 ((i:Int)+2)=((i+2:Nat):Int):=by rw[Aj (by omega)];omega
 have w3:IntKind.wrap .i64 ((i:Int)+(l.length:Int))=((i+l.length:Nat):Int):=wrap_add (by omega)
 have w4:IntKind.wrap .i64 (((i+l.length:Nat):Int)-1)=((i+l.length-1:Nat):Int):=An (by omega)
 have f4:ile (4:Int) (l.length:Int)=decide (4≤l.length):=by
  rw[Ap]
  by_cases h:4≤l.length
  ·rw[Ae9 h,Ae9 (by omega)]
  ·rw[Ae8 h,Ae8 (by omega)]
 rw[DV,AN,AJ,Ae9 hi]
 simp only[Afc,Ci (0:Int) hi]
 rw[AH (by omega),w2,Wz (by omega),Wz (by omega)]
 simp only[Ci (0:Int) m1,Ci (0:Int) m2,E2,T4 n _ (hr _ (hin hi)),f4,KG]
 by_cases h4:4≤l.length
 ·simp only[h4,AfK,AhV]
  cases ht:B4 n (l.getD i 0)with
  |none=>rfl
  |some t=>
   cases t with
   |ver v=>rfl
   |arc u v=>
    simp only[Nd,Ao,AEh]
    by_cases c1:l.getD ((i+1) % l.length) 0=v
    ·simp only[c1,AfK,AhV]
     by_cases c2:l.getD ((i+2) % l.length) 0=Dt n v u
     ·simp only[c2,AfK,AhV,w3,w4]
      rw[Wz (by omega)]
      simp only[Ci (0:Int) m0,E2,AFT n _ u (hr _ (hin m0))]
      cases Jx n (l.getD ((i+l.length-1) % l.length) 0) u
      ·rfl
      ·simp only[Afb,Ag]
       have e:=Abk n l i hi hl false true true true v v true (Dt n v u) n v u (Dt n v u) true n (i:Int) (l.length:Int) ((i+l.length:Nat):Int) ((i+l.length-1:Nat):Int) (l.length:Int) (((i+l.length-1) % l.length:Nat):Int) (l.getD ((i+l.length-1) % l.length) 0) u true (l.length-3) 3 many [] (by omega) (by simp) (by omega)
       have e':AQ JG many (n,l,(i:Int),[],(3:Int),_)=_:=e
       simp only[e',AH (show i+1<9223372036854775808 by omega)]
       rfl
     ·simp only[c2,AfR,AgW,AfO,AfP]
    ·simp only[c1,AfR,AgW,AfO,AfP]
 ·simp only[h4,AfR,AgW,AfO,AfP]
theorem Abl(n:Int)(l:List Int)(h1:1<l.length)(hl:l.length<1073741824)(hr:∀ x∈l, -9223372036854775808≤x∧x≤9223372036854775807):
  ∀ (m i cnt:Nat),i+m=l.length→m+1<cnt →
  (∃ k,k<l.length∧KG n l k=true∧AQ DV cnt (n,l,false,(i:Int),())=some (.inl (n,FN l k,true,()))) ∨
  ((∀ k,i≤k→k<l.length→KG n l k=false)∧AQ DV cnt (n,l,false,(i:Int),())=some (.inl (n,l,false,()))):=by
 intro m
 induction m with
 |zero=>
  intro i cnt hi hc
  obtain⟨cnt,rfl⟩:∃ c,cnt=c+1:=⟨cnt-1,by omega⟩
  right
  refine⟨fun k q1 q2=>by omega,?_⟩
  rw[AQ,DV,AN,AJ,Ae8 (by omega)]
 |succ m ih=>
  intro i cnt hi hc
  obtain⟨cnt,rfl⟩:∃ c,cnt=c+1:=⟨cnt-1,by omega⟩
  rw[AQ,AOH n l i (by omega) h1 hl hr]
  cases hlf:KG n l i
  ·simp only[AfO,AfP]
   rcases ih (i+1) cnt (by omega) (by omega)with h|⟨h,e⟩
   ·exact .inl h
   ·refine .inr ⟨fun k q1 q2 => ?_,e⟩
    by_cases ek:k=i
    ·rw[ek];exact hlf
    ·exact h k (by omega) q2
  ·simp only[Afb]
   obtain⟨cnt,rfl⟩:∃ c,cnt=c+1:=⟨cnt-1,by omega⟩
   refine .inl ⟨i,by omega,hlf,?_⟩
   rw[AQ,DV]
   cases ilt ((i+1:Nat):Int) (AO (FN l i))<;>rfl
theorem Abm(n:Int):∀ (m:Nat) (l:List Int) (cnt:Nat),l.length=m→l.length<1073741824→(∀ x∈l, -9223372036854775808≤x∧x≤9223372036854775807)→l.Nodup→m<cnt →
  (¬ TI n l∧AQ Mi cnt (n,l,())=some (.inl (false,()))) ∨
  ∃ l',AQ Mi cnt (n,l,())=some (.inr (.inl (n,l',())))∧l'.length≤1∧(TI n l↔TI n l'):=by
 intro m
 induction m using Nat.strongRecOn with
 |_ m ih=>
 intro l cnt hm hl hr hn hc
 have hmany:4294967296<many:=by simp only[many];omega
 obtain⟨cnt,rfl⟩:∃ c,cnt=c+1:=⟨cnt-1,by omega⟩
 rw[AQ,Mi,AN,Al]
 by_cases h1:1<l.length
 ·rw[Ae9 (by omega)]
  simp only[Ag]
  rcases Abl n l h1 hl hr l.length 0 many (by omega) (by omega)with⟨k,k1,k2,e⟩|⟨k1,e⟩
  ·have e':AQ DV many (n,l,false,(0:Int),())=_:=e
   simp only[e',AfI]
   have hred:=AQy k1 k2
   have hiff:=Ad1 hred hn
   have hlen:(FN l k).length=l.length-3:=by simp[FN]
   rcases ih (l.length-3) (by omega) (FN l k) cnt hlen (by omega) (fun x hx=>hr x (AO8 k1 x hx)) (AU1 hred hn) (by omega)with⟨q1,q2⟩|⟨l',q1,q2,q3⟩
   ·exact .inl ⟨fun h=>q1 (hiff.1 h),q2⟩
   ·exact .inr ⟨l',q1,q2,hiff.trans q3⟩
  ·have e':AQ DV many (n,l,false,(0:Int),())=_:=e
   simp only[e',Afc]
   refine .inl ⟨fun h => ?_,by trivial⟩
   obtain⟨l',hl'⟩:=Aeg h h1
   obtain⟨i,i1,i2⟩:=APC hl'
   rw[k1 i (by omega) i1]at i2
   cases i2
 ·rw[Ae8 (by omega)]
  exact .inr ⟨l,rfl,by omega,Iff.rfl⟩
theorem AOI(n:Int)(l:List Int)(hl:l.length<1073741824)(hr:∀ x∈l, -9223372036854775808≤x∧x≤9223372036854775807)(hn:l.Nodup):AOJ (n,l,())=some (decide (TI n l),()):=by
 have hmany:4294967296<many:=by simp only[many];omega
 rw[AUS,Xn,BI (by simp only[AN,AfV];omega)]
 simp only[Cd,Afi,Ag]
 rcases Abm n l.length l many rfl hl hr hn (by omega)with⟨q1,q2⟩|⟨l',q1,q2,q3⟩
 ·rw[q2,Ae8 q1]
 ·rw[q1]
  simp only[AN,Ao]
  match l',q2,q3 with
  |[],_,q3=>
   have:¬ TI n l:=fun h=>Abc n (q3.1 h)
   simp[this]
  |[t],_,q3=>
   rw[Abb]at q3
   have i0:idx [t] (0:Int)=some t:=by rw[Ev];rfl
   have d0:AM [t] 0 (0:Int)=t:=rfl
   rw[Ae9 (by simp)]
   simp only[i0,d0,JW]
   by_cases h:In n t
   ·rw[Ae9 h,Ae9 (q3.2 h)]
   ·rw[Ae8 h,Ae8 (fun h2=>h (q3.1 h2))]
end Go.Pev.Pl
end
section
namespace Go.Pev.Pl
open Tok
noncomputable instance (n:Int) (rings:List (List Int)):Decidable (RF n rings):=Classical.propDecidable _
noncomputable instance (n:Int) (xs:List Int):Decidable (RG n xs):=Classical.propDecidable _
end Go.Pev.Pl
end
end
section
section
namespace Go.Pev.Pl
open Tok
theorem ACE(N:Nat)(hN:N≤64)(l:List Int)(hl:l.length<1073741824)(h0:∀ t∈l,0≤t)(d1:List (List Int))(d3 d5:Int)(d8:List Int)(d9:Int)(d10:Bool)(d11:Int)(d12:List Int)(d13 d14:Bool)(d15 d16:List Int)(d17:List (List Int))(d18:List Int)(d19:List (List Int))(d20 d21:Bool)(d22:List Int)(d23 d24:Int)(d25:Bool):
  ∀ (m k cnt:Nat) (met:List Bool) (seen:List Int),k+m=l.length→MB N met seen→(l.drop k).Nodup→seen.length+m<4611686018427387904→m<cnt →
  ((∀ t∈l.drop k,t<(N:Int)→t∉seen)∧∃ met',AQ EA cnt ((N:Int),d1,met,d3,(seen.length:Int),d5,l,(k:Int),d8,d9,d10,d11,d12,d13,d14,d15,d16,d17,d18,d19,d20,d21,d22,d23,d24,d25,()) =
    some (.inr (.inl ((N:Int),d1,met',d3,((seen++(l.drop k).filter (fun t=>decide (t<(N:Int)))).length:Int),d5,d8,d9,d10,d11,d12,d13,d14,d15,d16,d17,d18,d19,d20,d21,d22,d23,d24,d25,())))∧MB N met' (seen++(l.drop k).filter (fun t=>decide (t<(N:Int))))) ∨
  (¬ (∀ t∈l.drop k,t<(N:Int)→t∉seen)∧AQ EA cnt ((N:Int),d1,met,d3,(seen.length:Int),d5,l,(k:Int),d8,d9,d10,d11,d12,d13,d14,d15,d16,d17,d18,d19,d20,d21,d22,d23,d24,d25,())=some (.inl (false,()))):=by
 intro m
 induction m with
 |zero=>
  intro k cnt met seen hk hm hn hsl hc
  obtain⟨cnt,rfl⟩:∃ c,cnt=c+1:=⟨cnt-1,by omega⟩
  have e:l.drop k=[]:=AgK (by omega)
  rw[e]
  refine .inl ⟨by simp,met,?_,by simpa using hm⟩
  rw[AQ,EA,AN,AJ,Ae8 (by omega)]
  simp
 |succ m ih=>
  intro k cnt met seen hk hm hn hsl hc
  obtain⟨cnt,rfl⟩:∃ c,cnt=c+1:=⟨cnt-1,by omega⟩
  have hk':k<l.length:=by omega
  have e:l.drop k=l.getD k 0::l.drop (k+1):=by
   rw[Afw hk',AfB,AfE hk',Afg]
  have hpos:0≤l.getD k 0:=h0 _ (by rw[AfB,AfE hk',Afg];exact AgP hk')
  rw[AQ,EA,AN,AJ,Ae9 hk']
  simp only[Ci (0:Int) hk']
  rw[e]at hn ⊢
  generalize l.getD k 0=t at *
  rw[Aff]at hn
  rw[AH (show k+1<9223372036854775808 by omega),Al]
  by_cases ht:t<(N:Int)
  ·rw[Ae9 ht]
   obtain⟨q,rfl⟩:=AfL hpos
   have hq:q<met.length:=by rw[hm.1];omega
   have hmq:=hm.2 q (by omega)
   simp only[Ci false hq,E2,AAt,hmq]
   by_cases hs:(q:Int)∈seen
   ·rw[Ae9 hs]
    exact .inr ⟨fun h=>h (q:Int) (by simp) ht hs,rfl⟩
   ·rw[Ae8 hs]
    simp only[]
    have hm':MB N (met.set q true) (seen++[(q:Int)]):=by
     refine⟨by simp[hm.1],fun y hy => ?_⟩
     by_cases e2:y=q
     ·subst e2
      simp[AfB,hq]
     ·have h3:=hm.2 y hy
      have e3:¬ (y:Int)=(q:Int):=by omega
      rw[AfB,Af6 (Af0 e2),← AfB,h3]
      simp[e3]
    have hlen:(((seen.length:Nat):Int))=((seen.length:Nat):Int):=rfl
    have hw:IntKind.wrap .i64 ((seen.length:Int)+1)=((seen++[(q:Int)]).length:Int):=by
     rw[Aj (by omega)];simp
    rw[hw]
    have hiff:(∀ y∈(q:Int)::l.drop (k+1),y<(N:Int)→y∉seen)↔∀ y∈l.drop (k+1),y<(N:Int)→y∉seen++[(q:Int)]:=by
     constructor
     ·intro h y hy hyn hm2
      simp only[AfD,Afe]at hm2
      rcases hm2 with h2|rfl
      ·exact h y (AfZ _ hy) hyn h2
      ·exact hn.1 hy
     ·intro h y hy hyn hm2
      rcases AfG.1 hy with rfl|hy
      ·exact hs hm2
      ·exact h y hy hyn (by simp[hm2])
    rcases ih (k+1) cnt _ _ (by omega) hm' hn.2 (by simp;omega) (by omega)with⟨q1,met',q2,q3⟩|⟨q1,q2⟩
    ·refine .inl ⟨hiff.2 q1,met',?_,?_⟩
     ·rw[Ahy (by simpa using ht)]
      rw[q2,Afo]
      rfl
     ·rw[Ahy (by simpa using ht)]
      simpa using q3
    ·exact .inr ⟨fun h=>q1 (hiff.1 h),q2⟩
  ·rw[Ae8 ht]
   simp only[]
   have hiff:(∀ y∈t::l.drop (k+1),y<(N:Int)→y∉seen)↔∀ y∈l.drop (k+1),y<(N:Int)→y∉seen:=by
    constructor
    ·intro h y hy;exact h y (AfZ _ hy)
    ·intro h y hy hyn
     rcases AfG.1 hy with rfl|hy
     ·exact absurd hyn ht
     ·exact h y hy hyn
   rcases ih (k+1) cnt _ _ (by omega) hm hn.2 (by omega) (by omega)with⟨q1,met',q2,q3⟩|⟨q1,q2⟩
   ·refine .inl ⟨hiff.2 q1,met',?_,?_⟩
    ·rw[Ahz (by simpa using ht)]
     exact q2
    ·rw[Ahz (by simpa using ht)]
     exact q3
   ·exact .inr ⟨fun h=>q1 (hiff.1 h),q2⟩
theorem WG(N:Nat)(hN1:1≤N)(hN:N≤64)(rings:List (List Int))(hlen:rings.length≤64)(hr:∀ l∈rings,l.length<9223372036854775808∧∀ x∈l, -9223372036854775808≤x∧x≤9223372036854775807):
  ∀ (ls:List (List Int)) (i cnt:Nat) (met:List Bool) (last:Int) (seen:List Int),rings.drop i=ls→i≤rings.length→MB N met seen→seen.length≤i*1073741824→ls.length<cnt →
  (okR (N:Int) seen last ls∧∃ met' seen',AQ EB cnt ((N:Int),rings,met,last,(seen.length:Int),(i:Int),())=some (.inr (.inl ((N:Int),rings,(seen'.length:Int),())))∧MB N met' seen'∧seen'=seen++ls.flatten.filter (fun t=>decide (t<(N:Int)))) ∨
  (¬ okR (N:Int) seen last ls∧AQ EB cnt ((N:Int),rings,met,last,(seen.length:Int),(i:Int),())=some (.inl (false,()))):=by
 have hmany:4294967296<many:=by simp only[many];omega
 intro ls
 induction ls with
 |nil=>
  intro i cnt met last seen hd hi hm hsl hc
  obtain⟨cnt,rfl⟩:∃ c,cnt=c+1:=⟨cnt-1,by simp at hc;omega⟩
  have:rings.length≤i:=by simpa using hd
  refine .inl ⟨trivial,met,seen,?_,hm,by simp⟩
  rw[AQ,EB,AN,AJ,Ae8 (by omega)]
 |cons l ls ih=>
  intro i cnt met last seen hd hi hm hsl hc
  simp only[AfJ]at hc
  obtain⟨cnt,rfl⟩:∃ c,cnt=c+1:=⟨cnt-1,by omega⟩
  have hi':i<rings.length:=by
   refine Afx fun h => ?_
   rw[AgK (by omega)]at hd
   cases hd
  rw[Afw hi']at hd
  simp only[Afa]at hd
  obtain⟨hd1,hd2⟩:=hd
  have hx:rings[i]? = some l:=by rw[AfE hi',hd1]
  have hmem:l∈rings:=AfS hx
  obtain⟨hl,hlr⟩:=hr l hmem
  rw[AQ,EB,AN,AJ,Ae9 hi',okR]
  simp only[Ai hx,LU]
  by_cases c2:Rt l
  ·rw[Ae9 c2]
   have hl:l.length<1073741824:=by have:=c2.1;omega
   simp only[AfI]
   cases l with
   |nil=>
    rw[AN,Ao,Ae9 (by simp)]
    exact .inr ⟨fun h=>h.1.2.1 rfl,rfl⟩
   |cons x tl=>
    rw[AN,Ao,Ae8 (by simp only[AfJ];omega)]
    simp only[AOI (N:Int) (x::tl) hl hlr c2.2.2]
    by_cases c4:TI (N:Int) (x::tl)
    ·rw[Ae9 c4]
     simp only[AfI,UB]
     rw[AMH _ _ (by simp) (by
      intro y hy
      simp only[Afe]at hy
      subst hy
      obtain⟨a,b,q1,q2⟩:=Hg c2 (by simp)
      have:=Agg List.length q1
      rw[q2]
      simp only[AfJ,AfH]at this hl ⊢
      omega)]
     have hps:=Ye c2 (by simp)
     have hps2:([plain (x::tl)]=[x::tl])↔GX (x::tl)=x:=by simpa using hps
     by_cases c3:GX (x::tl)=x
     ·rw[Ae9 (hps2.2 c3)]
      have i0:idx (x::tl) (0:Int)=some x:=by rw[Ev];rfl
      simp only[AfI,i0,Ahq,Ap]
      by_cases c1:x≤last
      ·rw[Ae9 c1]
       exact .inr ⟨fun h=>by omega,rfl⟩
      ·rw[Ae8 c1]
       simp only[Ag]
       have hRG:RG (N:Int) (x::tl):=⟨c2,by simp,c3,c4⟩
       rcases ACE N hN (x::tl) hl (fun t ht=>(c2.2.1 t ht).1) rings x (i:Int) (x::tl) ((x::tl).length:Int) false (N:Int) (x::tl) true false (x::tl) (plain (x::tl)) [plain (x::tl)] (x::tl) [x::tl] true false (x::tl) x last false (x::tl).length 0 many met seen (by omega) hm (by rw[Ag8];exact c2.2.2) (by omega) (by omega)with⟨q1,met',q2,q3⟩|⟨q1,q2⟩
       ·rw[Ag8]at q1 q3 q2
        have q2':AQ EA many ((N:Int),rings,met,x,(seen.length:Int),(i:Int),x::tl,(0:Int),x::tl,((x::tl).length:Int),false,(N:Int),x::tl,true,false,x::tl,plain (x::tl),[plain (x::tl)],x::tl,[x::tl],true,false,x::tl,x,last,false,())=_:=q2
        simp only[q2',AH (show i+1<9223372036854775808 by omega)]
        have hfl:((x::tl).filter (fun t=>decide (t<(N:Int)))).length≤(x::tl).length:=Agw _ _
        rcases ih (i+1) cnt met' x (seen++(x::tl).filter (fun t=>decide (t<(N:Int)))) hd2 (by omega) q3 (by rw[AfH];omega) (by omega)with⟨p1,met2,seen2,p2,p3,p4⟩|⟨p1,p2⟩
        ·refine .inl ⟨⟨hRG,by omega,q1,p1⟩,met2,seen2,p2,p3,?_⟩
         rw[p4,Agp,Aga,Afo]
        ·exact .inr ⟨fun h=>p1 h.2.2.2,p2⟩
       ·rw[Ag8]at q1
        have q2':AQ EA many ((N:Int),rings,met,x,(seen.length:Int),(i:Int),x::tl,(0:Int),x::tl,((x::tl).length:Int),false,(N:Int),x::tl,true,false,x::tl,plain (x::tl),[plain (x::tl)],x::tl,[x::tl],true,false,x::tl,x,last,false,())=_:=q2
        simp only[q2']
        exact .inr ⟨fun h=>q1 h.2.2.1,by trivial⟩
     ·rw[Ae8 (fun h=>c3 (hps2.1 h))]
      exact .inr ⟨fun h=>c3 h.1.2.2.1,rfl⟩
    ·rw[Ae8 c4]
     exact .inr ⟨fun h=>c4 h.1.2.2.2,rfl⟩
  ·rw[Ae8 c2]
   exact .inr ⟨fun h=>c2 h.1.1,rfl⟩
theorem GL(n:Int)(rings:List (List Int))(hlen:rings.length<1073741824)(hr:∀ l∈rings,l.length<9223372036854775808∧∀ x∈l, -9223372036854775808≤x∧x≤9223372036854775807):
  Ww ((n,(rings,())),())=some (decide (RF n rings),()):=by
 have hmany:4294967296<many:=by simp only[many];omega
 rw[AOv,Rs]
 simp only[Al,AN]
 by_cases h1:n<1
 ·rw[Ae9 h1,Ae8 (show ¬ RF n rings from fun h=>by have:=h.1.1;omega)]
 ·rw[Ae8 h1]
  simp only[]
  by_cases h2:64<n
  ·rw[Ae9 h2,Ae8 (show ¬ RF n rings from fun h=>by have:=h.1.2;omega)]
  ·rw[Ae8 h2]
   simp only[]
   by_cases h3:n<(rings.length:Int)
   ·rw[Ae9 h3,Ae8 (show ¬ RF n rings from fun h=>by
     have:=ATN (by omega) h.2.1 (by omega) (by omega)
     omega)]
   ·rw[Ae8 h3]
    obtain⟨N,rfl⟩:=AfL (show 0≤n by omega)
    have f1:K6 (N:Int)=true:=(Jc _).2 (by omega)
    have f2:ile (N:Int) (N:Int)=true:=by rw[Ap];simp
    simp only[f1,f2,AhG,Ah6,Ag]
    have hMB:MB N (Je (AE (N:Int)) false) []:=by
     refine⟨by simp[Je,IA],fun k hk => ?_⟩
     simp[Je,IA,hk]
    rcases WG N (by omega) (by omega) rings (by omega) hr rings 0 many _ (-1) [] (by simp) (by omega) hMB (by simp) (by omega)with⟨p1,met,seen,p2,p3,p4⟩|⟨p1,p2⟩
    ·have p2':AQ EB many ((N:Int),rings,Je (AE (N:Int)) false, -1,(0:Int),(0:Int),())=_:=p2
     simp only[p2',Ao]
     obtain⟨q1,q2⟩:=AVg p1 (by simp)
     rw[← p4]at q1
     have hsub:∀ x∈seen,x∈(List.range N).map (fun(k:Nat)=>(k:Int)):=by
      intro x hx
      rw[p4]at hx
      simp only[Afi,Afv,AiA,AfC]at hx
      obtain⟨⟨l,hl,hxl⟩,hxn⟩:=hx
      have:=((q2 l hl).1.2.1 x hxl).1
      rw[AfW]
      exact⟨x.toNat,by rw[AgI];omega,by omega⟩
     have hv:∀ v,v∈seen↔(v<(N:Int)∧v∈rings.flatten):=fun v=>by rw[p4,Afi,Afv,AfC,and_comm]
     have hS:Sz (N:Int):=⟨by omega,by omega⟩
     by_cases hc:(seen.length:Int)=(N:Int)
     ·rw[Ae9 hc,Ae9]
      refine⟨hS,p1,fun v v1 v2 => ?_⟩
      have:=P2 q1 hsub (by simp;omega) v (by rw[AfW];exact⟨v.toNat,by rw[AgI];omega,by omega⟩)
      exact((hv v).1 this).2
     ·rw[Ae8 hc,Ae8]
      rintro⟨_,_,h⟩
      have a1:=C3 q1 hsub
      have hrn:((List.range N).map (fun(k:Nat)=>(k:Int))).Nodup:=by
       rw[List.Nodup,Age]
       exact List.nodup_range.imp fun h e=>h (by omega)
      have a2:=C3 (a:=(List.range N).map (fun(k:Nat)=>(k:Int))) (b:=seen) hrn fun x hx=>by
       rw[AfW]at hx
       obtain⟨k,hk,rfl⟩:=hx
       rw[AgI]at hk
       exact(hv _).2 ⟨by omega,h (k:Int) (by omega) (by omega)⟩
      simp only[Af8,Afp]at a1 a2
      omega
    ·have p2':AQ EB many ((N:Int),rings,Je (AE (N:Int)) false, -1,(0:Int),(0:Int),())=_:=p2
     simp only[p2']
     rw[Ae8 (fun h=>p1 h.2.1)]
end Go.Pev.Pl
end
section
namespace Go.Pev.Pl
open Tok
theorem UC(n:Int)(rings:List (List Int))(v:Int)(hlen:rings.length<1073741824)(hr:∀ l∈rings,l.length<9223372036854775808):Mq ((n,(rings,())),v,())=some (plc rings v,()):=by
 rw[APX,R6]
 have e:=Iq (step:=Hi) (fun i=>(v,n,rings,(i:Int),())) rings (fun l=>decide (v∈l)) (fun i=>.inl ((i:Int),())) (.inr (.inl ())) (by omega)
  (fun i l hi hx=>by
   have hl:=hr l (AfS hx)
   rw[Hi,AN,AJ,Ae9 hi]
   simp only[Ai hx,LX l v (by omega)]
   rw[AH (by omega),Ap]
   by_cases h:v∈l
   ·obtain⟨k,e,_⟩:=AF5 h
    rw[e,Ae9 (by omega),Ae9 h];rfl
   ·rw[Ph h,Ae8 (by omega),Ae8 h];rfl)
  (by rw[Hi,AN,AJ,Ae8 (by omega)])
 have e':AS Hi many (v,n,rings,(0:Int),())=_:=e
 simp only[e',plc]
 cases rings.any (fun l=>decide (v∈l))<;>rfl
end Go.Pev.Pl
end
section
namespace Go.Pev.Pl
open Tok
theorem AU3(rest:List (List Int))(r:List Int)(hlen:rest.length<1073741824)(hne:∀ l∈rest,l≠[])(hp:plain r≠[]):AS5 (rest,r,())=some (YV rest (plain r),()):=by
 rw[AYo,AF1]
 simp only[UB]
 generalize plain r=p at *
 have e:=Iq (step:=LV) (fun i=>(rest,p,(i:Int),())) rest (fun x => !decide (hd x<hd p)) (fun i=>.inl (rest,p,(i:Int),())) (.inl (rest,p,(rest.length:Int),())) (by omega)
  (fun i x hi hx=>by
   rw[LV,AN,AJ,Ae9 hi]
   simp only[Ai hx,ATk (hne x (AfS hx)),ATk hp,AbA,Al]
   rw[AH (by omega)]
   by_cases h:hd x<hd p
   ·rw[Ae9 h];rfl
   ·rw[Ae8 h];rfl)
  (by rw[LV,AN,AJ,Ae8 (by omega)])
 have e':AS LV many (rest,p,(0:Int),())=_:=e
 have hk:(if rest.any (fun x => !decide (hd x<hd p))then(.inl (rest,p,((rest.findIdx fun x => !decide (hd x<hd p):Nat):Int),()):(List (List Int)×List Int×Int×Unit)⊕Unit)else .inl (rest,p,(rest.length:Int),())) = .inl (rest,p,((rest.findIdx fun x => !decide (hd x<hd p):Nat):Int),()):=by
  split
  ·rfl
  ·rename_i h
   rw[List.findIdx_eq_length.2 fun x hx=>by
    refine Afx fun hc=>h (Agk.2 ⟨x,hx,by simpa using hc⟩)]
 rw[e',hk]
 have hle:(rest.findIdx fun x => !decide (hd x<hd p))≤rest.length:=List.findIdx_le_length
 rw[YV]
 generalize (rest.findIdx fun x => !decide (hd x<hd p))=k at *
 simp only[Jw hle,Du hle]
 rw[BI (by simp only[AN,AfV,AfT];omega)]
 simp only[]
 rw[BI (by simp only[AN,Cd,AfH,AfJ,AfV,AfT];omega)]
 simp only[]
 rw[BI (by simp only[AN,Cd,AfH,AfJ,AfV,AfT,Afj];omega)]
 simp only[Cd,Afi,Afo,AgM]
theorem Nk(l:List (List Int))(i:Nat)(hi:i<l.length)(hlen:l.length<1073741824):HE (l,(i:Int),())=some (l.eraseIdx i,()):=by
 rw[AEy,LG]
 rw[AH (by omega)]
 simp only[Jw (AhE hi),Du (show i+1≤l.length by omega)]
 rw[BI (by simp only[AN,AfV,AfT];omega)]
 simp only[]
 rw[BI (by simp only[AN,Cd,AfH,AfV,AfT,Afj];omega)]
 simp only[Cd,Afi,List.eraseIdx_eq_take_drop_succ]
end Go.Pev.Pl
end
section
namespace Go.Pev.Pl
open Tok
theorem Abp(n:Int)(rings:List (List Int))(v:Int)(hD:Dom rings):tof ((n,(rings,())),v,())=some (if RF n rings∧In n v then plc rings v else -1,()):=by
 rw[AX5,ASo]
 simp only[Wq,N7 n rings hD.1 hD.2,HU n rings v hD.1 (fun l hl=>(hD.2 l hl).1)]
 by_cases h1:In n v
 ·by_cases h2:RF n rings<;>simp[h1,h2]
 ·simp[h1]
end Go.Pev.Pl
end
section
namespace Go.Pev.Pl
open Go.RowKit Tok
end Go.Pev.Pl
end
section
namespace Go.Pev.Pl
open Tok
end Go.Pev.Pl
end
section
namespace Go.Pev.Pl
open Tok
theorem AMI{n:Int}{rings:List (List Int)}{u v:Int}(h:FR n rings)(iu:In n u)(iv:In n v)(hp:plc rings u=plc rings v):
  LM ((n,(rings,())),u,v,())=some (n,rings,5,())∧Sv ((n,(rings,())),u,v,())=some (n,rings,5,()):=by
 have hD:=h.dom
 have hRF:=Kd.2 h
 constructor
 ·rw[HY,Gx]
  simp only[HM n rings u v hD,hRF,iu,iv,Ahs,Afb,Ao,HU n rings _ hD.1 (fun l hl=>(hD.2 l hl).1),hp,AfK,AfI]
 ·rw[NC,JT]
  simp only[GL n rings hD.1 hD.2,hRF,JW,iu,iv,AfK,AfI,UC n rings _ hD.1 (fun l hl=>(hD.2 l hl).1),Ao,hp]
theorem AaH{n:Int}{rings:List (List Int)}{u v:Int}{i j:Nat}{A B:List Int}(h:FR n rings)(iu:In n u)(iv:In n v)(hi:rings[i]? = some A)(hj:rings[j]? = some B)(hu:u∈A)(hv:v∈B)(hij:i≠j):
  ∃ zs rest,LM ((n,(rings,())),u,v,())=some (n,zs,0,())∧Sv ((n,(rings,())),u,v,())=some (n,zs,0,())∧FR n zs∧rings.Perm (A::B::rest)∧zs.Perm (plain (A8 n A B u v)::rest)∧Dis n A B:=by
 have hD:=h.dom
 have hRF:=Kd.2 h
 have rA:=h.rg A (AfS hi)
 have rB:=h.rg B (AfS hj)
 have hil:=(Afm.1 hi).1
 have hjl:=(Afm.1 hj).1
 have pu:plc rings u=(i:Int):=h.Yd hi iu.2.2.2 hu
 have pv:plc rings v=(j:Int):=h.Yd hj iv.2.2.2 hv
 have hperm:rings.Perm (A::B::(rings.eraseIdx (max i j)).eraseIdx (min i j)):=by
  rcases Ahu hij with g|g
  ·rw[AhQ (by omega),AgB (by omega)]
   exact Ir g hi hj
  ·rw[AhX (by omega),Ahk (by omega)]
   exact(Ir g hj hi).trans (List.Perm.swap _ _ _)
 have hdis:Dis n A B:=by
  have:=Jf hperm h.dis
  rw[Afy]at this
  exact this.1 B (by simp)
 obtain⟨l1,l2,l3,huv,ho⟩:=NB rA.2.2.2 rB.2.2.2 hu hv iu iv hdis
 obtain⟨hRG,hrot⟩:=ABX l1
 have hall:A8 n A B u v=u::Dt n u v::(A6 B v++Dt n v u::(A6 A u).tail):=rfl
 have lA:(A6 A u).length≤1000:=by rw[← (CT hu).perm.length_eq];exact rA.1.1
 have lB:(A6 B v).length≤1000:=by rw[← (CT hv).perm.length_eq];exact rB.1.1
 have hsub:((rings.eraseIdx (max i j)).eraseIdx (min i j)).Sublist rings:=(Ahg _ _).trans (Ahg _ _)
 have hw1:HE (rings,((max i j:Nat):Int),())=some (rings.eraseIdx (max i j),()):=Nk _ _ (by omega) hD.1
 have hel:(rings.eraseIdx (max i j)).length=rings.length-1:=by rw[List.length_eraseIdx];rw[AfQ (by omega)]
 have hw2:HE (rings.eraseIdx (max i j),((min i j:Nat):Int),())=some ((rings.eraseIdx (max i j)).eraseIdx (min i j),()):=Nk _ _ (by omega) (by have:=hD.1;omega)
 have hdrop:Cc (fun k=>decide ((k:Int)∈[(i:Int),(j:Int)])) 0 rings=(rings.eraseIdx (max i j)).eraseIdx (min i j):=by
  rcases Ahu hij with g|g
  ·rw[AhQ (by omega),AgB (by omega)]
   exact KU _ i j g rings 0 (by omega) fun k _=>Agl.2 (by simp only[AfG,Ag7,Ahj];omega)
  ·rw[AhX (by omega),Ahk (by omega)]
   exact KU _ j i g rings 0 (by omega) fun k _=>Agl.2 (by simp only[AfG,Ag7,Ahj];omega)
 have hrl:((rings.eraseIdx (max i j)).eraseIdx (min i j)).length≤rings.length:=hsub.length_le
 generalize (rings.eraseIdx (max i j)).eraseIdx (min i j)=rest at *
 have hupr:rest.Pairwise (fun a b=>hd a<hd b):=h.up.sublist hsub
 have hner:∀ l∈rest,l≠[]:=fun l hl=>(h.rg l (hsub.subset hl)).2.1
 have hdd:=Jf hperm h.dis
 rw[Afy,Afy]at hdd
 have hheads:∀ x∈rest,hd x≠hd (plain (A8 n A B u v)):=by
  intro x hx e
  have g1:=NU hRG
  have g2:=(l3 _ g1.2.2.2).1 (hrot.perm.mem_iff.2 (S6 hRG.2.1))
  have g3:hd (plain (A8 n A B u v))∈x:=e▸S6 (hner x hx)
  rcases g2 with g|g
  ·exact hdd.1 x (by simp[hx]) _ g g1.2.2.2 g3
  ·exact hdd.2.1 x hx _ g g1.2.2.2 g3
 have hup:=AS4 hupr hheads
 have hpz:=ADl rest (plain (A8 n A B u v))
 refine⟨YV rest (plain (A8 n A B u v)),rest,?_,?_,AT9 h hperm hRG (fun t ht=>by rw[← hrot.perm.mem_iff];exact l3 t ht) hpz hup,hperm,hpz,hdis⟩
 ·obtain⟨ys,y1,y2,y3⟩:=ADB n rings [(i:Int),(j:Int)] [A8 n A B u v] hD.1 (by simp) (by simp) (fun l hl=>(h.rg l hl).2.1) (by simp;exact hRG.2.1)
  have hys:ys=YV rest (plain (A8 n A B u v)):=by
   refine T7 hup (y2.trans ?_) y3
   rw[hdrop]
   exact(Agv (l₁:=rest) (l₂:=[plain (A8 n A B u v)])).trans hpz.symm
  rw[hys]at y1
  rw[HY,Gx]
  have s1:Bz (A6 A u) (0:Int) (1:Int)=some [u]:=by
   have:=Rk (xs:=A6 A u) (l:=0) (h:=1) (by omega) (by rw[l2];simp)
   rw[l2]at this ⊢
   exact this
  have s2:Bz (A6 A u) (1:Int) (AO (A6 A u))=some (A6 A u).tail:=by
   have:=Du (xs:=A6 A u) (l:=1) (by rw[l2];simp)
   rw[Ag4]at this
   exact this
  have d1:DR 0 (AE (AO [u])) (A6 A u)=[u]:=by rw[l2];rfl
  have d2:DR 1 (AE (AO (A6 A u).tail)) (A6 A u)=(A6 A u).tail:=by
   rw[DR,AN,IA,Ag4,AgH]
  have hcat:It ([[u],[Dt n u v],A6 B v,[Dt n v u],(A6 A u).tail],())=some (A8 n A B u v,()):=by
   rw[ML _ (by simp) (by simp;omega)]
   simp[A8]
  have ne:((i:Int))≠(j:Int):=by omega
  simp only[HM n rings u v hD,hRF,iu,iv,Ahs,Afb,Ao,HU n rings _ hD.1 (fun l hl=>(hD.2 l hl).1),pu,pv,ne,AfK,AfR,AfI,Ai hi,Ai hj,ADg,Io,rA.1,rB.1,hu,hv,s1,s2,AJn,d1,d2,hcat,y1]
 ·rw[NC,JT]
  have s2:Bz (A6 A u) (1:Int) (AO (A6 A u))=some (A6 A u).tail:=by
   have:=Du (xs:=A6 A u) (l:=1) (by rw[l2];simp)
   rw[Ag4]at this
   exact this
  have d2:DR 1 (AE (AO (A6 A u).tail)) (A6 A u)=(A6 A u).tail:=by
   rw[DR,AN,IA,Ag4,AgH]
  have ne:((i:Int))≠(j:Int):=by omega
  have f1:fits (AO [u,Dt n u v]+AO (A6 B v))=true:=BI (by simp only[AN,AfJ,AfV];omega)
  have f2:fits (AO (A4 [u,Dt n u v] (A6 B v))+AO [Dt n v u])=true:=BI (by simp only[AN,Cd,AfH,AfJ,AfV];omega)
  have f3:fits (AO (A4 (A4 [u,Dt n u v] (A6 B v)) [Dt n v u])+AO (A6 A u).tail)=true:=BI (by simp only[AN,Cd,AfH,AfJ,AfV,List.length_tail];omega)
  have hcat:A4 (A4 (A4 [u,Dt n u v] (A6 B v)) [Dt n v u]) (A6 A u).tail=A8 n A B u v:=by simp[Cd,A8]
  have hput:AS5 (rest,A8 n A B u v,())=some (YV rest (plain (A8 n A B u v)),()):=AU3 rest _ (by have:=hD.1;omega) hner hRG.2.1
  simp only[GL n rings hD.1 hD.2,hRF,JW,iu,iv,AfK,AfI,UC n rings _ hD.1 (fun l hl=>(hD.2 l hl).1),pu,pv,Ao,ne,AfR,Ai hi,Ai hj,On A u (by have:=rA.1.1;omega),On B v (by have:=rB.1.1;omega),Io,rA.1,rB.1,hu,hv,Ahs,Afb,AEh,f1,f2,s2,d2,f3,AaX,AaW,hw1,hw2,hcat,hput]
theorem ACj{n:Int}{rings:List (List Int)}{u v:Int}(hD:Dom rings)(h:¬ (RF n rings∧In n u∧In n v)):
  ∃ e,e≠0∧(∃ b,e=b∧(b=1∨b=10))∧LM ((n,(rings,())),u,v,())=some (n,rings,e,())∧Sv ((n,(rings,())),u,v,())=some (n,rings,e,()):=by
 by_cases h1:RF n rings
 ·have h2:¬ (In n u∧In n v):=fun h2=>h ⟨h1,h2⟩
  refine⟨10,by omega,⟨10,rfl,.inr rfl⟩,?_,?_⟩
  ·rw[HY,Gx]
   simp only[HM n rings u v hD,h1,h2,Afb,AfP,Ao]
   rfl
  ·rw[NC,JT]
   simp only[GL n rings hD.1 hD.2,h1,JW,AfK,AfI]
   by_cases hu:In n u
   ·have hv:¬ In n v:=fun hv=>h2 ⟨hu,hv⟩
    simp[hu,hv]
   ·simp[hu]
 ·refine⟨1,by omega,⟨1,rfl,.inl rfl⟩,?_,?_⟩
  ·rw[HY,Gx]
   simp only[HM n rings u v hD,h1,AfP,Ao]
   rfl
  ·rw[NC,JT]
   simp only[GL n rings hD.1 hD.2,h1,AfR,Afc]
theorem ASO{n:Int}{rings:List (List Int)}(u v:Int)(hD:Dom rings):∃ zs e,LM ((n,(rings,())),u,v,())=some (n,zs,e,())∧Sv ((n,(rings,())),u,v,())=some (n,zs,e,())∧Dom zs:=by
 by_cases h:RF n rings∧In n u∧In n v
 ·obtain⟨h1,iu,iv⟩:=h
  have hF:=Kd.1 h1
  obtain⟨i,A,pu,hi,hu,_⟩:=LW (hF.cov u iu)
  obtain⟨j,B,pv,hj,hv,_⟩:=LW (hF.cov v iv)
  by_cases hij:i=j
  ·obtain⟨q1,q2⟩:=AMI hF iu iv (by rw[pu,pv,hij])
   exact⟨_,_,q1,q2,hD⟩
  ·obtain⟨zs,rest,q1,q2,q3,_⟩:=AaH hF iu iv hi hj hu hv hij
   exact⟨_,_,q1,q2,q3.dom⟩
 ·obtain⟨e,_,_,q1,q2⟩:=ACj hD h
  exact⟨_,_,q1,q2,hD⟩
end Go.Pev.Pl
end
section
namespace Go.Pev.Pl
open Tok
def sel(l:List Edge)(bs:List Bool):List Edge:=((l.zip bs).filter fun p=>p.2).map fun p=>p.1
end Go.Pev.Pl
end
section
namespace Go.Pev.Pl
open Tok
instance (n v:Int):Decidable (In n v):=inferInstanceAs (Decidable (_∧_))
instance (n:Int):Decidable (Sz n):=inferInstanceAs (Decidable (_∧_))
end Go.Pev.Pl
end
section
namespace Go.Pev.Pl
instance (xs:List Int):Decidable (Rt xs):=inferInstanceAs (Decidable (_∧_∧_))
end Go.Pev.Pl
end
section
namespace Go.Pev.Pl
open Tok
noncomputable instance (n:Int) (xs:List Int):Decidable (TI n xs):=Classical.propDecidable _
end Go.Pev.Pl
end
section
namespace Go.Pev.Pl
open Tok
noncomputable instance (n:Int) (rings:List (List Int)):Decidable (RF n rings):=Classical.propDecidable _
noncomputable instance (n:Int) (xs:List Int):Decidable (RG n xs):=Classical.propDecidable _
end Go.Pev.Pl
end
section
namespace Go.Pev.Pl
open Tok
theorem AJm(n:Int)(rings:List (List Int))(l:List (Int×Int×Unit))(hD:Dom rings)(hs:l.length<9223372036854775808):AFR ((n,(rings,())),l,())=some (AIo n rings (l.all fun e=>decide (In n e.1)&&decide (In n e.2.1)),()):=by
 rw[AOQ,Rj]
 simp only[GL n rings hD.1 hD.2,AIo]
 by_cases h:RF n rings
 ·simp only[h,AfK,AfI,Afb]
  have e:=Iq (step:=HZ) (fun i=>(l,n,rings,(i:Int),())) l (fun e => !(decide (In n e.1)&&decide (In n e.2.1))) (fun _=>.inl ((10:Int),())) (.inr (.inl ())) hs
   (fun i x hi hx=>by
    rw[HZ,AN,AJ,Ae9 hi]
    simp only[Ai hx,Al,Ap]
    rw[AH (by omega)]
    have q1:=ASY (v:=x.1) h.1
    have q2:=ASY (v:=x.2.1) h.1
    by_cases c1:x.1<0
    ·rw[Ae9 c1,Bool.true_or]at q1
     have:decide (In n x.1)=false:=by simpa using q1.symm
     simp[c1,this]
    ·by_cases c2:n≤x.1
     ·rw[Ae9 c2,Bool.or_true]at q1
      have:decide (In n x.1)=false:=by simpa using q1.symm
      simp[c1,c2,this]
     ·rw[Ae8 c1,Ae8 c2]at q1
      have g1:decide (In n x.1)=true:=by simpa using q1.symm
      by_cases c3:x.2.1<0
      ·rw[Ae9 c3,Bool.true_or]at q2
       have:decide (In n x.2.1)=false:=by simpa using q2.symm
       simp[c1,c2,c3,this]
      ·by_cases c4:n≤x.2.1
       ·rw[Ae9 c4,Bool.or_true]at q2
        have:decide (In n x.2.1)=false:=by simpa using q2.symm
        simp[c1,c2,c3,c4,this]
       ·rw[Ae8 c3,Ae8 c4]at q2
        have g2:decide (In n x.2.1)=true:=by simpa using q2.symm
        simp[c1,c2,c3,c4,g1,g2])
   (by rw[HZ,AN,AJ,Ae8 (by omega)])
  have e':AS HZ many (l,n,rings,(0:Int),())=_:=e
  rw[e',List.any_eq_not_all_not]
  simp only[Bool.not_not]
  cases l.all fun e=>decide (In n e.1)&&decide (In n e.2.1)<;>rfl
 ·simp[h]
end Go.Pev.Pl
end
section
namespace Go.Pev.Pl
open Tok
end Go.Pev.Pl
end
section
namespace Go.Pev.Pl
open Tok
end Go.Pev.Pl
end
section
namespace Go.Pev.Pl
open Tok
end Go.Pev.Pl
end
section
namespace Go.Pev.Pl
open Tok
theorem AKL{N:Nat}(h1:1≤N)(hN:N≤64){ts:List Tie}(hs:ts.length≤400)(ho:oks N ts){out:List Int}(hc:T1 (N:Int) (trs ts ts.length) out):
  Cn (((N:Int),(ts,())),())=some (decide ((cnt out N:Int)=(N:Int)-(trs ts ts.length).length),()):=by
 have R:=PY N hN ts hs
 rw[AfQ ho]at R
 have hin:=AOD hN ho
 have hlen:=AE6 ts ts.length
 obtain⟨o2,e2,c2⟩:=Dy (N:Int) (trs ts ts.length) ⟨by omega,by omega⟩ (by omega) hin
 have:=T1.unique h1 hN hc c2
 subst this
 have hol:out.length=N:=by have:=hc.len;omega
 rw[FL,EU]
 simp only[Al,AN]
 rw[Ae8 (show ¬ (N:Int)<1 by omega),Ae8 (show ¬ 64<(N:Int) by omega),Ae8 (show ¬ 400<(ts.length:Int) by omega)]
 simp only[R,e2,Nm N hN _ _ out hol,Ao]
 rw[Aj (by omega)]
end Go.Pev.Pl
end
section
namespace Go.Pev.Pl
open Tok
theorem Con.perm{l l':List Edge}(h:∀ e,e∈l↔e∈l'){a b:Int}:Con l a b↔Con l' a b:=
 ⟨fun c=>c.mono fun e he=>⟨e,(h e).1 he,.inl ⟨rfl,rfl⟩⟩,fun c=>c.mono fun e he=>⟨e,(h e).2 he,.inl ⟨rfl,rfl⟩⟩⟩
theorem T1.congr{n:Int}{l l':List Edge}{out:List Int}(h:∀ a b,Con l a b↔Con l' a b)(hc:T1 n l out):T1 n l' out:=
 ⟨hc.len,fun a b ia ib=>(hc.same a b ia ib).trans (h a b),hc.isin,fun a ia=>(h a _).1 (hc.con a ia),fun a b ia ib c=>hc.least a b ia ib ((h a b).2 c)⟩
end Go.Pev.Pl
end
section
namespace Go.Pev.Pl
open Tok
def ADQ(x:Edge)(b:Bool):Tie:=(x.1,x.2.1,0,b,())
def Wj(ts:List Tie)(xs:List Edge)(bs:List Bool)(k:Nat):List Tie:=(List.range k).foldl (fun a i=>YU a (ADQ (xs.getD i (0,0,())) (bs.getD i false))) ts
end Go.Pev.Pl
end
section
namespace Go.Pev.Pl
open Tok
def AQN(xs:List Edge)(bs:List Bool)(k:Nat):List Tie:=(List.range k).map fun i=>ADQ (xs.getD i (0,0,())) (bs.getD i false)
theorem AEj(ts:List Tie)(xs:List Edge)(bs:List Bool)(k:Nat):Wj ts xs bs (k+1)=YU (Wj ts xs bs k) (ADQ (xs.getD k (0,0,())) (bs.getD k false)):=by
 unfold Wj
 rw[AgO,List.foldl_append]
 rfl
theorem Tf(ts:List Tie)(xs:List Edge)(bs:List Bool):∀ k,(Wj ts xs bs k).Perm (ts++AQN xs bs k):=by
 intro k
 induction k with
 |zero=>simp[Wj,AQN]
 |succ k ih=>
  rw[AEj]
  refine(ADk _ _).trans ?_
  unfold AQN at *
  rw[AgO,Agh,← Afo]
  refine(List.Perm.cons _ ih).trans ?_
  exact(List.perm_append_singleton _ _).symm
end Go.Pev.Pl
end
section
namespace Go.Pev.Pl
open Tok
theorem AbX{N:Nat}{ts:List Tie}(h:oks N ts)(hv0:0≤HW N){xs:List Edge}(bs:List Bool)(hp:xs.Pairwise IL)(hx:∀ e∈xs,0≤e.1∧e.1<e.2.1∧e.2.1<(N:Int))(hn:∀ e∈xs,¬ e∈ts.map ed):oks N (Wj ts xs bs xs.length):=by
 rw[W4]at h ⊢
 obtain⟨h1,h2⟩:=h
 have hget:∀ i (hi:i<xs.length),xs.getD i (0,0,())=xs[i]:=fun i hi=>by
  simp only[AfB,AfE hi,Afg]
 have hmem:∀ k,k≤xs.length→∀ t∈Wj ts xs bs k,t∈ts∨∃ i,i<k∧t=ADQ (xs.getD i (0,0,())) (bs.getD i false):=by
  intro k hk t ht
  rcases AfD.1 ((Tf ts xs bs k).mem_iff.1 ht)with h|h
  ·exact .inl h
  ·unfold AQN at h
   obtain⟨i,hi,rfl⟩:=AfW.1 h
   exact .inr ⟨i,by simpa using hi,rfl⟩
 refine⟨fun t ht => ?_,?_⟩
 ·rcases hmem _ (AfN _) t ht with h|⟨i,hi,rfl⟩
  ·exact h1 t h
  ·rw[hget i hi]
   obtain⟨q1,q2,q3⟩:=hx xs[i] (AgP hi)
   exact⟨q1,q2,q3,by show(0:Int)≤0;omega,hv0⟩
 ·have key:∀ k,k≤xs.length→(Wj ts xs bs k).Pairwise ahead:=by
   intro k
   induction k with
   |zero=>intro _;exact h2
   |succ k ih=>
    intro hk
    rw[AEj]
    refine AU2 (ih (by omega)) fun t ht => ?_
    rw[hget k (by omega)]
    rintro⟨e1,e2⟩
    rcases hmem k (by omega) t ht with h|⟨i,hi,rfl⟩
    ·refine hn xs[k] (AgP (by omega)) (AfW.2 ⟨t,h,?_⟩)
     unfold ed
     rw[e1,e2]
     rfl
    ·rw[hget i (by omega)]at e1 e2
     have:=(AgG.1 hp) i k (by omega) (by omega) hi
     unfold IL at this
     simp only[ADQ]at e1 e2
     omega
  exact key _ (AfN _)
end Go.Pev.Pl
end
section
namespace Go.Pev.Pl
open Tok
theorem AXs(ts:List Tie):∀ k,k≤ts.length→trs ts k=((ts.take k).filter fun t=>t.2.2.2.1).map ed:=by
 intro k
 induction k with
 |zero=>intro _;simp[trs]
 |succ k ih=>
  intro hk
  have hk':k<ts.length:=by omega
  rw[Xe,ih (by omega),Af4 hk',Aga,Agh]
  simp only[AfB,AfE hk',Afg]
  cases h:ts[k].2.2.2.1
  ·simp[h]
  ·simp[h]
theorem ASk(ts:List Tie):trs ts ts.length=(ts.filter fun t=>t.2.2.2.1).map ed:=by
 rw[AXs ts _ (AfN _),AgH]
end Go.Pev.Pl
end
section
namespace Go.Pev.Pl
open Tok
theorem AZ5{xs:List Edge}{bs:List Bool}(h:bs.length=xs.length):AQN xs bs xs.length=(xs.zip bs).map fun p=>ADQ p.1 p.2:=by
 unfold AQN
 apply Ah8
 ·simp[h]
 ·intro i h1 h2
  have hi:i<xs.length:=by simpa using h1
  simp[hi,show i<bs.length by omega]
theorem AbW(ts:List Tie){xs:List Edge}{bs:List Bool}(h:bs.length=xs.length):(trs (Wj ts xs bs xs.length) (Wj ts xs bs xs.length).length).Perm (trs ts ts.length++sel xs bs):=by
 rw[ASk,ASk]
 refine(((Tf ts xs bs xs.length).filter _).map ed).trans ?_
 rw[Aga,Agh,AZ5 h,List.filter_map,List.map_map]
 exact List.Perm.refl _
theorem AbY(ts:List Tie)(xs:List Edge)(bs:List Bool):∀ k,(Wj ts xs bs k).length=ts.length+k:=by
 intro k
 rw[(Tf ts xs bs k).length_eq]
 simp[AQN]
end Go.Pev.Pl
end
end
section
section
namespace Go.Pev.Pl
open Tok
def Ado(N:Nat)(l:List Edge):Prop:=∀ e∈l,In (N:Int) e.1∧In (N:Int) e.2.1
theorem AbK{N:Nat}(hN:N≤64)(ts:List Tie)(l:List Edge):∀ e∈Jj N ts l,In (N:Int) e.1∧In (N:Int) e.2.1:=by
 intro e he
 obtain⟨⟨a,b,c,_⟩,_⟩:=(Sb N ts l e).1 he
 exact⟨⟨by omega,by omega,a,by omega⟩,⟨by omega,by omega,by omega,c⟩⟩
end Go.Pev.Pl
end
section
namespace Go.Pev.Pl
open Tok
theorem AaU{N:Nat}(h1:1≤N)(hN:N≤64){a:Int}(h:0≤a∧a<(N:Int)):In (N:Int) a:=⟨by omega,by omega,h.1,h.2⟩
theorem AeU{N:Nat}{e:Edge}(h:In (N:Int) e.1∧In (N:Int) e.2.1):InE N e:=⟨⟨h.1.2.2.1,h.1.2.2.2⟩,⟨h.2.2.2.1,h.2.2.2.2⟩⟩
theorem Aed{N:Nat}(h1:1≤N)(hN:N≤64){l:List Edge}{out:List Int}(hc:T1 (N:Int) l out):cnt out N=cc N l:=by
 unfold cnt cc
 rw[List.countP_eq_length_filter]
 congr 1
 refine Ah0 fun k hk => ?_
 have hk:k<N:=by simpa using hk
 have ik:=AaU h1 hN (a:=(k:Int)) ⟨by omega,by omega⟩
 have hg:out.getD k 0=cl out (k:Int):=by unfold cl;rw[Af2]
 rw[hg,AgZ,Af3,Hp]
 constructor
 ·intro h j hj hcn
  have:=hc.least (k:Int) (j:Int) ik (AaU h1 hN ⟨by omega,by omega⟩) hcn.symm
  omega
 ·intro h
  have a1:=hc.isin _ ik
  have a2:=hc.con _ ik
  have a3:=hc.least (k:Int) (k:Int) ik ik (.refl _)
  obtain⟨m,hm⟩:=AfL a1.2.2.1
  rw[hm]at a2 a3 ⊢
  by_cases hlt:m<k
  ·exact absurd a2.symm (h m hlt)
  ·omega
theorem FC.congr{n:Int}{rings:List (List Int)}{l l':List Edge}(h:FC n rings l)(hm:∀ e∈l,e∈l')(hc:∀ e∈l',Con l e.1 e.2.1):FC n rings l':=
 ⟨h.fr,fun a b ia ib=>(h.sam a b ia ib).trans ⟨fun c=>c.sub hm,fun c=>c.cut hc⟩,fun A hA u v ho hu=>by
  obtain⟨e,he,q⟩:=h.arcs A hA u v ho hu
  exact⟨e,hm e he,q⟩⟩
theorem AKK{N:Nat}(h1:1≤N)(hN:N≤64){ts:List Tie}(hs:ts.length≤400)(ho:oks N ts):Cn (((N:Int),(ts,())),())=some (true,())↔Fo N (trs ts ts.length):=by
 have hlen:=AE6 ts ts.length
 obtain⟨o,_,c⟩:=Dy (N:Int) (trs ts ts.length) ⟨by omega,by omega⟩ (by omega) (AOD hN ho)
 rw[AKL h1 hN hs ho c,Aed h1 hN c]
 unfold Fo
 constructor
 ·intro h
  have:decide ((cc N (trs ts ts.length):Int)=(N:Int)-(trs ts ts.length).length)=true:=by injection h with h;injection h
  have:=Ag2 this
  omega
 ·intro h
  rw[Ae9 (by omega)]
end Go.Pev.Pl
end
section
namespace Go.Pev.Pl
open Tok
end Go.Pev.Pl
end
section
namespace Go.Pev.Pl.SE
open Go.Sort
def ok(_:Int×Int×Unit):Prop:=True
def okz:Int×Int×Unit:=(0,0,())
theorem Zf:ok okz:=trivial
def lt(x y:Int×Int×Unit):Bool:=decide (x.1<y.1∨(x.1=y.1∧x.2.1<y.2.1))
theorem swo:SWO lt:=⟨fun x=>by simp[lt],fun x y z h1 h2=>by simp only[lt,AfC]at *;omega,fun x y z h1 h2=>by simp only[lt,Aft]at *;omega⟩
end Go.Pev.Pl.SE
end
section
namespace Go.Pev.Pl.ST
open Go.Sort
def ok(_:Int×Int×Int×Bool×Unit):Prop:=True
def okz:Int×Int×Int×Bool×Unit:=(0,0,0,false,())
theorem Zf:ok okz:=trivial
def lt(x y:Int×Int×Int×Bool×Unit):Bool:=decide (x.1<y.1∨(x.1=y.1∧x.2.1<y.2.1))
theorem swo:SWO lt:=⟨fun x=>by simp[lt],fun x y z h1 h2=>by simp only[lt,AfC]at *;omega,fun x y z h1 h2=>by simp only[lt,Aft]at *;omega⟩
end Go.Pev.Pl.ST
end
section
namespace Go.Pev.Pl
open Tok
section
variable {α β:Type} [DecidableEq α]
end
end Go.Pev.Pl
end
section
namespace Go.Pev.Pl
open Tok
theorem Ab2:∀ (xs b:List Edge),sel xs (gfl b xs)=LF b xs:=by
 intro xs
 induction xs with
 |nil=>intro b;rfl
 |cons x xs ih=>
  intro b
  have:=ih (b++[x])
  unfold sel at *
  rw[gfl,LF,List.zip_cons_cons,Agb]
  by_cases h:Fq b x.1 x.2.1=true
  ·simp[h,this]
  ·simp[h,this]
theorem Ade{N:Nat}{b xs:List Edge}(h:Fo N b)(hx:∀ e∈xs,InE N e):Fo N (b++LF b xs):=by
 have h1:=NP xs b hx
 have h2:cc N (b++xs)=cc N (b++LF b xs):=ABG fun a c=>ABB xs b
 unfold Fo at *
 rw[AfH]
 omega
theorem T3{N:Nat}(hN:N≤64):0≤HW N:=by
 have:((List.range 65).all fun k=>decide (0≤HW k))=true:=by kernel_rfl
 exact Ag2 (AfY.1 this N (by simp;omega))
noncomputable def grown(N:Nat)(ts:List Tie)(l:List Edge):List Tie:=Wj ts (Jj N ts l) (gfl (trs ts ts.length) (Jj N ts l)) (Jj N ts l).length
theorem AWj(N:Nat)(ts:List Tie)(l:List Edge):(grown N ts l).length=ts.length+(Jj N ts l).length:=AbY ..
theorem AWh(N:Nat)(ts:List Tie)(l:List Edge):(trs (grown N ts l) (grown N ts l).length).Perm (trs ts ts.length++LF (trs ts ts.length) (Jj N ts l)):=by
 have:=AbW ts (xs:=Jj N ts l) (bs:=gfl (trs ts ts.length) (Jj N ts l)) (AdI _ _)
 rw[Ab2]at this
 exact this
theorem AWi{N:Nat}(hN:N≤64){ts:List Tie}(ho:oks N ts)(l:List Edge):oks N (grown N ts l):=
 AbX ho (T3 hN) _ (ASA N ts l) (fun e he=>by
  obtain⟨⟨a,b,c,_⟩,_⟩:=(Sb N ts l e).1 he
  exact⟨a,b,c⟩) (fun e he=>((Sb N ts l e).1 he).2)
theorem AXI{N:Nat}(hN:N≤64)(ts:List Tie)(l:List Edge):∀ e∈Jj N ts l,InE N e:=fun e he=>AeU (AbK hN ts l e he)
theorem Aan{N:Nat}(hN:N≤64){ts:List Tie}(h:Fo N (trs ts ts.length))(l:List Edge):Fo N (trs (grown N ts l) (grown N ts l).length):=
 (Ade h (AXI hN ts l)).perm (AWh N ts l).symm
structure RG2(N:Nat)(ts:List Tie):Prop where
 h1:1≤N
 hN:N≤64
 ht:ts.length≤400
 oks:oks N ts
 fo:Fo N (trs ts ts.length)
theorem RG2.r21{N:Nat}{ts:List Tie}(h:RG2 N ts):Cn (((N:Int),(ts,())),())=some (true,()):=(AKK h.h1 h.hN h.ht h.oks).2 h.fo
theorem RG2.lr{N:Nat}{ts:List Tie}(h:RG2 N ts):FV (((N:Int),(ts,())),())=some (true,()):=by
 obtain⟨b,h1,h2,_⟩:=ABR (N:Int) ts (by have:=h.ht;omega)
 rw[h.r21]at h1
 cases h1
 exact h2
theorem Mn(n:Int)(ts:List Tie)(hl:ts.length<4611686018427387904):(Cn ((n,(ts,())),())=some (false,())∧FV ((n,(ts,())),())=some (false,()))∨∃ N:Nat,n=(N:Int)∧RG2 N ts:=by
 obtain⟨b,h1,h2,h3⟩:=ABR n ts hl
 cases b
 ·exact .inl ⟨h1,h2⟩
 ·obtain⟨N,rfl,q1,q2,q3,q4⟩:=h3 rfl
  exact .inr ⟨N,rfl,q1,q2,q3,q4,(AKK q1 q2 q3 q4).1 h1⟩
theorem RG2.inE{N:Nat}{ts:List Tie}(h:RG2 N ts):∀ e∈ts.map ed,In (N:Int) e.1∧In (N:Int) e.2.1:=Aeb h.hN h.oks
theorem RG2.grown{N:Nat}{ts:List Tie}(h:RG2 N ts){l:List Edge}(hf:ts.length+(Jj N ts l).length≤400):RG2 N (grown N ts l):=
 ⟨h.h1,h.hN,by rw[AWj];exact hf,AWi h.hN h.oks l,Aan h.hN h.fo l⟩
end Go.Pev.Pl
end
section
namespace Go.Pev.Pl
open Tok
def CB(u v:Int)(t:Tie):Bool:=decide (t.1=min u v∧t.2.1=max u v)
theorem ARh{N:Nat}{ts:List Tie}(h:RG2 N ts)(u v:Int):AAk (((N:Int),(ts,())),u,v,())=some (if ts.any (CB u v)then((ts.findIdx (CB u v):Nat):Int)else -1,()):=by
 have ht:=h.ht
 rw[AET,QZ]
 simp only[h.r21,AfI]
 have e:=Iq (step:=Fl) (fun i=>(u,v,(N:Int),ts,(i:Int),())) ts (CB u v) (fun i=>.inl ((i:Int),())) (.inr (.inl ())) (by omega)
  (fun i x hi hx=>by
   rw[Fl,AN,AJ,Ae9 hi]
   simp only[Ai hx,Ie,XB,Ao]
   rw[AH (by omega)]
   unfold CB
   by_cases h1:x.1=min u v
   ·by_cases h2:x.2.1=max u v
    ·rw[Ae9 h1,Ae9 h2,Ae9 (show x.1=min u v∧x.2.1=max u v from⟨h1,h2⟩)]
     rfl
    ·rw[Ae9 h1,Ae8 h2,Ae8 (fun h:x.1=min u v∧x.2.1=max u v=>h2 h.2)]
     rfl
   ·rw[Ae8 h1,Ae8 (fun h:x.1=min u v∧x.2.1=max u v=>h1 h.1)]
    rfl)
  (by rw[Fl,AN,AJ,Ae8 (by omega)])
 have e':AS Fl many (u,v,(N:Int),ts,(0:Int),())=_:=e
 rw[e']
 by_cases ha:ts.any (CB u v)=true
 ·rw[AfQ ha,AfQ ha]
 ·rw[AfM ha,AfM ha]
end Go.Pev.Pl
end
end
section
namespace Go.Pev.Pl
open Tok
theorem AXu(ts:List Tie)(t:Tie)(k:Int):trk (ts++[t]) k=trk ts k++if t.2.2.2.1=true∧k≤t.2.2.1 then [ed t]else []:=by
 rw[DC]
 congr 1
 unfold trk
 rw[Agb]
 by_cases h:t.2.2.2.1=true∧k≤t.2.2.1
 ·rw[AfQ h,h.1,Ae9 h.2];rfl
 ·rw[AfM h,AfM]
  ·rfl
  ·rw[AfF,AfC];exact h
theorem AJZ(k:Int):∀ (ts a:List Tie) (acc:List Edge),acc=trk a k→ts.foldl (fun acc t=>if t.2.2.2.1=true∧k≤t.2.2.1 then acc++[ed t]else acc) acc=trk (a++ts) k:=by
 intro ts
 induction ts with
 |nil=>intro a acc h;simpa using h
 |cons t ts ih=>
  intro a acc h
  rw[Af5,ih (a++[t])]
  ·simp
  ·rw[AXu,← h]
   split<;>simp
theorem ASm(ts:List Tie)(k:Int):(trk ts k).length≤ts.length:=by
 unfold trk
 rw[Af8]
 exact Agw _ _
theorem ASl(ts:List Tie)(k:Int):∀ e∈trk ts k,e∈ts.map ed:=by
 intro e he
 obtain⟨t,h1,_,_,rfl⟩:=Cr.1 he
 exact AfW.2 ⟨t,h1,rfl⟩
theorem AMC(n:Int)(ts:List Tie)(hs:ts.length≤400)(k:Int):OV ((n,(ts,())),k,())=some (trk ts k,()):=by
 rw[So,Lv]
 have e:=Cf (step:=Ca) (fun i (a:List Edge)=>(k,a,ts,AO ts,(i:Int),())) ts (fun t a=>.inl (if t.2.2.2.1=true∧k≤t.2.2.1 then a++[ed t]else a)) (fun a=>.inl (a,())) (fun i a=>a.length≤i) (by omega)
  (fun i x a hi hx ha=>by
   refine⟨fun m' h' => ?_,fun r h'=>(by cases h')⟩
   cases h'
   constructor
   ·rw[Ca,AN,AJ,Ae9 hi]
    simp only[Ai hx,AN]
    rw[AH (by omega),Ap,BI (by simp only[AfJ,AfV];omega)]
    cases h4:x.2.2.2.1
    ·simp
    ·by_cases h5:k≤x.2.2.1
     ·simp[h5,ed,A4]
     ·simp[h5]
   ·split
    ·rw[AfH];simp;omega
    ·omega)
  (fun a _=>by rw[Ca,AN,AJ,Ae8 (by omega)]) [] (AfN _)
 have e':AS Ca many (k,[],ts,AO ts,(0:Int),())=_:=e
 simp only[e']
 rw[BL (fun(t:Tie) (a:List Edge)=>if t.2.2.2.1=true∧k≤t.2.2.1 then a++[ed t]else a),AJZ k ts [] [] rfl]
 rfl
theorem ADM(n:Int)(ts:List Tie)(hs:ts.length≤400)(k:Int):Mh ((n,(ts,())),k,())=some (trk ts k,()):=by
 rw[Xm,Mg]
 have e:=Cf (step:=D8) (fun i (a:List Edge)=>(k,n,ts,a,(i:Int),())) ts (fun t a=>.inl (if t.2.2.2.1=true∧k≤t.2.2.1 then a++[ed t]else a)) (fun a=>.inl (a,())) (fun i a=>a.length≤i) (by omega)
  (fun i x a hi hx ha=>by
   refine⟨fun m' h' => ?_,fun r h'=>(by cases h')⟩
   cases h'
   constructor
   ·rw[D8,AN,AJ,Ae9 hi]
    simp only[Ai hx,AN]
    rw[AH (by omega),Ap,BI (by simp only[AfJ,AfV];omega)]
    cases h4:x.2.2.2.1
    ·simp
    ·by_cases h5:k≤x.2.2.1
     ·simp[h5,ed,A4]
     ·simp[h5]
   ·split
    ·rw[AfH];simp;omega
    ·omega)
  (fun a _=>by rw[D8,AN,AJ,Ae8 (by omega)]) [] (AfN _)
 have e':AS D8 many (k,n,ts,[],(0:Int),())=_:=e
 simp only[e']
 rw[BL (fun(t:Tie) (a:List Edge)=>if t.2.2.2.1=true∧k≤t.2.2.1 then a++[ed t]else a),AJZ k ts [] [] rfl]
 rfl
theorem RG2.inK{N:Nat}{ts:List Tie}(h:RG2 N ts)(k:Int):∀ e∈trk ts k,In (N:Int) e.1∧In (N:Int) e.2.1:=fun e he=>h.inE e (ASl ts k e he)
theorem RG2.AeQ{N:Nat}{ts:List Tie}(h:RG2 N ts)(k:Int):(trk ts k).length≤400:=AgR (ASm ts k) h.ht
theorem RG2.AeY{N:Nat}{ts:List Tie}(h:RG2 N ts)(k:Int):∃ zs,ND (((N:Int),(ts,())),k,())=some (((N:Int),(zs,())),0,())∧FC (N:Int) zs (trk ts k):=by
 have hl:=h.AeQ k
 have h1:=h.h1
 have hN:=h.hN
 rcases(ATs (N:Int) (trk ts k) ⟨by omega,by omega⟩ (by omega)).symm with⟨hno,_⟩|⟨_,zs,e,hF⟩
 ·exact absurd (h.inK k) hno
 refine⟨zs,?_,hF⟩
 rw[OW,JU]
 simp only[h.lr,AfI,AMC (N:Int) ts h.ht k,e]
theorem RG2.Aex{N:Nat}{ts:List Tie}(h:RG2 N ts)(k:Int):∃ out,Ft ((N:Int),trk ts k,())=some (out,())∧T1 (N:Int) (trk ts k) out:=by
 have:=h.AeQ k
 have h1:=h.h1
 have hN:=h.hN
 exact Dy (N:Int) (trk ts k) ⟨by omega,by omega⟩ (by omega) (h.inK k)
end Go.Pev.Pl
end
section
namespace Go.Pev.Pl
open Tok
noncomputable def AS6(p:Prop):Bool:=@decide p (Classical.propDecidable _)
theorem ADm(p:Prop):AS6 p=true↔p:=by
 unfold AS6
 exact @decide_eq_true_iff _ (Classical.propDecidable _)
def Aev(ts:List Tie):Prop:=∀ e∈ts.map ed,Con (trk ts 0) e.1 e.2.1
def Ae5(ts:List Tie):Prop:=∀ t∈ts,t.2.2.2.1=false→Con (trk ts t.2.2.1) t.1 t.2.1
def Aew(N:Nat)(ts:List Tie):Prop:=∀ k:Nat,(k:Int)≤HW N→∀ v:Nat,v<N→csz N (trk ts k) v≤max 1 (N/2 ^ k)
theorem RG2.tie{N:Nat}{ts:List Tie}(h:RG2 N ts){t:Tie}(ht:t∈ts):In (N:Int) t.1∧In (N:Int) t.2.1∧t.1<t.2.1∧0≤t.2.2.1∧t.2.2.1≤HW N:=by
 have h1:=((W4 N ts).1 h.oks).1 t ht
 have h2:=h.inE (ed t) (AfW.2 ⟨t,ht,rfl⟩)
 exact⟨h2.1,h2.2,h1.2.1,h1.2.2.2.1,h1.2.2.2.2⟩
end Go.Pev.Pl
end
section
namespace Go.Pev.Pl
open Tok
def LB(N:Nat):Nat:=(HW N).toNat
theorem Wn{N:Nat}(hN:N≤64):HW N=(LB N:Int):=by
 have:=T3 hN
 unfold LB
 omega
theorem ASn{N:Nat}(hN:N≤64):LB N<64:=by
 have:((List.range 65).all fun k=>decide (HW k<64))=true:=by kernel_rfl
 have h1:=Ag2 (AfY.1 this N (by simp;omega))
 have:=Wn hN
 omega
theorem Qi(N:Nat)(l:List Edge)(v:Int):csz N l v≤N:=by
 unfold csz
 have:=List.countP_le_length (p:=fun(w:Nat)=>Fq l v (w:Int)) (l:=List.range N)
 rw[Afp]at this
 exact this
theorem AXh(n:Nat)(h:n<18446744073709551616):IntKind.wrap .u64 (n:Int)=(n:Int):=IntWalk.u64_in _ (by omega)
theorem Snd.parts{N:Nat}{ts:List Tie}(h:RG2 N ts)(hs:Snd N (LB N:Int) ts):Aev ts∧Ae5 ts∧Aew N ts:=by
 refine⟨fun e he=>(hs.span _ _).1 (.edge e he),hs.lie,fun k hk v hv=>hs.halv k (by rw[← Wn h.hN];exact hk) v hv⟩
end Go.Pev.Pl
end
section
namespace Go.Pev.Pl
open Tok
theorem Abn{N:Nat}(hN:N≤64):N/2 ^ LB N≤1:=by
 have:((List.range 65).all fun k=>decide (k/2 ^ LB k≤1))=true:=by kernel_rfl
 exact Ag2 (AfY.1 this N (by simp;omega))
theorem RG2.below{N:Nat}{ts:List Tie}(h:RG2 N ts)(hs:Snd N (LB N:Int) ts){t:Tie}(ht:t∈ts):t.2.2.1<(LB N:Int):=
 hs.below (Abn h.hN) ht (by have:=(h.tie ht).2.2.1;omega)
end Go.Pev.Pl
end
section
namespace Go.Pev.Pl
open Tok
noncomputable def Eh(N:Nat)(l:List Edge)(v:Int):List Int:=((List.range N).filter fun(w:Nat)=>Fq l v (w:Int)).map fun(w:Nat)=>(w:Int)
theorem JQ(N:Nat)(l:List Edge)(v:Int):(Eh N l v).length=csz N l v:=by
 unfold Eh csz
 rw[Af8,List.countP_eq_length_filter]
theorem AL5{N:Nat}{l:List Edge}{v x:Int}:x∈Eh N l v↔(0≤x∧x<(N:Int))∧Con l v x:=by
 unfold Eh
 simp only[AfW,Afv,AgI,Bl]
 constructor
 ·rintro⟨w,⟨h1,h2⟩,rfl⟩
  exact⟨by omega,h2⟩
 ·rintro⟨⟨h1,h2⟩,h3⟩
  obtain⟨w,rfl⟩:=AfL h1
  exact⟨w,⟨by omega,h3⟩,rfl⟩
theorem GC{N:Nat}(h1:1≤N)(hN:N≤64)(ts:List Tie)(ht:ts.length≤400)(hin:∀ e∈ts.map ed,In (N:Int) e.1∧In (N:Int) e.2.1)(v:Nat)(hv:v<N)(k:Int):HH (((N:Int),(ts,())),(v:Int),k,())=some (Eh N (trk ts k) (v:Int),()):=by
 obtain⟨o,e1,c1⟩:=Dy (N:Int) (trk ts k) ⟨by omega,by omega⟩ (by have:=ASm ts k;omega) (fun e he=>hin e (ASl ts k e he))
 have ho:o.length=N:=by have:=c1.len;omega
 have hi:∀ k:Nat,k<N→In (N:Int) (k:Int):=fun k hk=>AaU h1 hN ⟨by omega,by omega⟩
 have hg:∀ k:Nat,o.getD k 0=cl o (k:Int):=fun k=>by unfold cl;rw[Af2]
 rw[P8,Ib]
 simp only[ADM (N:Int) ts ht,e1]
 have e:=Cf (step:=Cq) (fun i (a:List Int)=>((v:Int),(N:Int),ts,o,a,(i:Int),())) (List.range N) (fun(w:Nat) a=>.inl (if Fq (trk ts k) (v:Int) (w:Int)=true then a++[(w:Int)]else a)) (fun a=>.inl (a,())) (fun i a=>a.length≤i) (by simp;omega)
  (fun i x a hx0 hx ha=>by
   refine⟨fun m' h' => ?_,fun r h'=>(by cases h')⟩
   cases h'
   have:=EC hx
   subst this
   rw[Afp]at hx0
   constructor
   ·rw[Cq,AJ,Ae9 hx0]
    simp only[Ci 0 (show x<o.length by omega),Ci 0 (show v<o.length by omega),E2,Ao]
    rw[BI (by simp only[AN,AfJ,AfV];omega),AH (by omega)]
    have:decide (o.getD x 0=o.getD v 0)=Fq (trk ts k) (v:Int) (x:Int):=by
     rw[AgZ,Af3,Bl,hg,hg,c1.same _ _ (hi x hx0) (hi v hv)]
     exact⟨fun c=>c.symm,fun c=>c.symm⟩
    rw[this]
    cases Fq (trk ts k) (v:Int) (x:Int)<;>simp[A4]
   ·split
    ·rw[AfH];simp;omega
    ·omega)
  (fun a _=>by rw[Cq,Afp,AJ,Ae8 (by omega)]) [] (AfN _)
 have e':AS Cq many ((v:Int),(N:Int),ts,o,[],(0:Int),())=_:=e
 simp only[e']
 rw[BL (fun(w:Nat) (a:List Int)=>if Fq (trk ts k) (v:Int) (w:Int)=true then a++[(w:Int)]else a),KP (fun w:Nat=>Fq (trk ts k) (v:Int) (w:Int)=true) (fun w:Nat=>(w:Int))]
 unfold Eh
 simp
theorem NH(l:List Int)(x:Int)(hs:l.length<1073741824):JZ (l,x,())=some (decide (x∈l),()):=by
 rw[AMq,XE]
 have e:=Iq (step:=H3) (fun i=>(l,x,(i:Int),())) l (fun y=>decide (y=x)) (fun _=>.inl (true,())) (.inr (.inl ())) (by omega)
  (fun i y hi hy=>by
   rw[H3,AN,AJ,Ae9 hi]
   simp only[Ai hy,Ao]
   rw[AH (by omega)]
   by_cases h:y=x<;>simp[h])
  (by rw[H3,AN,AJ,Ae8 (by omega)])
 have e':AS H3 many (l,x,(0:Int),())=_:=e
 simp only[e']
 rw[AIr]
 by_cases h:x∈l
 ·simp[h]
 ·simp[h]
theorem QJ(n:Int)(ts:List Tie)(v:Int):ACl ((n,(ts,())),v,())=some (decide (0≤v∧v<n),()):=by
 rw[ATj,AHY,Ap]
 by_cases h:0≤v
 ·rw[Ae9 h,Al]
  by_cases h2:v<n
  ·rw[Ae9 h2,Ae9 (show 0≤v∧v<n from⟨h,h2⟩)]
  ·rw[Ae8 h2,Ae8 (fun q:0≤v∧v<n=>h2 q.2)]
 ·rw[Ae8 h,Ae8 (fun q:0≤v∧v<n=>h q.1)]
noncomputable def BS(N:Nat)(ts:List Tie)(u v k:Int):List Int:=
 if AS6 (RG2 N ts)=true then
  if Fq (trk ts k) u v=true then []else
  if csz N (trk ts k) u<csz N (trk ts k) v∨(csz N (trk ts k) u=csz N (trk ts k) v∧(Eh N (trk ts k) u).headD 0<(Eh N (trk ts k) v).headD 0)then Eh N (trk ts k) u else Eh N (trk ts k) v
 else []
theorem ADX(N:Nat)(ts:List Tie)(u v k:Int):(BS N ts u v k).length≤N:=by
 unfold BS
 have h1:=Qi N (trk ts k) u
 have h2:=Qi N (trk ts k) v
 split
 ·split
  ·simp
  ·split
   ·rw[JQ];exact h1
   ·rw[JQ];exact h2
 ·simp
theorem M4{N:Nat}{l:List Edge}{v:Nat}(hv:v<N):idx (Eh N l (v:Int)) (0:Int)=some ((Eh N l (v:Int)).headD 0):=by
 have:(v:Int)∈Eh N l (v:Int):=AL5.2 ⟨⟨by omega,by omega⟩,.refl _⟩
 cases hm:Eh N l (v:Int)with
 |nil=>rw[hm]at this;cases this
 |cons a b=>rw[Ev];rfl
theorem Xx{N:Nat}(hN:N≤64)(ts:List Tie)(ht:ts.length≤400)(u v:Nat)(hu:u<N)(hv:v<N)(k:Int):∃ e,OD (((N:Int),(ts,())),(u:Int),(v:Int),k,())=some (BS N ts u v k,e,()):=by
 rw[Ml,JJ]
 rcases Mn (N:Int) ts (by omega)with⟨r,_⟩|⟨N',hn,h⟩
 ·have:AS6 (RG2 N ts)=false:=by
   rw[← Bool.not_eq_true,ADm]
   intro h
   rw[h.r21]at r;cases r
  refine⟨1,?_⟩
  unfold BS
  rw[this]
  simp only[r,Afc]
  rfl
 ·have:N'=N:=by omega
  subst this
  have hu1:=GC h.h1 h.hN ts ht h.inE u hu k
  have hv1:=GC h.h1 h.hN ts ht h.inE v hv k
  have l1:=JQ N' (trk ts k) (u:Int)
  have l2:=JQ N' (trk ts k) (v:Int)
  have b1:=Qi N' (trk ts k) (u:Int)
  have hh:=NH (Eh N' (trk ts k) (u:Int)) (v:Int) (by omega)
  have hd:decide ((v:Int)∈Eh N' (trk ts k) (u:Int))=Fq (trk ts k) (u:Int) (v:Int):=by
   rw[AgZ,Af3,Bl,AL5]
   exact⟨fun q=>q.2,fun q=>⟨⟨by omega,by omega⟩,q⟩⟩
  rw[hd]at hh
  unfold BS
  rw[(ADm _).2 h,AfQ rfl]
  simp only[h.r21,AfI,QJ,hu1,hv1,hh]
  rw[Ae9 (show 0≤(u:Int)∧(u:Int)<(N':Int) by omega),Ae9 (show 0≤(v:Int)∧(v:Int)<(N':Int) by omega)]
  simp only[AfI]
  cases hc:Fq (trk ts k) (u:Int) (v:Int)
  ·simp only[AfO,AfP,AN,l1,l2,AJ,QM]
   by_cases q1:csz N' (trk ts k) (u:Int)<csz N' (trk ts k) (v:Int)
   ·rw[Ae9 q1,AfQ (.inl q1)]
    exact⟨0,rfl⟩
   ·rw[Ae8 q1]
    by_cases q2:csz N' (trk ts k) (u:Int)=csz N' (trk ts k) (v:Int)
    ·rw[Ae9 q2]
     have hg:∀ l:List Int,AM l 0 0=l.headD 0:=fun l=>by cases l<;>rfl
     simp only[M4 hu,M4 hv,hg,Al]
     by_cases q3:(Eh N' (trk ts k) (u:Int)).headD 0<(Eh N' (trk ts k) (v:Int)).headD 0
     ·rw[Ae9 q3,AfQ (.inr ⟨q2,q3⟩)]
      exact⟨0,rfl⟩
     ·rw[Ae8 q3,AfM (fun q=>by rcases q with q|q;exact q1 q;exact q3 q.2)]
      exact⟨0,rfl⟩
    ·rw[Ae8 q2,AfM (fun q=>by rcases q with q|q;exact q1 q;exact q2 q.1)]
     exact⟨0,rfl⟩
  ·simp only[Afb]
   exact⟨5,rfl⟩
end Go.Pev.Pl
end
section
namespace Go.Pev.Pl
open Tok
abbrev W23:=Int×Bool×Bool×Int×Int×Int×Int×Int×Int×Bool
theorem PL{α:Type}{A R:List α}{x:α}{i:Nat}(h:A.length=i):(A++x::R)[i]? = some x:=by
 rw[Afu (by omega),h,Agy];rfl
theorem Js{α:Type}{A R:List α}{x y:α}{i:Nat}(h:A.length=i):Am (A++x::R) (AE (i:Int)) y=A++y::R:=by
 rw[AAt,List.set_append_right _ _ (by omega),h,Agy];rfl
noncomputable def AY(s:List Int)(w:Int):Bool:=decide (w∈s)
def Fs(S:Int→Bool)(i:Int)(ts:List Tie):Nat:=ts.countP fun t=>t.2.2.2.1&&(decide (t.2.2.1=i)&&both S t)
theorem ALq(w:W23)(wt wf:Bool)(bu bv top:Int)(i:Nat)(hi:i<64)(s:List Int)(hs:s.length≤64)(n:Int)(b:Bool)(O:List Tie)(hO:O.length≤400)(r:Nat)(hr:r<1073741824):
  AS GV many (w.1,w.2.1,w.2.2.1,w.2.2.2.1,w.2.2.2.2.1,w.2.2.2.2.2.1,w.2.2.2.2.2.2.1,w.2.2.2.2.2.2.2.1,w.2.2.2.2.2.2.2.2.1,w.2.2.2.2.2.2.2.2.2,n,O,wt,wf,bu,bv,(r:Int),top,(i:Int),s,(0:Int),b,()) =
  some (.inl (w.1,w.2.1,w.2.2.1,w.2.2.2.1,w.2.2.2.2.1,w.2.2.2.2.2.1,w.2.2.2.2.2.2.1,w.2.2.2.2.2.2.2.1,w.2.2.2.2.2.2.2.2.1,w.2.2.2.2.2.2.2.2.2,n,O.map (rT (AY s) top i),wt,wf,bu,bv,((r+Fs (AY s) i O:Nat):Int),top,(i:Int),s,b,())):=by
 obtain⟨w0,w1,w2,w3,w4,w5,w6,w7,w8,w9⟩:=w
 simp only
 have key:∀ (R A:List Tie) (j cnt q:Nat),A.length=j→A.length+R.length=O.length→R.length<cnt→q+R.length<2147483648 →
   AQ GV cnt (w0,w1,w2,w3,w4,w5,w6,w7,w8,w9,n,A++R,wt,wf,bu,bv,(q:Int),top,(i:Int),s,(j:Int),b,()) =
   some (.inl (w0,w1,w2,w3,w4,w5,w6,w7,w8,w9,n,A++R.map (rT (AY s) top i),wt,wf,bu,bv,((q+Fs (AY s) i R:Nat):Int),top,(i:Int),s,b,())):=by
  intro R
  induction R with
  |nil=>
   intro A j cnt q hA hl hc hq
   obtain⟨cnt,rfl⟩:∃ c,cnt=c+1:=⟨cnt-1,by omega⟩
   rw[AQ,GV,AN,AJ,Ae8 (by simp;omega)]
   simp[Fs]
  |cons x R ih=>
   intro A j cnt q hA hl hc hq
   obtain⟨cnt,rfl⟩:∃ c,cnt=c+1:=⟨cnt-1,by omega⟩
   rw[AfJ]at hl hc hq
   have hg:=PL (R:=R) (x:=x) hA
   have next:∀ (y:Tie) (q':Nat),q'+R.length<2147483648→rT (AY s) top i x=y→q'+Fs (AY s) i R=q+Fs (AY s) i (x::R) →
     AQ GV cnt (w0,w1,w2,w3,w4,w5,w6,w7,w8,w9,n,A++y::R,wt,wf,bu,bv,(q':Int),top,(i:Int),s,((j+1:Nat):Int),b,()) =
     some (.inl (w0,w1,w2,w3,w4,w5,w6,w7,w8,w9,n,A++(x::R).map (rT (AY s) top i),wt,wf,bu,bv,((q+Fs (AY s) i (x::R):Nat):Int),top,(i:Int),s,b,())):=by
    intro y q' hq' hy hcnt
    have:=ih (A++[y]) (j+1) cnt q' (by simp[hA]) (by simp;omega) (by omega) hq'
    rw[Afo]at this
    rw[AgM]at this
    rw[this,hcnt,Afl,hy,Afo]
    rfl
   have hcc:Fs (AY s) i (x::R)=Fs (AY s) i R+if(x.2.2.2.1&&(decide (x.2.2.1=(i:Int))&&both (AY s) x))=true then 1 else 0:=by
    unfold Fs
    rw[AhH]
   rw[AQ,GV,AN,AJ,Ae9 (by simp;omega)]
   simp only[Ai hg,Ec hg]
   rw[AH (show j+1<9223372036854775808 by omega),AH (show q+1<9223372036854775808 by omega),Ao]
   simp only[NH s _ (show s.length<1073741824 by omega)]
   cases h4:x.2.2.2.1
   ·simp only[]
    refine next x q (by omega) ?_ ?_
    ·exact EV h4
    ·rw[hcc,h4];simp
   ·by_cases h3:x.2.2.1=(i:Int)
    ·rw[Ae9 h3]
     simp only[]
     by_cases h1:x.1∈s
     ·rw[Ae9 h1]
      simp only[]
      by_cases h2:x.2.1∈s
      ·rw[Ae9 h2]
       simp only[]
       have hb:both (AY s) x=true:=by unfold both AY;rw[Ae9 h1,Ae9 h2];rfl
       rw[Js hA,Ie,AH (show i+1<9223372036854775808 by omega)]
       refine next _ (q+1) (by omega) ?_ ?_
       ·unfold rT
        rw[AfQ ⟨h4,h3,hb⟩]
        unfold Gk
        rw[h3,h4]
        rfl
       ·rw[hcc,h4,Ae9 h3,hb];simp;omega
      ·rw[Ae8 h2]
       simp only[]
       have hb:both (AY s) x=false:=by unfold both AY;rw[Ae8 h2,AhO]
       refine next x q (by omega) ?_ ?_
       ·unfold rT
        rw[AfM (fun hh=>by rw[hb]at hh;exact absurd hh.2.2 (by simp))]
       ·rw[hcc,hb];simp
     ·rw[Ae8 h1]
      simp only[]
      have hb:both (AY s) x=false:=by unfold both AY;rw[Ae8 h1,AgW]
      refine next x q (by omega) ?_ ?_
      ·unfold rT
       rw[AfM (fun hh=>by rw[hb]at hh;exact absurd hh.2.2 (by simp))]
      ·rw[hcc,hb];simp
    ·rw[Ae8 h3]
     simp only[]
     refine next x q (by omega) ?_ ?_
     ·unfold rT
      rw[AfM (fun hh=>h3 hh.2.1)]
     ·rw[hcc,Ae8 h3];simp
 have:=key O [] 0 many r rfl (by simp) (by simp only[many];omega) (by omega)
 rw[Ag]
 exact this
theorem AGp(w:W23)(wt wf:Bool)(bu bv top:Int)(i:Nat)(hi:i<64)(s:List Int)(hs:s.length≤64)(n:Int)(b:Bool)(O:List Tie)(hO:O.length≤400)(r:Nat)(hr:r<1073741824):
  AS GU many (w.1,w.2.1,w.2.2.1,w.2.2.2.1,w.2.2.2.2.1,w.2.2.2.2.2.1,w.2.2.2.2.2.2.1,w.2.2.2.2.2.2.2.1,w.2.2.2.2.2.2.2.2.1,w.2.2.2.2.2.2.2.2.2,n,O,wt,wf,bu,bv,(r:Int),top,(i:Int),s,(0:Int),b,()) =
  some (match(Au (AY s) top i O).2.2 with
   |some e=>.inl (n,(Au (AY s) top i O).1,wt,true,e.1,e.2.1,((r+(Au (AY s) top i O).2.1:Nat):Int),(0:Int),())
   |none=>.inr (.inl (w.1,w.2.1,w.2.2.1,w.2.2.2.1,w.2.2.2.2.1,w.2.2.2.2.2.1,w.2.2.2.2.2.2.1,w.2.2.2.2.2.2.2.1,w.2.2.2.2.2.2.2.2.1,w.2.2.2.2.2.2.2.2.2,n,(Au (AY s) top i O).1,wt,wf,bu,bv,((r+(Au (AY s) top i O).2.1:Nat):Int),top,(i:Int),b,()))):=by
 obtain⟨w0,w1,w2,w3,w4,w5,w6,w7,w8,w9⟩:=w
 simp only
 have key:∀ (R A:List Tie) (j cnt q:Nat),A.length=j→A.length+R.length=O.length→R.length<cnt→q+R.length<2147483648 →
   AQ GU cnt (w0,w1,w2,w3,w4,w5,w6,w7,w8,w9,n,A++R,wt,wf,bu,bv,(q:Int),top,(i:Int),s,(j:Int),b,()) =
   some (match(Au (AY s) top i R).2.2 with
    |some e=>.inl (n,A++(Au (AY s) top i R).1,wt,true,e.1,e.2.1,((q+(Au (AY s) top i R).2.1:Nat):Int),(0:Int),())
    |none=>.inr (.inl (w0,w1,w2,w3,w4,w5,w6,w7,w8,w9,n,A++(Au (AY s) top i R).1,wt,wf,bu,bv,((q+(Au (AY s) top i R).2.1:Nat):Int),top,(i:Int),b,()))):=by
  intro R
  induction R with
  |nil=>
   intro A j cnt q hA hl hc hq
   obtain⟨cnt,rfl⟩:∃ c,cnt=c+1:=⟨cnt-1,by omega⟩
   rw[AQ,GU,AN,AJ,Ae8 (by simp;omega)]
   rfl
  |cons x R ih=>
   intro A j cnt q hA hl hc hq
   obtain⟨cnt,rfl⟩:∃ c,cnt=c+1:=⟨cnt-1,by omega⟩
   rw[AfJ]at hl hc hq
   have hg:=PL (R:=R) (x:=x) hA
   have next:∀ (y:Tie) (q':Nat),q'+R.length<2147483648→Au (AY s) top i (x::R)=(y::(Au (AY s) top i R).1,(Au (AY s) top i R).2.1+(q'-q),(Au (AY s) top i R).2.2)→q≤q' →
     AQ GU cnt (w0,w1,w2,w3,w4,w5,w6,w7,w8,w9,n,A++y::R,wt,wf,bu,bv,(q':Int),top,(i:Int),s,((j+1:Nat):Int),b,()) =
     some (match(Au (AY s) top i (x::R)).2.2 with
     |some e=>.inl (n,A++(Au (AY s) top i (x::R)).1,wt,true,e.1,e.2.1,((q+(Au (AY s) top i (x::R)).2.1:Nat):Int),(0:Int),())
     |none=>.inr (.inl (w0,w1,w2,w3,w4,w5,w6,w7,w8,w9,n,A++(Au (AY s) top i (x::R)).1,wt,wf,bu,bv,((q+(Au (AY s) top i (x::R)).2.1:Nat):Int),top,(i:Int),b,()))):=by
    intro y q' hq' hy hqq
    have:=ih (A++[y]) (j+1) cnt q' (by simp[hA]) (by simp;omega) (by omega) hq'
    rw[Afo,AgM]at this
    rw[this,hy]
    have e1:A++[y]++(Au (AY s) top i R).1=A++y::(Au (AY s) top i R).1:=by simp
    have e2:q'+(Au (AY s) top i R).2.1=q+((Au (AY s) top i R).2.1+(q'-q)):=by omega
    rw[e1,e2]
   rw[AQ,GU,AN,AJ,Ae9 (by simp;omega)]
   simp only[Ai hg,Ec hg]
   rw[AH (show j+1<9223372036854775808 by omega),AH (show q+1<9223372036854775808 by omega),Ao]
   simp only[NH s _ (show s.length<1073741824 by omega)]
   have skip:(x.2.2.2.1=true∨x.2.2.1≠(i:Int))→Au (AY s) top i (x::R)=(x::(Au (AY s) top i R).1,(Au (AY s) top i R).2.1+(q-q),(Au (AY s) top i R).2.2):=fun h=>by
    rw[Au,AfQ h,Agy];rfl
   cases h4:x.2.2.2.1
   ·simp only[]
    by_cases h3:x.2.2.1=(i:Int)
    ·rw[Ae9 h3]
     simp only[AfI]
     have hn:¬ (x.2.2.2.1=true∨x.2.2.1≠(i:Int)):=by rw[h4];simp[h3]
     have found:∀ (hne:GZ (AY s) x) (hnb:both (AY s) x=false),Au (AY s) top i (x::R)=(Ce x::R,0,some (ed x)):=fun hne hnb=>by
      rw[Au,AfM hn,AfM (by rw[hnb];simp),AfQ hne]
     by_cases h1:x.1∈s
     ·rw[Ae9 h1]
      simp only[]
      by_cases h2:x.2.1∈s
      ·rw[Ae9 h2]
       simp only[]
       have hb:both (AY s) x=true:=by unfold both AY;rw[Ae9 h1,Ae9 h2];rfl
       rw[Js hA,Ie,AH (show i+1<9223372036854775808 by omega)]
       refine next _ (q+1) (by omega) ?_ (by omega)
       rw[Au,AfM hn,AfQ hb]
       unfold Gk
       rw[h3,h4,show q+1-q=1 by omega]
       rfl
      ·rw[Ae8 h2]
       simp only[]
       have hb:both (AY s) x=false:=by unfold both AY;rw[Ae8 h2,AhO]
       have hne:GZ (AY s) x:=by unfold GZ AY;rw[Ae9 h1,Ae8 h2];simp
       rw[Js hA,found hne hb]
       simp only[]
       unfold Ce ed
       rfl
     ·rw[Ae8 h1]
      simp only[]
      by_cases h2:x.2.1∈s
      ·rw[Ae9 h2]
       simp only[]
       have hb:both (AY s) x=false:=by unfold both AY;rw[Ae8 h1,AgW]
       have hne:GZ (AY s) x:=by unfold GZ AY;rw[Ae8 h1,Ae9 h2];simp
       rw[Js hA,found hne hb]
       simp only[]
       unfold Ce ed
       rfl
      ·rw[Ae8 h2]
       simp only[]
       refine next x q (by omega) ?_ (AfN _)
       have hb:both (AY s) x=false:=by unfold both AY;rw[Ae8 h1,AgW]
       have hne:¬ GZ (AY s) x:=by unfold GZ AY;rw[Ae8 h1,Ae8 h2];simp
       rw[Au,AfM hn,AfM (by rw[hb];simp),AfM hne,Agy]
       rfl
    ·rw[Ae8 h3]
     simp only[Afc]
     exact next x q (by omega) (skip (.inr h3)) (AfN _)
   ·simp only[]
    exact next x q (by omega) (skip (.inl h4)) (AfN _)
 have:=key O [] 0 many r rfl (by simp) (by simp only[many];omega) (by omega)
 rw[Ag]
 exact this
end Go.Pev.Pl
end
section
namespace Go.Pev.Pl
open Tok
noncomputable def LC(N u v:Nat)(top:Int):Nat→List Tie→Nat→List Tie×Option Edge×Nat
 |0,O,r=>(O,none,r)
 |i+1,O,r=>match(Au (AY (BS N O u v i)) top i (O.map (rT (AY (BS N O u v i)) top i))).2.2 with
  |some e=>((Au (AY (BS N O u v i)) top i (O.map (rT (AY (BS N O u v i)) top i))).1,some e,r+Fs (AY (BS N O u v i)) i O+(Au (AY (BS N O u v i)) top i (O.map (rT (AY (BS N O u v i)) top i))).2.1)
  |none=>LC N u v top i (Au (AY (BS N O u v i)) top i (O.map (rT (AY (BS N O u v i)) top i))).1 (r+Fs (AY (BS N O u v i)) i O+(Au (AY (BS N O u v i)) top i (O.map (rT (AY (BS N O u v i)) top i))).2.1)
theorem SD(S:Int→Bool)(top i:Int):∀ ts:List Tie,(Au S top i ts).1.length=ts.length∧(Au S top i ts).2.1≤ts.length:=by
 intro ts
 induction ts with
 |nil=>exact⟨rfl,AfN _⟩
 |cons t ts ih=>
  rw[Au]
  split
  ·exact⟨by simp[ih.1],by have:=ih.2;simp;omega⟩
  ·split
   ·exact⟨by simp[ih.1],by have:=ih.2;simp;omega⟩
   ·split
    ·exact⟨by simp,by simp⟩
    ·exact⟨by simp[ih.1],by have:=ih.2;simp;omega⟩
theorem AIP(S:Int→Bool)(i:Int)(ts:List Tie):Fs S i ts≤ts.length:=List.countP_le_length
theorem AGn{N:Nat}(hN:N≤64)(u v:Nat)(hu:u<N)(hv:v<N)(top w8:Int):
  ∀ (m:Nat) (O:List Tie) (r cnt:Nat),m≤64→O.length≤400→r+1000*m<1073741824→m<cnt →
  AQ Er cnt ((0:Int),false,false,(0:Int),(0:Int),(0:Int),(u:Int),(v:Int),w8,true,(N:Int),O,true,false,(0:Int),(0:Int),(r:Int),top,(m:Int)-1,()) =
  some (match(LC N u v top m O r).2.1 with
   |some e=>.inl ((N:Int),(LC N u v top m O r).1,true,true,e.1,e.2.1,((LC N u v top m O r).2.2:Int),(0:Int),())
   |none=>.inr (.inl ((0:Int),false,false,(0:Int),(0:Int),(0:Int),(N:Int),(LC N u v top m O r).1,true,false,(0:Int),(0:Int),((LC N u v top m O r).2.2:Int),()))):=by
 intro m
 induction m with
 |zero=>
  intro O r cnt hm hO hr hc
  obtain⟨cnt,rfl⟩:∃ c,cnt=c+1:=⟨cnt-1,by omega⟩
  rw[AQ,Er,Ap,Ae8 (by omega)]
  rfl
 |succ m ih=>
  intro O r cnt hm hO hr hc
  obtain⟨cnt,rfl⟩:∃ c,cnt=c+1:=⟨cnt-1,by omega⟩
  have em:((m+1:Nat):Int)-1=(m:Int):=by omega
  obtain⟨e,hs⟩:=Xx hN O hO u v hu hv (m:Int)
  have hsl:=ADX N O u v (m:Int)
  rw[em,AQ,Er,Ap,Ae9 (show(0:Int)≤(m:Int) by omega)]
  simp only[hs]
  have ht:=ALq ((0:Int),false,false,(0:Int),(0:Int),(0:Int),(u:Int),(v:Int),w8,true) true false 0 0 top m (by omega) (BS N O u v m) (by omega) (N:Int) true O hO r (by omega)
  simp only at ht
  rw[LC]
  generalize hS:BS N O u v (m:Int)=s at *
  have hcl:=AIP (AY s) (m:Int) O
  have hml:(O.map (rT (AY s) top m)).length≤400:=by rw[Af8];exact hO
  have ho:=AGp ((0:Int),false,false,(0:Int),(0:Int),(0:Int),(u:Int),(v:Int),w8,true) true false 0 0 top m (by omega) s (by omega) (N:Int) true (O.map (rT (AY s) top m)) hml (r+Fs (AY s) m O) (by omega)
  simp only at ho
  simp only[ht,ho]
  have hpl:=SD (AY s) top m (O.map (rT (AY s) top m))
  cases hp:(Au (AY s) top m (O.map (rT (AY s) top m))).2.2 with
  |some e=>rfl
  |none=>
   simp only[]
   rw[Aj (by omega)]
   exact ih _ _ cnt (by omega) (by omega) (by omega) (by omega)
def Adf(tree:Bool)(f:Option Edge)(r:Nat):Bool×Bool×Edge×Int×Unit:=(tree,f.isSome,((f.getD (0,0,())).1,((f.getD (0,0,())).2.1,())),(r:Int),())
def AJJ:Bool×Bool×Edge×Int×Unit:=(false,(false,(((0:Int),((0:Int),())),((0:Int),()))))
noncomputable def Ns(N:Nat)(ts:List Tie)(p:Nat)(t:Tie):List Tie×Option Edge×Nat:=
 if t.2.2.2.1=true then LC N t.1.toNat t.2.1.toNat (LB N:Int) (t.2.2.1.toNat+1) (ts.take p++ts.drop (p+1)) 0 else(ts.take p++ts.drop (p+1),none,0)
theorem SW{N:Nat}{ts:List Tie}(h:RG2 N ts)(u v:Int):
  (¬ ((0≤u∧u<(N:Int))∧(0≤v∧v<(N:Int)))∧VE (((N:Int),(ts,())),u,v,())=some ((N:Int),ts,AJJ,10,())) ∨
  (((0≤u∧u<(N:Int))∧(0≤v∧v<(N:Int)))∧ts.any (CB u v)=false∧VE (((N:Int),(ts,())),u,v,())=some ((N:Int),ts,AJJ,6,())) ∨
  (((0≤u∧u<(N:Int))∧(0≤v∧v<(N:Int)))∧ts.any (CB u v)=true∧∃ t,ts[ts.findIdx (CB u v)]? = some t ∧
   VE (((N:Int),(ts,())),u,v,())=some ((N:Int),(Ns N ts (ts.findIdx (CB u v)) t).1,Adf t.2.2.2.1 (Ns N ts (ts.findIdx (CB u v)) t).2.1 (Ns N ts (ts.findIdx (CB u v)) t).2.2,0,())):=by
 have ht:=h.ht
 have hN:=h.hN
 rw[Ze,P1]
 simp only[h.r21,AfI,QJ]
 by_cases hu:0≤u∧u<(N:Int)
 ·rw[Ae9 hu]
  by_cases hv:0≤v∧v<(N:Int)
  ·right
   rw[Ae9 hv]
   simp only[AfI,ARh h]
   cases ha:ts.any (CB u v)
   ·left
    refine⟨⟨hu,hv⟩,rfl,?_⟩
    simp only[AfO,AfP,Al]
    rw[Ae9 (by omega)]
    rfl
   ·right
    have hk:ts.findIdx (CB u v)<ts.length:=Ago.2 (Agk.1 ha)
    have hx:ts[ts.findIdx (CB u v)]? = some ts[ts.findIdx (CB u v)]:=AfE hk
    refine⟨⟨hu,hv⟩,rfl,_,hx,?_⟩
    have hm:ts[ts.findIdx (CB u v)]∈ts:=AgP hk
    generalize ts[ts.findIdx (CB u v)]=t at *
    generalize ts.findIdx (CB u v)=p at *
    obtain⟨i1,i2,hlt,l1,l2⟩:=h.tie hm
    obtain⟨a,ha'⟩:=AfL i1.2.2.1
    obtain⟨b,hb'⟩:=AfL i2.2.2.1
    obtain⟨lv,hlv⟩:=AfL l1
    have haN:a<N:=by have:=i1.2.2.2;omega
    have hbN:b<N:=by have:=i2.2.2.2;omega
    have hT:=Wn hN
    have hT64:=ASn hN
    have s1:Bz ts (0:Int) (p:Int)=some (ts.take p):=Jw (by omega)
    have s2:Bz ts ((p+1:Nat):Int) (ts.length:Int)=some (ts.drop (p+1)):=Du (by omega)
    have hfit1:fits (AO ([]:List Tie)+AO (ts.take p))=true:=BI (by simp only[AN,AfV,AfT];omega)
    have hfit2:fits (AO (ts.take p)+AO (ts.drop (p+1)))=true:=BI (by simp only[AN,AfT,Afj];omega)
    have hd0:A4 ([]:List Tie) (ts.take p)=ts.take p:=by simp[A4]
    simp only[Afb,Al]
    rw[Ae8 (show ¬ (p:Int)<0 by omega)]
    simp only[Ai hx,s1,hfit1,hd0]
    rw[AH (by omega)]
    simp only[AN]at hfit2
    simp only[AN,s2,hfit2,ADO N hN,hT,Cd]
    unfold Ns
    cases h4:t.2.2.2.1
    ·obtain⟨m,hmany⟩:∃ m,many=m+1:=⟨many-1,by simp only[many]⟩
     have:AS Er many ((0:Int),false,false,(0:Int),(0:Int),(0:Int),t.1,t.2.1,t.2.2.1,false,(N:Int),ts.take p++ts.drop (p+1),false,false,(0:Int),(0:Int),(0:Int),(LB N:Int),t.2.2.1,()) =
       some (.inr (.inl ((0:Int),false,false,(0:Int),(0:Int),(0:Int),(N:Int),ts.take p++ts.drop (p+1),false,false,(0:Int),(0:Int),(0:Int),()))):=by
      rw[Ag,hmany,AQ,Er]
      cases ile (0:Int) t.2.2.1<;>rfl
     simp only[this]
     rfl
    ·simp only[Afb]
     have hlen:(ts.take p++ts.drop (p+1)).length≤400:=by rw[AfH,AfT,Afj];omega
     have hs:=AGn hN a b haN hbN (LB N:Int) t.2.2.1 (lv+1) (ts.take p++ts.drop (p+1)) 0 many (by omega) hlen (by omega) (by simp only[many];omega)
     rw[← ha',← hb',show((lv+1:Nat):Int)-1=t.2.2.1 by omega]at hs
     have e2:t.1.toNat=a:=by omega
     have e3:t.2.1.toNat=b:=by omega
     have e4:t.2.2.1.toNat+1=lv+1:=by omega
     rw[e2,e3,e4]
     rw[← Ag]at hs
     have hs':AS Er many ((0:Int),false,false,(0:Int),(0:Int),(0:Int),t.1,t.2.1,t.2.2.1,true,(N:Int),ts.take p++ts.drop (p+1),true,false,(0:Int),(0:Int),(0:Int),(LB N:Int),t.2.2.1,())=_:=hs
     simp only[hs']
     cases (LC N a b (LB N:Int) (lv+1) (ts.take p++ts.drop (p+1)) 0).2.1 with
     |some e=>rfl
     |none=>rfl
  ·left
   rw[Ae8 hv]
   exact⟨fun q=>hv q.2,rfl⟩
 ·left
  rw[Ae8 hu]
  exact⟨fun q=>hu q.1,rfl⟩
end Go.Pev.Pl
end
section
namespace Go.Pev.Pl
open Tok
theorem RG2.edP{N:Nat}{ts:List Tie}(h:RG2 N ts):(ts.map ed).Pairwise IL:=by
 rw[Age]
 exact((W4 N ts).1 h.oks).2
theorem RG2.Ae2{N:Nat}{ts:List Tie}(h:RG2 N ts):∀ e∈ts.map ed,e.1<e.2.1:=by
 intro e he
 obtain⟨t,ht,rfl⟩:=AfW.1 he
 exact(h.tie ht).2.2.1
noncomputable def VN(N:Nat)(ts:List Tie)(l:List Edge):List Edge:=(I6 N l).filter fun x=>decide (x∈ts.map ed)
theorem ART{N:Nat}{ts:List Tie}(h:RG2 N ts)(l:List Edge)(hs:l.length<1073741824):
  TB (((N:Int),(ts,())),l,())=some (if ∀ e∈l,In (N:Int) e.1∧In (N:Int) e.2.1 then(VN N ts l,0,())else([],10,())):=by
 have ht:=h.ht
 have h1:=h.h1
 have hN:=h.hN
 rw[TA,L8]
 simp only[h.r21,AfI]
 have e:=Iq (step:=Fk) (fun i=>(l,(N:Int),ts,(i:Int),())) l (fun x => !decide (In (N:Int) x.1∧In (N:Int) x.2.1)) (fun _=>.inl (10,())) (.inr (.inl (l,(N:Int),ts,()))) (by omega)
  (fun i x hi hx=>by
   rw[Fk,AN,AJ,Ae9 hi]
   simp only[Ai hx,QJ]
   rw[AH (by omega)]
   have d1:decide (0≤x.1∧x.1<(N:Int))=decide (In (N:Int) x.1):=Agl.2 ⟨fun q=>⟨by omega,by omega,q.1,q.2⟩,fun q=>⟨q.2.2.1,q.2.2.2⟩⟩
   have d2:decide (0≤x.2.1∧x.2.1<(N:Int))=decide (In (N:Int) x.2.1):=Agl.2 ⟨fun q=>⟨by omega,by omega,q.1,q.2⟩,fun q=>⟨q.2.2.1,q.2.2.2⟩⟩
   rw[d1,d2,Bool.decide_and]
   cases decide (In (N:Int) x.1)<;>cases decide (In (N:Int) x.2.1)<;>simp)
  (by rw[Fk,AN,AJ,Ae8 (by omega)])
 have e':AS Fk many (l,(N:Int),ts,(0:Int),())=_:=e
 rw[e']
 by_cases hall:∀ e∈l,In (N:Int) e.1∧In (N:Int) e.2.1
 ·have:(l.any fun x => !decide (In (N:Int) x.1∧In (N:Int) x.2.1))=false:=by
   rw[List.any_eq_false]
   intro x hx
   simp[hall x hx]
  rw[this,AfQ hall]
  simp only[AfO,AfP,ANL (N:Int) ts h.ht h.r21,AKS N hN l hs]
  have hpl:=Yf N hN l
  unfold VN
  generalize I6 N l=p at hpl
  have e2:=Cf (step:=Fj) (fun i (a:List Edge)=>(ts.map ed,p,a,(i:Int),())) p (fun x a=>.inl (if x∈ts.map ed then a++[x]else a)) (fun a=>.inl (a,())) (fun i a=>a.length≤i) (by omega)
   (fun i x a hi hx ha=>by
    refine⟨fun m' h' => ?_,fun r h'=>(by cases h')⟩
    cases h'
    constructor
    ·rw[Fj,AN,AJ,Ae9 hi]
     obtain⟨u,v,⟨⟩⟩:=x
     simp only[Ai hx,Ec hx,AEJ (ts.map ed) u v (by rw[Af8];omega),AN]
     have hfit:fits ((a.length:Int)+(([(u,v,())]:List Edge).length:Int))=true:=BI (by simp;omega)
     rw[hfit,AH (by omega)]
     by_cases q:((u,v,()):Edge)∈ts.map ed
     ·rw[Ae9 q,AfQ q]
      rfl
     ·rw[Ae8 q,AfM q]
    ·split
     ·rw[AfH];simp;omega
     ·omega)
   (fun a _=>by rw[Fj,AN,AJ,Ae8 (by omega)]) [] (AfN _)
  have e2':AS Fj many (ts.map ed,p,[],(0:Int),())=_:=e2
  simp only[e2']
  rw[BL (fun(x:Edge) (a:List Edge)=>if x∈ts.map ed then a++[x]else a),KP (fun x:Edge=>x∈ts.map ed) (fun x=>x)]
  simp
 ·have:(l.any fun x => !decide (In (N:Int) x.1∧In (N:Int) x.2.1))=true:=by
   rw[Agk]
   refine Afx fun hn=>hall fun e he => ?_
   refine Afx fun hne=>hn ⟨e,he,by rw[Ae8 hne];rfl⟩
  rw[this,AfM hall]
  rfl
end Go.Pev.Pl
end
section
namespace Go.Pev.Pl
open Tok
theorem ARS(N:Nat)(ts:List Tie)(l:List Edge):(VN N ts l).Pairwise IL:=(UA N l).filter _
theorem AWr(N:Nat)(hN:N≤64)(ts:List Tie)(l:List Edge):(VN N ts l).length≤4096:=AgR (Agw _ _) (Yf N hN l)
end Go.Pev.Pl
end
section
namespace Go.Pev.Pl
section
variable {N top:Nat} {ts w:List Tie} (hp:w.Perm ts) (hi:∀ x∈ts,InE N (ed x)) (hl:∀ t∈ts,0≤t.2.2.1∧t.2.2.1≤(top:Int)) (hfo:Fo N (trk ts 0)) (hlie:∀ x∈ts,x.2.2.2.1=false→Con (trk ts x.2.2.1) x.1 x.2.1)
include hp hi
include hl hfo hlie
end
end Go.Pev.Pl
end
section
namespace Go.Pev.Pl
open Tok
end Go.Pev.Pl
end
section
namespace Go.Pev.Pl
open Tok
def bef(x y:Tie):Prop:=y.2.2.1<x.2.2.1∨(x.2.2.1=y.2.2.1∧ahead x y)
theorem bef.trans{x y z:Tie}(h:bef x y)(h':bef y z):bef x z:=by
 unfold bef ahead at *
 omega
def Mrg(u v w:List Tie):Prop:=w.Perm (u++v)∧w.Pairwise bef
end Go.Pev.Pl
end
section
namespace Go.Pev.Pl
open Tok
noncomputable section
end
theorem Mrg.append{u1 u2 v1 v2 w1 w2:List Tie}(h1:Mrg u1 v1 w1)(h2:Mrg u2 v2 w2)(hu:(u1++u2).Pairwise bef)(hv:(v1++v2).Pairwise bef)(c1:∀ x∈u1,∀ y∈v2,bef x y)(c2:∀ y∈v1,∀ x∈u2,bef y x):Mrg (u1++u2) (v1++v2) (w1++w2):=by
 rw[Ahi]at hu hv
 refine⟨?_,?_⟩
 ·refine(h1.1.append h2.1).trans ?_
  rw[Afo,Afo]
  refine List.Perm.append_left _ ?_
  rw[← Afo,← Afo]
  exact List.Perm.append_right _ Agv
 ·rw[Ahi]
  refine⟨h1.2,h2.2,fun x hx y hy => ?_⟩
  have hx:=AfD.1 (h1.1.mem_iff.1 hx)
  have hy:=AfD.1 (h2.1.mem_iff.1 hy)
  rcases hx with hx|hx<;>rcases hy with hy|hy
  ·exact hu.2.2 x hx y hy
  ·exact c1 x hx y hy
  ·exact c2 x hx y hy
  ·exact hv.2.2 x hx y hy
end Go.Pev.Pl
end
section
namespace Go.Pev.Pl
open Tok
end Go.Pev.Pl
end
section
namespace Go.Pev.Pl
open Tok
end Go.Pev.Pl
end
section
namespace Go.Pev.Pl
open Tok
theorem AKC(l:List Edge)(hs:l.length<1073741824):Ro (l,l,())=some (true,()):=by
 rw[ADd,PV,AN,Ao]
 have e:=Iq (step:=FK) (fun i=>(l,l,(i:Int),())) l (fun _=>false) (fun _=>.inl (false,())) (.inr (.inl ())) (by omega)
  (fun i x hi hx=>by
   rw[FK,AN,AJ,Ae9 hi]
   simp only[Ai hx,Ao,AfK,AhG,AfI]
   rw[AH (by omega)]
   rfl)
  (by rw[FK,AN,AJ,Ae8 (by omega)])
 have e':AS FK many (l,l,(0:Int),())=_:=e
 have hf:(l.any fun _=>false)=false:=by simp
 rw[e',hf]
 simp
def lvl(ts:List Tie)(k:Int):List Tie:=ts.filter fun t=>decide (t.2.2.1=k)
end Go.Pev.Pl
end
section
namespace Go.Pev.Pl
open Tok
section
variable (n:Int) (ts:List Tie)
end
end Go.Pev.Pl
end
section
namespace Go.Pev.Pl
open Tok
def mid(f:Int→Int)(xs:List Int)(i:Nat):List Int:=(xs.take i).map f++xs.drop i
def lb(at0:List Int)(v:Int):Int:=at0.getD v.toNat 0
end Go.Pev.Pl
end
section
namespace Go.Pev.Pl
open Tok
end Go.Pev.Pl
end
section
namespace Go.Pev.Pl
section
variable {α β:Type} [DecidableEq α]
theorem Z2(es:List (α×β))(k:α)(v:β)(j:α):AT (Af es k v) j=if j=k then some v else AT es j:=by
 induction es with
 |nil=>
  simp only[Af,AT]
  by_cases h:j=k
  ·rw[AfQ h,AfQ h.symm]
  ·rw[AfM h,AfM (Af0 h)]
 |cons e es ih=>
  obtain⟨a,x⟩:=e
  by_cases h1:a=k
  ·subst h1
   simp only[Af,AT,Afb]
   by_cases h:j=a
   ·rw[AfQ h,AfQ h.symm]
   ·rw[AfM h,AfM (Af0 h),AfM (Af0 h)]
  ·simp only[Af,AT,h1,AfP,ih]
   by_cases h:a=j
   ·subst h
    rw[AfQ rfl,AfM h1,AfQ rfl]
   ·rw[AfM h,AfM h]
theorem ADo:∀ (es:List (α×β)) (k:α),Dp es k=none→∀ v,Af es k v=es++[(k,v)]:=by
 intro es
 induction es with
 |nil=>intro k _ v;rfl
 |cons e es ih=>
  intro k h v
  obtain⟨a,b⟩:=e
  by_cases hk:a=k
  ·simp[Dp,hk]at h
  ·simp only[Dp,hk,AfP,Ah1]at h
   simp only[Af,hk,AfP,ih k h v,Afd]
theorem ADn:∀ (es:List (α×β)) (k:α) (n:Nat),Dp es k=some n→∀ v,n<es.length∧Af es k v=es.modify n fun e=>(e.1,v):=by
 intro es
 induction es with
 |nil=>intro k n h;simp[Dp]at h
 |cons e es ih=>
  intro k n h v
  obtain⟨a,b⟩:=e
  by_cases hk:a=k
  ·simp only[Dp,hk,Afb,AfA]at h
   subst h
   simp[Af,hk]
  ·simp only[Dp,hk,AfP,AfU]at h
   obtain⟨m,hm,rfl⟩:=h
   obtain⟨h1,h2⟩:=ih k m hm v
   simp only[Af,hk,AfP,AfJ]
   exact⟨by omega,by rw[h2];rfl⟩
theorem AQS(es:List (α×β))(k:α)(z v:β):(ile (0:Int) (WI es k)&&ilt (WI es k) (AO (Af es k z)))=true∧AVk (Af es k z) (WI es k) v=Af es k v:=by
 rw[Ap,Al]
 unfold WI AVk
 cases h:Dp es k with
 |none=>
  rw[ADo es k h,ADo es k h,Option.getD_none,Af2]
  constructor
  ·rw[Ae9 (by omega),Ae9 (by rw[AN,AfH];simp;omega)];rfl
  ·have:∀ (xs:List (α×β)),(xs++[(k,z)]).modify xs.length (fun e=>(e.1,v))=xs++[(k,v)]:=by
    intro xs
    induction xs with
    |nil=>rfl
    |cons x xs ih=>rw[Afd,AfJ,List.modify_succ_cons,ih];rfl
   exact this es
 |some n=>
  obtain⟨h1,h2⟩:=ADn es k n h z
  obtain⟨_,h3⟩:=ADn es k n h v
  rw[h2,h3,Afg,Af2]
  constructor
  ·rw[Ae9 (by omega),Ae9 (by rw[AN,List.length_modify];omega)];rfl
  ·apply AhJ
   intro i
   simp only[List.getElem?_modify]
   cases es[i]? with
   |none=>split<;>rfl
   |some e=>split<;>rfl
end
end Go.Pev.Pl
end
section
namespace Go.Pev.Pl
open Tok
end Go.Pev.Pl
end
section
namespace Go.Pev.Pl
open Tok
theorem QC(p x:Tie):DN (p,x,())=some (if ahead p x then -1 else if p.1=x.1∧p.2.1=x.2.1 then 0 else 1,()):=by
 rw[Ly,Hr]
 simp only[KZ,AGm]
 congr 2
 unfold O6 ahead
 repeat' split
 all_goals omega
theorem AbS{ts:List Tie}(ht:ts.length≤400)(hp:ts.Pairwise ahead)(g:Tie):∃ k:Nat,k≤ts.length∧(∀ j t,ts[j]? = some t→(j<k↔ahead t g)) ∧
  AXa (ts,g,())=some ((k:Int),match ts[k]? with|some t=>decide (t.1=g.1∧t.2.1=g.2.1)|none=>false,()):=by
 have hahead:∀ (i j:Nat) (t t':Tie),i≤j→ts[i]? = some t→ts[j]? = some t'→ahead t' g→ahead t g:=by
  intro i j t t' hij h1 h2 h3
  by_cases e:i=j
  ·subst e
   rw[h1]at h2
   cases h2
   exact h3
  ·have hj:=(Afm.1 h2).1
   have hi:=(Afm.1 h1).1
   have:=AgG.1 hp i j hi hj (by omega)
   rw[(Afm.1 h1).2,(Afm.1 h2).2]at this
   exact this.trans h3
 obtain⟨g1,g2,g3,g4,⟨⟩⟩:=g
 obtain⟨k,_,k2,k3,k4,k5⟩:=Ae3 (step:=Ka) (fun i j=>(ts,g1,g2,g3,g4,(ts.length:Int),(i:Int),(j:Int),())) (fun i=>match ts[i]? with|some t=>decide (ahead t (g1,g2,g3,g4,()))|none=>false)
  (fun i=>.inl (ts,g1,g2,g3,g4,(ts.length:Int),(i:Int),())) 0 ts.length (AhY _) (by omega)
  (fun i j _ hij hj=>by
   have hm:(i+j)/2<ts.length:=by omega
   have hx:ts[(i+j)/2]? = some ts[(i+j)/2]:=by simp[hm]
   have hs:shr? .u64 (((i+j:Nat)):Int) (1:Int)=some (((i+j)/2:Nat):Int):=Wv (i+j) 1 (by omega)
   rw[Ka,AJ,Ae9 hij]
   simp only[]
   rw[show((i:Int)+(j:Int))=((i+j:Nat):Int) by omega,Aj (n:=((i+j:Nat):Int)) (by omega),AXh (i+j) (by omega)]
   simp only[hs,Aj (n:=(((i+j)/2:Nat):Int)) (by omega),Ai hx]
   have hc:=QC ts[(i+j)/2] (g1,g2,g3,g4,())
   have hc':DN (((ts[(i+j)/2]).1,((ts[(i+j)/2]).2.1,((ts[(i+j)/2]).2.2.1,((ts[(i+j)/2]).2.2.2.1,())))),(g1,(g2,(g3,(g4,())))),())=_:=hc
   simp only[hc',hx]
   by_cases ha:ahead ts[(i+j)/2] (g1,g2,g3,g4,())
   ·simp only[AfQ ha,Ae9 ha,Afb]
    rw[Al,Ae9 (by omega),AH (by omega)]
   ·simp only[AfM ha,Ae8 ha]
    rw[Al,Ae8 (by split<;>omega)]
    rfl)
  (fun i _ _=>by rw[Ka,AJ,Ae8 (by omega)])
  (fun x y _ hxy hy h=>by
   have hx':x<ts.length:=by omega
   have e1:ts[x]? = some ts[x]:=by simp[hx']
   have e2:ts[y]? = some ts[y]:=by simp[hy]
   simp only[e2,Af3]at h
   simp only[e1,Af3]
   exact hahead x y _ _ hxy e1 e2 h)
 refine⟨k,k2,fun j t hj => ?_,?_⟩
 ·have hjl:=(Afm.1 hj).1
  constructor
  ·intro h
   have:=k3 j (AhY _) h
   simpa [hj]using this
  ·intro h
   refine Afx fun hn => ?_
   have:=k4 j (by omega) hjl
   simp[hj]at this
   exact this h
 ·rw[AT2,AIk]
  have k5':AS Ka many (ts,g1,g2,g3,g4,AO ts,(0:Int),AO ts,())=_:=k5
  simp only[k5']
  by_cases hk:k<ts.length
  ·have hx:ts[k]? = some ts[k]:=by simp[hk]
   have hna:¬ ahead ts[k] (g1,g2,g3,g4,()):=by
    have:=k4 k (AfN _) hk
    simpa [hx]using this
   have hc:=QC ts[k] (g1,g2,g3,g4,())
   have hc':DN (((ts[k]).1,((ts[k]).2.1,((ts[k]).2.2.1,((ts[k]).2.2.2.1,())))),(g1,(g2,(g3,(g4,())))),())=_:=hc
   rw[AJ,Ae9 hk]
   simp only[Ai hx,hc',hx,AfM hna,Ao]
   by_cases he:(ts[k]).1=g1∧(ts[k]).2.1=g2
   ·simp only[AfQ he,Ae9 he,AfK]
   ·simp only[AfM he,Ae8 he]
    rfl
  ·have hx:ts[k]? = none:=Afz (by omega)
   rw[AJ,Ae8 hk]
   simp only[hx]
theorem AWA{N:Nat}{ts:List Tie}(h:RG2 N ts)(u v:Int):AML (((N:Int),(ts,())),u,v,())=some (if ts.any (CB u v)then((ts.findIdx (CB u v):Nat):Int)else -1,()):=by
 have hp:=((W4 N ts).1 h.oks).2
 obtain⟨k,k1,k2,k3⟩:=AbS h.ht hp (min u v,max u v,0,false,())
 rw[AMK,W8]
 simp only[h.lr,AfI,AD4,QA,Ie,XB]
 have k3':AXa (ts,(min u v,(max u v,((0:Int),(false,())))),())=_:=k3
 simp only[k3']
 cases hx:ts[k]? with
 |none=>
  have hall:ts.any (CB u v)=false:=by
   rw[List.any_eq_false]
   intro t ht hat
   obtain⟨j,hj,rfl⟩:=AgE ht
   have hj':ts[j]? = some ts[j]:=by simp[hj]
   have hjk:j<k:=by
    have:=List.getElem?_eq_none_iff.1 hx
    omega
   have ha:=(k2 j _ hj').1 hjk
   unfold CB at hat
   rw[Af3]at hat
   unfold ahead at ha
   simp only at ha
   omega
  rw[hall]
  rfl
 |some t=>
  by_cases he:t.1=min u v∧t.2.1=max u v
  ·have hk:=(Afm.1 hx)
   obtain⟨hkl,hke⟩:=hk
   have hat:CB u v t=true:=by unfold CB;rw[Af3];exact he
   have hany:ts.any (CB u v)=true:=Agk.2 ⟨t,AfS hx,hat⟩
   have hfi:ts.findIdx (CB u v)=k:=by
    rw[List.findIdx_eq hkl,hke]
    refine⟨hat,fun j hj => ?_⟩
    have hj':ts[j]? = some ts[j]:=by simp
    have ha:=(k2 j _ hj').1 hj
    unfold CB
    rw[Aft]
    unfold ahead at ha
    simp only at ha
    omega
   simp only[Ae9 he,AfI]
   rw[hany,hfi]
   rfl
  ·have hall:ts.any (CB u v)=false:=by
    rw[List.any_eq_false]
    intro t' ht' hat
    obtain⟨j,hj,rfl⟩:=AgE ht'
    have hj':ts[j]? = some ts[j]:=by simp[hj]
    unfold CB at hat
    rw[Af3]at hat
    obtain⟨hkl,hke⟩:=Afm.1 hx
    rcases Ahb j k with hjk|hjk|hjk
    ·have ha:=(k2 j _ hj').1 hjk
     unfold ahead at ha
     simp only at ha
     omega
    ·subst hjk
     rw[hke]at hat
     exact he hat
    ·have ha:=AgG.1 hp k j hkl hj hjk
     rw[hke]at ha
     have hna:¬ ahead t (min u v,max u v,0,false,()):=fun hh=>by
      have:=(k2 k t hx).2 hh
      omega
     unfold ahead at ha hna
     simp only at hna
     omega
   simp only[Ae8 he,Afc]
   rw[hall]
   rfl
end Go.Pev.Pl
end
section
namespace Go.Pev.Pl.SI
open Go.Sort
theorem Bw(x y:Int):Dw (x,y,())=some (ltInt x y,()):=by
 simp only[AMM,W9,W6,Sa,Al,Dr,ltInt]
 by_cases h:x<y<;>simp[h]
theorem Acy(a b i:Nat):∀ (j:Nat) (d:Array Int) (n:Nat),j<d.size→d.size<4611686018427387904→j<n →
  AQ NF n (d.toList,(a:Int),(b:Int),(i:Int),(j:Int),())=some (.inl ((insInner ltInt a j d).toList,(a:Int),(b:Int),(i:Int),())):=by
 intro j
 induction j with
 |zero=>
  intro d n hj hs hn
  obtain⟨n,rfl⟩:∃ k,n=k+1:=⟨n-1,by omega⟩
  have h0:ilt (a:Int) ((0:Nat):Int)=false:=by rw[AJ];simp
  simp only[AQ,NF,h0,insInner]
 |succ j ih=>
  intro d n hj hs hn
  obtain⟨n,rfl⟩:∃ k,n=k+1:=⟨n-1,by omega⟩
  have e1:IntKind.wrap .i64 (((j+1:Nat):Int)-1)=(j:Int):=by rw[Aj (by omega)];omega
  have hj':j<d.size:=by omega
  simp only[AQ,NF,AJ,e1,Ah hj,Ah hj',Aq hj,Aq hj',Bw,insInner,AhB]
  by_cases h1:a<j+1
  ·cases h2:ltInt d[j+1]! d[j]!
   ·simp only[h1,AfK,h2,AhO,AfO,AfP]
   ·simp only[h1,AfK,h2,Ah6,Afb,Cs]
    rw[Ah (by simpa using hj')]
    simp only[Cx]
    exact ih (swp d (j+1) j) n (by rw[size_swp];omega) (by rw[size_swp];omega) (by omega)
  ·simp only[h1,AfR,AgW,AfO,AfP]
theorem CS(lt:Int→Int→Bool)(a j:Nat)(d:Array Int):(insInner lt a j d).size=d.size:=by
 induction j generalizing d with
 |zero=>rfl
 |succ j ih=>
  rw[insInner]
  split
  ·rw[ih,size_swp]
  ·rfl
theorem AaP(a b:Nat):∀ (k i:Nat) (d:Array Int) (n:Nat),b-i=k→b≤d.size→d.size<4611686018427387904→d.size<many→k<n →
  AQ NG n (d.toList,(a:Int),(b:Int),(i:Int),())=some (.inl ((insOuter ltInt a b i d).toList,())):=by
 intro k
 induction k with
 |zero=>
  intro i d n hk hb hs hm hn
  obtain⟨n,rfl⟩:∃ k,n=k+1:=⟨n-1,by omega⟩
  have h0:¬ i<b:=by omega
  rw[insOuter]
  simp only[AQ,NG,AJ,h0,AfR,AfP]
 |succ k ih=>
  intro i d n hk hb hs hm hn
  obtain⟨n,rfl⟩:∃ k,n=k+1:=⟨n-1,by omega⟩
  have h0:i<b:=by omega
  have e1:IntKind.wrap .i64 ((i:Int)+1)=((i+1:Nat):Int):=by rw[Aj (by omega)];omega
  rw[insOuter]
  simp only[AQ,NG,AJ,h0,AfK,Afb,Ag]
  rw[Acy a b i i d many (by omega) hs (by omega)]
  simp only[e1]
  exact ih (i+1) _ n (by omega) (by rw[CS];omega) (by rw[CS];omega) (by rw[CS];omega) (by omega)
theorem AaO(d:Array Int)(a b:Nat)(hab:a≤b)(hb:b≤d.size)(hs:d.size<4294967296):AWN (d.toList,(a:Int),(b:Int),())=some ((insertionSort ltInt d a b).toList,()):=by
 have hm:d.size<many:=by simp only[many];omega
 have e1:IntKind.wrap .i64 ((a:Int)+1)=((a+1:Nat):Int):=by rw[Aj (by omega)];omega
 rw[ATi,AHV]
 simp only[e1,Ag]
 rw[AaP a b (b-(a+1)) (a+1) d many rfl hb (by omega) hm (by omega)]
 rfl
end Go.Pev.Pl.SI
end
section
namespace Go.Pev.Pl.SI
open Go.Sort
theorem AOe(hi first:Nat):∀ (k root:Nat) (d:Array Int) (n:Nat),hi-root=k→root≤hi→first+hi≤d.size→d.size<4294967296→(hi=0∨root<hi)→k<n →
  AQ JI n (d.toList,(hi:Int),(first:Int),(root:Int),())=some (.inl ((siftDown ltInt hi first root d).toList,())) ∨
  AQ JI n (d.toList,(hi:Int),(first:Int),(root:Int),())=some (.inr (.inl ((siftDown ltInt hi first root d).toList,()))):=by
 intro k
 induction k using Nat.strongRecOn with
 |_ k ih=>
 intro root d n hk hr hf hs hz hn
 obtain⟨n,rfl⟩:∃ k,n=k+1:=⟨n-1,by omega⟩
 rw[siftDown]
 simp (disch:=omega) only[AQ,JI,ADA,AH,wrap_add,Bx,AJ]
 by_cases h1:hi≤2*root+1
 ·simp only[h1,AfK,ge_iff_le,dite_true,true_or]
 ·have i0:first+root<d.size:=by omega
  have i1:first+(2*root+1)<d.size:=by omega
  simp only[h1,AfR,ge_iff_le,AfP,dite_false]
  simp (disch:=omega) only[Ah,Aq,Bw]
  by_cases h2:2*root+1+1<hi
  ·have i2:first+(2*root+2)<d.size:=by omega
   have i3:2*root+1+1=2*root+2:=by omega
   have i4:first+(2*root+1)+1=first+(2*root+2):=by omega
   have h3:2*root+2<hi:=by omega
   simp only[i3,i4,h3,AfK]
   simp (disch:=omega) only[Ah,Aq,Bw,Cs]
   cases h4:ltInt d[first+(2*root+1)]! d[first+(2*root+2)]!
   ·simp only[AhO,AfO,AfP]
    cases h5:ltInt d[first+root]! d[first+(2*root+1)]!
    ·simp
    ·simp only[AfI,AfO,AfP]
     rw[Ah (by simpa using i1)]
     simp only[Cx]
     exact ih (hi-(2*root+1)) (by omega) (2*root+1) _ n rfl (by omega) (by rw[size_swp];omega) (by rw[size_swp];omega) (by omega) (by omega)
   ·simp only[Ah6,Afb]
    cases h5:ltInt d[first+root]! d[first+(2*root+2)]!
    ·simp
    ·simp only[AfI,AfO,AfP,dite_true]
     rw[Ah (by simpa using i2)]
     simp only[Cx]
     exact ih (hi-(2*root+2)) (by omega) (2*root+2) _ n rfl (by omega) (by rw[size_swp];omega) (by rw[size_swp];omega) (by omega) (by omega)
  ·simp only[h2,AfR,AgW,AfO,AfP,Cs]
   cases h5:ltInt d[first+root]! d[first+(2*root+1)]!
   ·simp
   ·simp only[AfI,AfO,AfP]
    rw[Ah (by simpa using i1)]
    simp only[Cx]
    exact ih (hi-(2*root+1)) (by omega) (2*root+1) _ n rfl (by omega) (by rw[size_swp];omega) (by rw[size_swp];omega) (by omega) (by omega)
theorem ADU(d:Array Int)(root hi first:Nat)(hf:first+hi≤d.size)(hs:d.size<4294967296)(hz:hi=0∧root=0∨root<hi):ADV (d.toList,(root:Int),(hi:Int),(first:Int),())=some ((siftDown ltInt hi first root d).toList,()):=by
 have hm:d.size<many:=by simp only[many];omega
 rw[AJ1,Wt]
 simp only[Ag]
 rcases AOe hi first (hi-root) root d many rfl (by omega) hf hs (by omega) (by omega)with h|h<;>rw[h]
theorem BZ(lt:Int→Int→Bool)(hi first:Nat):∀ (k root:Nat) (d:Array Int),hi-root=k→(siftDown lt hi first root d).size=d.size:=by
 intro k
 induction k using Nat.strongRecOn with
 |_ k ih=>
 intro root d hk
 rw[siftDown]
 split
 ·rfl
 ·split
  ·split
   ·rfl
   ·split
    ·rw[ih (hi-(2*root+2)) (by omega) _ _ rfl,size_swp]
    ·rfl
  ·split
   ·rfl
   ·rw[ih (hi-(2*root+1)) (by omega) _ _ rfl,size_swp]
theorem AMk(hi first:Nat):∀ (k:Nat) (d:Array Int) (n:Nat),(hi=0∧k≤1∨k≤hi)→first+hi≤d.size→d.size<4294967296→k<n →
  AQ JY n (d.toList,(first:Int),(0:Int),(hi:Int),(k:Int)-1,())=some (.inl ((heapBuild ltInt hi first k d).toList,(first:Int),(0:Int),(hi:Int),())):=by
 intro k
 induction k with
 |zero=>
  intro d n hk hf hs hn
  obtain⟨n,rfl⟩:∃ k,n=k+1:=⟨n-1,by omega⟩
  rw[AQ,JY,Ap,Ae8 (by omega)]
  rfl
 |succ k ih=>
  intro d n hk hf hs hn
  obtain⟨n,rfl⟩:∃ k,n=k+1:=⟨n-1,by omega⟩
  have e0:((k+1:Nat):Int)-1=(k:Int):=by omega
  rw[AQ,JY,e0,Ap,Ae9 (by omega)]
  simp only[ADU d k hi first hf hs (by omega)]
  rw[Aj (by omega)]
  exact ih _ n (by omega) (by rw[BZ _ _ _ _ _ _ rfl];omega) (by rw[BZ _ _ _ _ _ _ rfl];omega) (by omega)
theorem DE(lt:Int→Int→Bool)(hi first:Nat):∀ (k:Nat) (d:Array Int),(heapBuild lt hi first k d).size=d.size:=by
 intro k
 induction k with
 |zero=>intro d;rfl
 |succ k ih=>intro d;rw[heapBuild,ih,BZ _ _ _ _ _ _ rfl]
theorem AWb(first:Nat):∀ (k:Nat) (d:Array Int) (n:Nat),first+k≤d.size→d.size<4294967296→k<n →
  AQ JX n (d.toList,(first:Int),(0:Int),(k:Int)-1,())=some (.inl ((heapPop ltInt first k d).toList,())):=by
 intro k
 induction k with
 |zero=>
  intro d n hf hs hn
  obtain⟨n,rfl⟩:∃ k,n=k+1:=⟨n-1,by omega⟩
  rw[AQ,JX,Ap,Ae8 (by omega)]
  rfl
 |succ k ih=>
  intro d n hf hs hn
  obtain⟨n,rfl⟩:∃ k,n=k+1:=⟨n-1,by omega⟩
  have e0:((k+1:Nat):Int)-1=(k:Int):=by omega
  have i0:first<d.size:=by omega
  have i1:first+k<d.size:=by omega
  rw[AQ,JX,e0,Ap,Ae9 (by omega)]
  simp (disch:=omega) only[wrap_add,Ah,Aq,Cs]
  rw[Ah (by simpa using i1)]
  simp only[Cx]
  have:=ADU (swp d first (first+k)) 0 k first (by rw[size_swp];omega) (by rw[size_swp];omega) (by omega)
  simp only[Int.natCast_zero]at this
  simp only[this]
  rw[Aj (by omega)]
  exact ih _ n (by rw[BZ _ _ _ _ _ _ rfl,size_swp];omega) (by rw[BZ _ _ _ _ _ _ rfl,size_swp];omega) (by omega)
theorem AWa(d:Array Int)(a b:Nat)(hab:a<b)(hb:b≤d.size)(hs:d.size<4294967296):AEI (d.toList,(a:Int),(b:Int),())=some ((heapSort ltInt d a b).toList,()):=by
 have hm:4294967296<many:=by simp only[many];omega
 rw[AMj,XC]
 simp (disch:=omega) only[Bc,An,Adk,Ag]
 have e:(((b-a-1)/2:Nat):Int)=(((b-a-1)/2+1:Nat):Int)-1:=by omega
 rw[e,AMk (b-a) a _ d many (by omega) (by omega) hs (by omega)]
 have e2:(((b-a-1:Nat)):Int)=((b-a:Nat):Int)-1:=by omega
 simp (disch:=omega) only[An,e2]
 rw[AWb a (b-a) _ many (by rw[DE];omega) (by rw[DE];omega) (by omega)]
 rfl
end Go.Pev.Pl.SI
end
section
namespace Go.Pev.Pl.SI
open Go.Sort
theorem AUx:∀ (k i j:Nat) (d:Array Int) (n:Nat),j-i=k→(j<d.size)→d.size<4294967296→k<n →
  AQ Pa n (d.toList,(i:Int),(j:Int),())=some (.inl ((reverseLoop i j d).toList,())):=by
 intro k
 induction k using Nat.strongRecOn with
 |_ k ih=>
 intro i j d n hk hj hs hn
 obtain⟨n,rfl⟩:∃ k,n=k+1:=⟨n-1,by omega⟩
 rw[reverseLoop,AQ,Pa]
 simp only[AJ]
 by_cases h:i<j
 ·have hi:i<d.size:=by omega
  simp only[h,AfK,Afb,Ah hj,Ah hi,Aq hi,Aq hj,Cs]
  rw[Ah (by simpa using hj)]
  simp (disch:=omega) only[Cx,AH,An]
  exact ih (j-1-(i+1)) (by omega) (i+1) (j-1) _ n rfl (by rw[size_swp];omega) (by rw[size_swp];omega) (by omega)
 ·simp only[h,AfR,AfP]
theorem AYg(d:Array Int)(a b:Nat)(hab:a<b)(hb:b≤d.size)(hs:d.size<4294967296):AUy (d.toList,(a:Int),(b:Int),())=some ((reverseRange d a b).toList,()):=by
 have hm:4294967296<many:=by simp only[many];omega
 rw[AS3,AFt]
 simp (disch:=omega) only[An,Ag]
 rw[AUx (b-1-a) a (b-1) d many rfl (by omega) hs (by omega)]
 rfl
theorem Dm{d:Array Int}{i j:Nat}(hi:i<d.size)(hj:j<d.size):idx (Am d.toList (AE (i:Int)) (AM d.toList (AE (j:Int)) 0)) (j:Int)=some (d.setIfInBounds i d[j]!)[j]! ∧
  Am (Am d.toList (AE (i:Int)) (AM d.toList (AE (j:Int)) 0)) (AE (j:Int)) (AM d.toList (AE (i:Int)) 0)=(swp d i j).toList:=by
 rw[Aq hi,Aq hj,Cs,Cs]
 exact⟨Ah (by simpa using hj),rfl⟩
theorem AFl(step:List Int×Int×Int×Int×Unit→Option ((List Int×Int×Int×Int×Unit)⊕(List Int×Int×Int×Int×Unit)⊕Unit))(p:Int→Bool)(d:Array Int)(a j:Nat)(hs:d.size<4294967296)(hj:j<d.size)
  (h:∀ i:Nat,i≤d.size→step (d.toList,(a:Int),(i:Int),(j:Int),())=if i≤j∧p d[i]! then some (.inl (d.toList,(a:Int),((i+1:Nat):Int),(j:Int),()))else some (.inr (.inl (d.toList,(a:Int),(i:Int),(j:Int),())))) :
  ∀ (k i n:Nat),j+1-i=k→i≤d.size→k<n→AQ step n (d.toList,(a:Int),(i:Int),(j:Int),())=some (.inl (d.toList,(a:Int),((scanUp p d j i:Nat):Int),(j:Int),())):=by
 intro k
 induction k using Nat.strongRecOn with
 |_ k ih=>
 intro i n hk hi hn
 obtain⟨n,rfl⟩:∃ k,n=k+1:=⟨n-1,by omega⟩
 rw[scanUp,AQ,h i hi]
 by_cases h1:i≤j∧p d[i]! = true
 ·rw[AfQ h1,AfQ (by simpa using h1)]
  exact ih (j+1-(i+1)) (by omega) (i+1) n rfl (by omega) (by omega)
 ·rw[AfM h1,AfM (by simpa using h1)]
theorem Rm(step:List Int×Int×Int×Int×Unit→Option ((List Int×Int×Int×Int×Unit)⊕(List Int×Int×Int×Int×Unit)⊕Unit))(p:Int→Bool)(d:Array Int)(a i:Nat)(hi:1≤i)
  (h:∀ j:Nat,j<d.size→step (d.toList,(a:Int),(i:Int),(j:Int),())=if i≤j∧p d[j]! then some (.inl (d.toList,(a:Int),(i:Int),((j-1:Nat):Int),()))else some (.inr (.inl (d.toList,(a:Int),(i:Int),(j:Int),())))) :
  ∀ (j n:Nat),j<d.size→j<n→AQ step n (d.toList,(a:Int),(i:Int),(j:Int),())=some (.inl (d.toList,(a:Int),(i:Int),((scanDown p d i j:Nat):Int),())):=by
 intro j
 induction j with
 |zero=>
  intro n hj hn
  obtain⟨n,rfl⟩:∃ k,n=k+1:=⟨n-1,by omega⟩
  rw[AQ,h 0 hj,AfM (by omega)]
  rfl
 |succ j ih=>
  intro n hj hn
  obtain⟨n,rfl⟩:∃ k,n=k+1:=⟨n-1,by omega⟩
  rw[scanDown,AQ,h (j+1) hj]
  by_cases h1:i≤j+1∧p d[j+1]! = true
  ·rw[AfQ h1,AfQ (by simpa using h1)]
   exact ih n (by omega) (by omega)
  ·rw[AfM h1,AfM (by simpa using h1)]
section
variable (d:Array Int) (a i j:Nat) (hs:d.size<4294967296) (ha:a<d.size) (hj:j<d.size)
include hs ha hj
theorem ALT(hi:i≤d.size):Lj (d.toList,(a:Int),(i:Int),(j:Int),())=if i≤j∧(fun x=>ltInt x d[a]!) d[i]! = true then some (.inl (d.toList,(a:Int),((i+1:Nat):Int),(j:Int),()))else some (.inr (.inl (d.toList,(a:Int),(i:Int),(j:Int),()))):=by
 rw[Lj]
 simp only[Bx]
 by_cases h:i≤j
 ·have hi':i<d.size:=by omega
  simp (disch:=omega) only[h,AfK,Ah,Aq,Bw,AH,Ags]
  cases ltInt d[i]! d[a]!<;>simp
 ·simp only[h,AfR,Agc,AfP]
theorem ALO(hi:i≤d.size):Lg (d.toList,(a:Int),(i:Int),(j:Int),())=if i≤j∧(fun x=>ltInt x d[a]!) d[i]! = true then some (.inl (d.toList,(a:Int),((i+1:Nat):Int),(j:Int),()))else some (.inr (.inl (d.toList,(a:Int),(i:Int),(j:Int),()))):=by
 rw[Lg]
 simp only[Bx]
 by_cases h:i≤j
 ·have hi':i<d.size:=by omega
  simp (disch:=omega) only[h,AfK,Ah,Aq,Bw,AH,Ags]
  cases ltInt d[i]! d[a]!<;>simp
 ·simp only[h,AfR,Agc,AfP]
theorem ALR(hi:1≤i):Li (d.toList,(a:Int),(i:Int),(j:Int),())=if i≤j∧(fun x => !ltInt x d[a]!) d[j]! = true then some (.inl (d.toList,(a:Int),(i:Int),((j-1:Nat):Int),()))else some (.inr (.inl (d.toList,(a:Int),(i:Int),(j:Int),()))):=by
 rw[Li]
 simp only[Bx]
 by_cases h:i≤j
 ·simp (disch:=omega) only[h,AfK,Ah,Aq,Bw,An,Ags]
  cases ltInt d[j]! d[a]!<;>simp
 ·simp only[h,AfR,Agc,AfP]
theorem ALM(hi:1≤i):Lf (d.toList,(a:Int),(i:Int),(j:Int),())=if i≤j∧(fun x => !ltInt x d[a]!) d[j]! = true then some (.inl (d.toList,(a:Int),(i:Int),((j-1:Nat):Int),()))else some (.inr (.inl (d.toList,(a:Int),(i:Int),(j:Int),()))):=by
 rw[Lf]
 simp only[Bx]
 by_cases h:i≤j
 ·simp (disch:=omega) only[h,AfK,Ah,Aq,Bw,An,Ags]
  cases ltInt d[j]! d[a]!<;>simp
 ·simp only[h,AfR,Agc,AfP]
theorem ACa(hi:i≤d.size):Hm (d.toList,(a:Int),(i:Int),(j:Int),())=if i≤j∧(fun x => !ltInt d[a]! x) d[i]! = true then some (.inl (d.toList,(a:Int),((i+1:Nat):Int),(j:Int),()))else some (.inr (.inl (d.toList,(a:Int),(i:Int),(j:Int),()))):=by
 rw[Hm]
 simp only[Bx]
 by_cases h:i≤j
 ·have hi':i<d.size:=by omega
  simp (disch:=omega) only[h,AfK,Ah,Aq,Bw,AH,Ags]
  cases ltInt d[a]! d[i]!<;>simp
 ·simp only[h,AfR,Agc,AfP]
theorem ACY(hi:1≤i):Hl (d.toList,(a:Int),(i:Int),(j:Int),())=if i≤j∧(fun x=>ltInt d[a]! x) d[j]! = true then some (.inl (d.toList,(a:Int),(i:Int),((j-1:Nat):Int),()))else some (.inr (.inl (d.toList,(a:Int),(i:Int),(j:Int),()))):=by
 rw[Hl]
 simp only[Bx]
 by_cases h:i≤j
 ·simp (disch:=omega) only[h,AfK,Ah,Aq,Bw,An,Ags]
  cases ltInt d[a]! d[j]!<;>simp
 ·simp only[h,AfR,Agc,AfP]
end
theorem DF(p:Int→Bool)(d:Array Int)(j i:Nat)(hj:j<d.size)(hi:i≤d.size):scanUp p d j i≤d.size:=by
 suffices h:∀ (k i:Nat),j+1-i=k→i≤d.size→scanUp p d j i≤d.size from h _ i rfl hi
 intro k
 induction k using Nat.strongRecOn with
 |_ k ih=>
 intro i hk hi
 rw[scanUp]
 split
 ·rename_i h
  have:i≤j:=by simp at h;exact h.1
  exact ih (j+1-(i+1)) (by omega) (i+1) rfl (by omega)
 ·exact hi
theorem APv(a:Nat):∀ (k i j:Nat) (d:Array Int) (n:Nat),j+1-i=k→a<d.size→1≤i→i≤d.size→j<d.size→d.size<4294967296→k<n →
  AQ Lh n (d.toList,(a:Int),(i:Int),(j:Int),())=some (.inl ((partLoop ltInt a i j d).2.toList,(a:Int),(((partLoop ltInt a i j d).1:Nat):Int),()))∧(partLoop ltInt a i j d).1≤j∧(partLoop ltInt a i j d).2.size=d.size:=by
 intro k
 induction k using Nat.strongRecOn with
 |_ k ih=>
 intro i j d n hk ha hi hi' hj hs hn
 have hm:4294967296<many:=by simp only[many];omega
 obtain⟨n,rfl⟩:∃ k,n=k+1:=⟨n-1,by omega⟩
 rw[partLoop_eq,AQ,Lh]
 have u1:=scanUp_ge (fun x=>ltInt x d[a]!) d j i
 have u2:=DF (fun x=>ltInt x d[a]!) d j i hj hi'
 rw[Ag,AFl _ (fun x=>ltInt x d[a]!) d a j hs hj (fun i h=>ALO d a i j hs ha hj h) _ i many rfl hi' (by omega)]
 generalize scanUp (fun x=>ltInt x d[a]!) d j i=i2 at *
 have v1:=scanDown_le (fun x => !ltInt x d[a]!) d i2 j
 simp only[Ag]
 rw[Rm _ (fun x => !ltInt x d[a]!) d a i2 (by omega) (fun j h=>ALM d a i2 j hs ha h (by omega)) j many hj (by omega)]
 generalize scanDown (fun x => !ltInt x d[a]!) d i2 j=j2 at *
 simp only[AJ]
 by_cases h:j2<i2
 ·simp only[h,AfK,AhB,Afb]
  exact⟨trivial,v1,trivial⟩
 ·have hi2:i2<d.size:=by omega
  have hj2:j2<d.size:=by omega
  simp only[h,AfR,AhB,AfP,Ah hi2,Ah hj2,(Dm hi2 hj2).1,(Dm hi2 hj2).2]
  simp (disch:=omega) only[AH,An]
  obtain⟨q1,q2,q3⟩:=ih (j2-1+1-(i2+1)) (by omega) (i2+1) (j2-1) (swp d i2 j2) n rfl (by rw[size_swp];omega) (by omega) (by rw[size_swp];omega) (by rw[size_swp];omega) (by rw[size_swp];omega) (by omega)
  exact⟨q1,by omega,by rw[q3,size_swp]⟩
theorem AVR(d:Array Int)(a b p:Nat)(ha:a≤p)(hp:p<b)(hb:b≤d.size)(hs:d.size<4294967296):
  Pt (d.toList,(a:Int),(b:Int),(p:Int),())=some ((partition ltInt d a b p).2.2.toList,(((partition ltInt d a b p).1:Nat):Int),(partition ltInt d a b p).2.1,()):=by
 have hm:4294967296<many:=by simp only[many];omega
 have ha':a<d.size:=by omega
 have hp':p<d.size:=by omega
 rw[ALe,W1,partition]
 simp only[Ah ha',Ah hp',(Dm ha' hp').1,(Dm ha' hp').2]
 have hs':=hs
 rw[← size_swp d a p]at ha' hs' hb
 generalize swp d a p=d at *
 simp (disch:=omega) only[AH,An,Ag]
 have u1:=scanUp_ge (fun x=>ltInt x d[a]!) d (b-1) (a+1)
 have u2:=DF (fun x=>ltInt x d[a]!) d (b-1) (a+1) (by omega) (by omega)
 rw[AFl _ (fun x=>ltInt x d[a]!) d a (b-1) hs' (by omega) (fun i h=>ALT d a i (b-1) hs' ha' (by omega) h) _ (a+1) many rfl (by omega) (by omega)]
 generalize scanUp (fun x=>ltInt x d[a]!) d (b-1) (a+1)=i2 at *
 have v1:=scanDown_le (fun x => !ltInt x d[a]!) d i2 (b-1)
 simp only[]
 rw[Rm _ (fun x => !ltInt x d[a]!) d a i2 (by omega) (fun j h=>ALR d a i2 j hs' ha' h (by omega)) (b-1) many (by omega) (by omega)]
 generalize scanDown (fun x => !ltInt x d[a]!) d i2 (b-1)=j2 at *
 simp only[AJ]
 have hj2:j2<d.size:=by omega
 by_cases h:j2<i2
 ·simp only[h,AfK,AhB,Afb,Ah ha',Ah hj2,(Dm hj2 ha').1,(Dm hj2 ha').2]
 ·have hi2:i2<d.size:=by omega
  simp only[h,AfR,AhB,AfP,Ah hi2,Ah hj2,(Dm hi2 hj2).1,(Dm hi2 hj2).2]
  simp (disch:=omega) only[AH,An]
  obtain⟨q1,q2,q3⟩:=APv a (j2-1+1-(i2+1)) (i2+1) (j2-1) (swp d i2 j2) many rfl (by rw[size_swp];omega) (by omega) (by rw[size_swp];omega) (by rw[size_swp];omega) (by rw[size_swp];omega) (by omega)
  simp only[q1]
  rw[size_swp]at q3
  generalize partLoop ltInt a (i2+1) (j2-1) (swp d i2 j2)=r at *
  have h1:r.1<r.2.size:=by omega
  have h2:a<r.2.size:=by omega
  simp only[Ah h1,Ah h2,(Dm h1 h2).1,(Dm h1 h2).2]
theorem AGh(a:Nat):∀ (k i j:Nat) (d:Array Int) (n:Nat),j+1-i=k→a<d.size→1≤i→i≤d.size→j<d.size→d.size<4294967296→k<n →
  AQ Hn n (d.toList,(a:Int),(i:Int),(j:Int),())=some (.inl ((partEqLoop ltInt a i j d).2.toList,(((partEqLoop ltInt a i j d).1:Nat):Int),())):=by
 intro k
 induction k using Nat.strongRecOn with
 |_ k ih=>
 intro i j d n hk ha hi hi' hj hs hn
 have hm:4294967296<many:=by simp only[many];omega
 obtain⟨n,rfl⟩:∃ k,n=k+1:=⟨n-1,by omega⟩
 rw[partEqLoop_eq,AQ,Hn]
 have u1:=scanUp_ge (fun x => !ltInt d[a]! x) d j i
 have u2:=DF (fun x => !ltInt d[a]! x) d j i hj hi'
 rw[Ag,AFl _ (fun x => !ltInt d[a]! x) d a j hs hj (fun i h=>ACa d a i j hs ha hj h) _ i many rfl hi' (by omega)]
 generalize scanUp (fun x => !ltInt d[a]! x) d j i=i2 at *
 have v1:=scanDown_le (fun x=>ltInt d[a]! x) d i2 j
 simp only[Ag]
 rw[Rm _ (fun x=>ltInt d[a]! x) d a i2 (by omega) (fun j h=>ACY d a i2 j hs ha h (by omega)) j many hj (by omega)]
 generalize scanDown (fun x=>ltInt d[a]! x) d i2 j=j2 at *
 simp only[AJ]
 by_cases h:j2<i2
 ·simp only[h,AfK,AhB,Afb]
 ·have hi2:i2<d.size:=by omega
  have hj2:j2<d.size:=by omega
  simp only[h,AfR,AhB,AfP,Ah hi2,Ah hj2,(Dm hi2 hj2).1,(Dm hi2 hj2).2]
  simp (disch:=omega) only[AH,An]
  exact ih (j2-1+1-(i2+1)) (by omega) (i2+1) (j2-1) (swp d i2 j2) n rfl (by rw[size_swp];omega) (by omega) (by rw[size_swp];omega) (by rw[size_swp];omega) (by rw[size_swp];omega) (by omega)
theorem ALk(d:Array Int)(a b p:Nat)(ha:a≤p)(hp:p<b)(hb:b≤d.size)(hs:d.size<4294967296):
  Mv (d.toList,(a:Int),(b:Int),(p:Int),())=some ((partitionEqual ltInt d a b p).2.toList,(((partitionEqual ltInt d a b p).1:Nat):Int),()):=by
 have hm:4294967296<many:=by simp only[many];omega
 have ha':a<d.size:=by omega
 have hp':p<d.size:=by omega
 rw[ZZ,Mu,partitionEqual]
 simp only[Ah ha',Ah hp',(Dm ha' hp').1,(Dm ha' hp').2]
 have hs':=hs
 rw[← size_swp d a p]at ha' hs' hb
 generalize swp d a p=d at *
 simp (disch:=omega) only[AH,An,Ag]
 rw[AGh a _ (a+1) (b-1) d many rfl ha' (by omega) (by omega) (by omega) hs' (by omega)]
end Go.Pev.Pl.SI
end
section
namespace Go.Pev.Pl.SI
open Go.Sort
theorem Ek(d:Array Int)(b:Nat):∀ (k i:Nat),b-i=k→i≤b→i≤scanSorted ltInt d b i∧scanSorted ltInt d b i≤b:=by
 intro k
 induction k using Nat.strongRecOn with
 |_ k ih=>
 intro i hk hi
 rw[scanSorted]
 split
 ·rename_i h
  have:i<b:=by simp at h;exact h.1
  have:=ih (b-(i+1)) (by omega) (i+1) rfl (by omega)
  omega
 ·omega
theorem ACO(d:Array Int)(a b s:Nat)(hb:b≤d.size)(hs:d.size<4294967296):∀ (k i n:Nat),b-i=k→1≤i→i≤b→k<n →
  AQ GO n (d.toList,(a:Int),(b:Int),(i:Int),(s:Int),())=some (.inl (d.toList,(a:Int),(b:Int),((scanSorted ltInt d b i:Nat):Int),(s:Int),())):=by
 intro k
 induction k using Nat.strongRecOn with
 |_ k ih=>
 intro i n hk h1 hi hn
 obtain⟨n,rfl⟩:∃ k,n=k+1:=⟨n-1,by omega⟩
 rw[scanSorted,AQ,GO]
 simp only[AJ]
 by_cases h:i<b
 ·have i0:i<d.size:=by omega
  have i1:i-1<d.size:=by omega
  simp (disch:=omega) only[h,AfK,An,AH,Ah,Aq,Bw,AhV]
  cases h2:ltInt d[i]! d[i-1]!
  ·simp only[Afc,Afb]
   exact ih (b-(i+1)) (by omega) (i+1) n rfl (by omega) (by omega) (by omega)
  ·simp only[AfI,AfO,AfP]
 ·simp only[h,AfR,AgW,AfO,AfP]
theorem ACQ(a b i s:Nat):∀ (j:Nat) (d:Array Int) (n:Nat),j<d.size→d.size<4294967296→j<n →
  AQ EY n (d.toList,(a:Int),(b:Int),(i:Int),(s:Int),(j:Int),())=some (.inl ((shiftDown ltInt j d).toList,(a:Int),(b:Int),(i:Int),(s:Int),())):=by
 intro j
 induction j with
 |zero=>
  intro d n hj hs hn
  obtain⟨n,rfl⟩:∃ k,n=k+1:=⟨n-1,by omega⟩
  rw[AQ,EY,Ap,Ae8 (by omega)]
  rfl
 |succ j ih=>
  intro d n hj hs hn
  obtain⟨n,rfl⟩:∃ k,n=k+1:=⟨n-1,by omega⟩
  have hj':j<d.size:=by omega
  rw[shiftDown,AQ,EY,Ap,Ae9 (by omega)]
  simp (disch:=omega) only[An,Nat.add_sub_cancel,Ah,Aq,Bw]
  cases h2:ltInt d[j+1]! d[j]!
  ·simp only[Afc,Afb]
  ·have e1:=Dm hj hj'
   simp only[Aq hj,Aq hj']at e1
   simp only[AfI,AfO,AfP,e1]
   exact ih _ n (by rw[size_swp];omega) (by rw[size_swp];omega) (by omega)
theorem US(a b i s:Nat):∀ (k j:Nat) (d:Array Int) (n:Nat),b-j=k→1≤j→b≤d.size→d.size<4294967296→k<n →
  AQ EX n (d.toList,(a:Int),(b:Int),(i:Int),(s:Int),(j:Int),())=some (.inl ((shiftUp ltInt b j d).toList,(a:Int),(b:Int),(i:Int),(s:Int),())):=by
 intro k
 induction k using Nat.strongRecOn with
 |_ k ih=>
 intro j d n hk h1 hb hs hn
 obtain⟨n,rfl⟩:∃ k,n=k+1:=⟨n-1,by omega⟩
 rw[shiftUp,AQ,EX]
 simp only[AJ]
 by_cases h:j<b
 ·have i0:j<d.size:=by omega
  have i1:j-1<d.size:=by omega
  simp (disch:=omega) only[h,AfK,Afb,An,AH,Ah,Aq,Bw]
  cases h2:ltInt d[j]! d[j-1]!
  ·simp only[Afc,Afb]
  ·have e1:=Dm i0 i1
   simp only[Aq i0,Aq i1]at e1
   simp only[AfI,AfO,AfP,e1]
   exact ih (b-(j+1)) (by omega) (j+1) _ n rfl (by omega) (by rw[size_swp];omega) (by rw[size_swp];omega) (by omega)
 ·simp only[h,AfR,AfP]
theorem Ha:∀ (j:Nat) (d:Array Int),(shiftDown ltInt j d).size=d.size:=by
 intro j
 induction j with
 |zero=>intro d;rfl
 |succ j ih=>
  intro d
  rw[shiftDown]
  split
  ·rfl
  ·rw[ih,size_swp]
theorem B7(b:Nat):∀ (k j:Nat) (d:Array Int),b-j=k→(shiftUp ltInt b j d).size=d.size:=by
 intro k
 induction k using Nat.strongRecOn with
 |_ k ih=>
 intro j d hk
 rw[shiftUp]
 split
 ·split
  ·rfl
  ·rw[ih (b-(j+1)) (by omega) (j+1) _ rfl,size_swp]
 ·rfl
theorem ACP(a b:Nat)(hab:a<b):∀ (k i s:Nat) (d:Array Int) (n:Nat),s+k=5→a+1≤i→i≤b→b≤d.size→d.size<4294967296→k<n →
  AQ CL n (d.toList,(a:Int),(b:Int),(i:Int),(s:Int),())=some (.inl ((partialIns ltInt a b k i d).1.toList,(partialIns ltInt a b k i d).2,())) ∨
  ((partialIns ltInt a b k i d).2=false∧AQ CL n (d.toList,(a:Int),(b:Int),(i:Int),(s:Int),())=some (.inr (.inl ((partialIns ltInt a b k i d).1.toList,())))):=by
 intro k
 induction k with
 |zero=>
  intro i s d n hk h1 hi hb hs hn
  obtain⟨n,rfl⟩:∃ k,n=k+1:=⟨n-1,by omega⟩
  rw[AQ,CL,Al,Ae8 (by omega)]
  exact .inr ⟨rfl,rfl⟩
 |succ k ih=>
  intro i s d n hk h1 hi hb hs hn
  have hm:4294967296<many:=by simp only[many];omega
  have es:IntKind.wrap .i64 ((s:Int)+1)=((s+1:Nat):Int):=AH (by omega)
  obtain⟨n,rfl⟩:∃ k,n=k+1:=⟨n-1,by omega⟩
  rw[AQ,CL,Al,Ae9 (by omega),partialIns]
  simp only[Ag,ACO d a b s hb hs (b-i) i many rfl (by omega) hi (by omega)]
  have hsc:=Ek d b _ i rfl hi
  generalize scanSorted ltInt d b i=i2 at *
  simp only[QM]
  by_cases h2:i2=b
  ·simp only[h2,AfK,Afb,true_or]
  ·simp (disch:=omega) only[h2,AfR,AfP,Bc,Al,Ap]
   by_cases h3:b-a<50
   ·rw[AfQ h3,Ae9 (by omega)]
    exact .inl rfl
   ·have i0:i2<d.size:=by omega
    have i1:i2-1<d.size:=by omega
    rw[AfM h3,Ae8 (by omega)]
    simp (disch:=omega) only[An,AH,Ah i0,Ah i1,(Dm i0 i1).1,(Dm i0 i1).2]
    have hsz:=size_swp d i2 (i2-1)
    generalize swp d i2 (i2-1)=d2 at *
    by_cases h4:i2-a≥2
    ·rw[AfQ h4,Ae9 (show(2:Int)≤((i2-a:Nat):Int) by omega)]
     simp only[ACQ a b i2 s (i2-1) d2 many (by omega) (by omega) (by omega)]
     have hsz2:=Ha (i2-1) d2
     generalize shiftDown ltInt (i2-1) d2=d3 at *
     simp (disch:=omega) only[Bc,AH]
     by_cases h5:b-i2≥2
     ·rw[AfQ h5,Ae9 (show(2:Int)≤((b-i2:Nat):Int) by omega)]
      simp only[US a b i2 s _ (i2+1) d3 many rfl (by omega) (by omega) (by omega) (by omega)]
      simp only[es]
      exact ih i2 (s+1) (shiftUp ltInt b (i2+1) d3) n (by omega) (by omega) (by omega) (by rw[B7 b (b-(i2+1)) (i2+1) _ rfl];omega) (by rw[B7 b (b-(i2+1)) (i2+1) _ rfl];omega) (by omega)
     ·rw[AfM h5,Ae8 (show ¬ (2:Int)≤((b-i2:Nat):Int) by omega)]
      simp only[es]
      exact ih i2 (s+1) d3 n (by omega) (by omega) (by omega) (by omega) (by omega) (by omega)
    ·rw[AfM h4,Ae8 (show ¬ (2:Int)≤((i2-a:Nat):Int) by omega)]
     by_cases h5:b-i2≥2
     ·rw[AfQ h5,Ae9 (show(2:Int)≤((b-i2:Nat):Int) by omega)]
      simp only[US a b i2 s _ (i2+1) d2 many rfl (by omega) (by omega) (by omega) (by omega)]
      simp only[es]
      exact ih i2 (s+1) (shiftUp ltInt b (i2+1) d2) n (by omega) (by omega) (by omega) (by rw[B7 b (b-(i2+1)) (i2+1) _ rfl];omega) (by rw[B7 b (b-(i2+1)) (i2+1) _ rfl];omega) (by omega)
     ·rw[AfM h5,Ae8 (show ¬ (2:Int)≤((b-i2:Nat):Int) by omega)]
      simp only[es]
      exact ih i2 (s+1) d2 n (by omega) (by omega) (by omega) (by omega) (by omega) (by omega)
theorem AGY(d:Array Int)(a b:Nat)(hab:a<b)(hb:b≤d.size)(hs:d.size<4294967296):
  JO (d.toList,(a:Int),(b:Int),())=some ((partialInsertionSort ltInt d a b).1.toList,(partialInsertionSort ltInt d a b).2,()):=by
 have hm:4294967296<many:=by simp only[many];omega
 rw[VC,J1,partialInsertionSort]
 simp (disch:=omega) only[AH,Ag]
 have h:=ACP a b hab 5 (a+1) 0 d many rfl (AfN _) (by omega) hb hs (by omega)
 rcases h with h|⟨h0,h⟩
 ·have h':AQ CL many (d.toList,(a:Int),(b:Int),((a+1:Nat):Int),(0:Int),())=_:=h
  rw[h']
 ·have h':AQ CL many (d.toList,(a:Int),(b:Int),((a+1:Nat):Int),(0:Int),())=_:=h
  rw[h',h0]
theorem Ll(d:Array Int)(a b:Nat)(s:Int)(ha:a<d.size)(hb:b<d.size):
  ∃ s' p q,J6 (d.toList,(a:Int),(b:Int),s,())=some (d.toList,s',((p:Nat):Int),((q:Nat):Int),())∧(p=a∧q=b∨p=b∧q=a):=by
 rw[Zb,Mx]
 simp only[Ah ha,Ah hb,Aq ha,Aq hb,Bw]
 cases ltInt d[b]! d[a]!
 ·exact⟨_,a,b,rfl,.inl ⟨rfl,rfl⟩⟩
 ·exact⟨_,b,a,rfl,.inr ⟨rfl,rfl⟩⟩
theorem Lr(d:Array Int)(a b c:Nat)(s:Int)(ha:a<d.size)(hb:b<d.size)(hc:c<d.size):
  ∃ s' p,KD (d.toList,(a:Int),(b:Int),(c:Int),s,())=some (d.toList,s',((p:Nat):Int),())∧(p=a∨p=b∨p=c):=by
 rw[Zk,M5]
 obtain⟨s1,p1,q1,e1,h1⟩:=Ll d a b s ha hb
 simp only[e1]
 obtain⟨s2,p2,q2,e2,h2⟩:=Ll d q1 c s1 (by omega) hc
 simp only[e2]
 obtain⟨s3,p3,q3,e3,h3⟩:=Ll d p1 p2 s2 (by omega) (by omega)
 simp only[e3]
 exact⟨_,q3,rfl,by omega⟩
theorem Lt(d:Array Int)(a:Nat)(s:Int)(h1:1≤a)(ha:a+1<d.size)(hs:d.size<4294967296):
  ∃ s' p,KE (d.toList,(a:Int),s,())=some (d.toList,s',((p:Nat):Int),())∧a≤p+1∧p≤a+1:=by
 rw[Zl,M8]
 simp (disch:=omega) only[An,AH]
 obtain⟨s1,p1,e1,h1⟩:=Lr d (a-1) a (a+1) s (by omega) (by omega) ha
 simp only[e1]
 exact⟨_,p1,rfl,by omega⟩
theorem APb(d:Array Int)(a b:Nat)(hab:a+8≤b)(hb:b≤d.size)(hs:d.size<4294967296):
  ∃ p h,R8 (d.toList,(a:Int),(b:Int),())=some (d.toList,((p:Nat):Int),h,())∧a≤p∧p<b:=by
 rw[ADs,Pm]
 simp (disch:=omega) only[Bc,T9,AC9,EP,AC8,wrap_add,Ap]
 rw[Ae9 (show(8:Int)≤((b-a:Nat):Int) by omega)]
 simp only[]
 by_cases h:50≤b-a
 ·rw[Ae9 (show(50:Int)≤((b-a:Nat):Int) by omega)]
  simp only[]
  obtain⟨s1,p1,e1,h1⟩:=Lt d (a+(b-a)/4*1) 0 (by omega) (by omega) hs
  simp only[e1]
  obtain⟨s2,p2,e2,h2⟩:=Lt d (a+(b-a)/4*2) s1 (by omega) (by omega) hs
  simp only[e2]
  obtain⟨s3,p3,e3,h3⟩:=Lt d (a+(b-a)/4*3) s2 (by omega) (by omega) hs
  simp only[e3]
  obtain⟨s4,p4,e4,h4⟩:=Lr d p1 p2 p3 s3 (by omega) (by omega) (by omega)
  simp only[e4]
  cases ieq s4 0
  ·cases ieq s4 12
   ·exact⟨p4,_,rfl,by omega,by omega⟩
   ·exact⟨p4,_,rfl,by omega,by omega⟩
  ·exact⟨p4,_,rfl,by omega,by omega⟩
 ·rw[Ae8 (show ¬ (50:Int)≤((b-a:Nat):Int) by omega)]
  simp only[]
  obtain⟨s4,p4,e4,h4⟩:=Lr d (a+(b-a)/4*1) (a+(b-a)/4*2) (a+(b-a)/4*3) 0 (by omega) (by omega) (by omega)
  simp only[e4]
  cases ieq s4 0
  ·cases ieq s4 12
   ·exact⟨p4,_,rfl,by omega,by omega⟩
   ·exact⟨p4,_,rfl,by omega,by omega⟩
  ·exact⟨p4,_,rfl,by omega,by omega⟩
end Go.Pev.Pl.SI
end
section
namespace Go.Pev.Pl.SI
open Go.Sort
theorem ANo(a b:Nat)(m:Nat)(h8:a+8≤b)(hm1:1≤m)(hm:m≤2*(b-a)):∀ (k t:Nat) (d:Array Int) (r:Int) (n:Nat),t+k=3→b≤d.size→d.size<4294967296→k<n →
  ∃ d':Array Int,AQ Fw n (d.toList,(a:Int),((b-a:Nat):Int),r,(m:Int),((a+(b-a)/4*2-1+t:Nat):Int),())=some (.inl (d'.toList,()))∧PermIn a b d d':=by
 intro k
 induction k with
 |zero=>
  intro t d r n hk hb hs hn
  obtain⟨n,rfl⟩:∃ k,n=k+1:=⟨n-1,by omega⟩
  rw[AQ,Fw]
  simp (disch:=omega) only[T9,EP,wrap_add,AH,Bx]
  rw[Ae8 (by omega)]
  exact⟨d,rfl,permIn_refl d a b⟩
 |succ k ih=>
  intro t d r n hk hb hs hn
  obtain⟨n,rfl⟩:∃ k,n=k+1:=⟨n-1,by omega⟩
  rw[AQ,Fw]
  simp (disch:=omega) only[T9,EP,wrap_add,AH,Bx]
  rw[Ae9 (show a+(b-a)/4*2-1+t≤a+(b-a)/4*2+1 by omega)]
  obtain⟨r',y,e⟩:=T2 r
  obtain⟨o,e2,ho⟩:=ALn y m hm1 (by omega)
  simp only[e,e2]
  rw[Aj (n:=(o:Int)) (by omega)]
  simp only[Bx]
  have i0:a+(b-a)/4*2-1+t<d.size:=by omega
  have fin:∀ q:Nat,a≤q→q<b→∃ d':Array Int,AQ Fw n ((swp d (a+(b-a)/4*2-1+t) q).toList,(a:Int),((b-a:Nat):Int),r',(m:Int),((a+(b-a)/4*2-1+t+1:Nat):Int),())=some (.inl (d'.toList,()))∧PermIn a b d d':=by
   intro q hq1 hq2
   obtain⟨d',e',hp⟩:=ih (t+1) (swp d (a+(b-a)/4*2-1+t) q) r' n (by omega) (by rw[size_swp];omega) (by rw[size_swp];omega) (by omega)
   exact⟨d',e',permIn_trans _ _ _ a b (swp_permIn d a b _ q (by omega) (by omega) hq1 hq2 hb) hp⟩
  by_cases h:b-a≤o
  ·have i1:a+(o-(b-a))<d.size:=by omega
   simp (disch:=omega) only[h,AfK,Bc,wrap_add,AH,Ah i0,Ah i1,(Dm i0 i1).1,(Dm i0 i1).2]
   exact fin _ (by omega) (by omega)
  ·have i1:a+o<d.size:=by omega
   simp (disch:=omega) only[h,AfR,Bc,wrap_add,AH,Ah i0,Ah i1,(Dm i0 i1).1,(Dm i0 i1).2]
   exact fin _ (by omega) (by omega)
theorem ASL(d:Array Int)(a b:Nat)(hab:a≤b)(hb:b≤d.size)(hs:d.size<4294967296):
  ∃ d':Array Int,TX (d.toList,(a:Int),(b:Int),())=some (d'.toList,())∧PermIn a b d d':=by
 have hm:4294967296<many:=by simp only[many];omega
 rw[AEe,Qu]
 simp (disch:=omega) only[Bc,Ap]
 by_cases h:8≤b-a
 ·rw[Ae9 (show(8:Int)≤((b-a:Nat):Int) by omega)]
  obtain⟨m,e,h1,h2⟩:=VF (b-a) (by omega) (by omega)
  simp only[e]
  rw[u64_in (n:=((b-a:Nat):Int)) (by omega)]
  simp (disch:=omega) only[T9,EP,wrap_add,An,Ag]
  obtain⟨d',e2,hp⟩:=ANo a b m (by omega) h1 h2 3 0 d ((b-a:Nat):Int) many rfl hb hs (by omega)
  rw[Agf]at e2
  simp only[e2]
  exact⟨d',rfl,hp⟩
 ·rw[Ae8 (show ¬ (8:Int)≤((b-a:Nat):Int) by omega)]
  exact⟨d,rfl,permIn_refl d a b⟩
end Go.Pev.Pl.SI
end
section
namespace Go.Pev.Pl.SI
open Go.Sort
abbrev AT5:=List Int×Int×Int×Int×Bool×Bool×Unit
abbrev G9:=AT5⊕(List Int×Unit)⊕Unit
noncomputable section
def Ms(self:(List Int×Int×Int×Int×Unit)→Option ((List Int×Unit)))(y7:List Int)(a1 a2 p l:Int)(a4 a5:Bool):Option G9:=
 match(ilt (0:Int) a1)with
 |true=>match idx y7 (IntKind.wrap .i64 (a1-(1:Int)))with
  |none=>none
  |some x9=>match idx y7 p with
   |none=>none
   |some x10=>match Dw ((AM y7 (AE (IntKind.wrap .i64 (a1-(1:Int)))) (0:Int)),(AM y7 (AE p) (0:Int)),())with
    |none=>none
    |some (y11,_)=>match(!y11)with
     |true=>match Mv (y7,a1,a2,p,())with
      |none=>none
      |some (y12,y13,_)=>some (.inl (y12,y13,a2,l,a4,a5,()))
     |false=>match Pt (y7,a1,a2,p,())with
      |none=>none
      |some (y14,y15,y16,_)=>match quo? .i64 (IntKind.wrap .i64 (a2-a1)) (8:Int)with
       |none=>none
       |some x17=>match(ilt (IntKind.wrap .i64 (y15-a1)) (IntKind.wrap .i64 (a2-y15)))with
        |true=>match self (y14,a1,y15,l,())with
         |none=>none
         |some (y18,_)=>some (.inl (y18,(IntKind.wrap .i64 (y15+(1:Int))),a2,l,(ile x17 (IntKind.wrap .i64 (y15-a1))),y16,()))
        |false=>match self (y14,(IntKind.wrap .i64 (y15+(1:Int))),a2,l,())with
         |none=>none
         |some (y19,_)=>some (.inl (y19,a1,y15,l,(ile x17 (IntKind.wrap .i64 (a2-y15))),y16,()))
 |false=>match Pt (y7,a1,a2,p,())with
  |none=>none
  |some (y20,y21,y22,_)=>match quo? .i64 (IntKind.wrap .i64 (a2-a1)) (8:Int)with
   |none=>none
   |some x23=>match(ilt (IntKind.wrap .i64 (y21-a1)) (IntKind.wrap .i64 (a2-y21)))with
    |true=>match self (y20,a1,y21,l,())with
     |none=>none
     |some (y24,_)=>some (.inl (y24,(IntKind.wrap .i64 (y21+(1:Int))),a2,l,(ile x23 (IntKind.wrap .i64 (y21-a1))),y22,()))
    |false=>match self (y20,(IntKind.wrap .i64 (y21+(1:Int))),a2,l,())with
     |none=>none
     |some (y25,_)=>some (.inl (y25,a1,y21,l,(ile x23 (IntKind.wrap .i64 (a2-y21))),y22,()))
def AGT(self:(List Int×Int×Int×Int×Unit)→Option ((List Int×Unit)))(y6:List Int)(a1 a2 p h l:Int)(a4 a5:Bool):Option G9:=
 match a4 with
 |true=>match a5 with
  |true=>match(ieq h (1:Int))with
   |true=>match JO (y6,a1,a2,())with
    |none=>none
    |some (y7,y8,_)=>match y8 with
     |true=>some (.inr (.inl (y7,())))
     |false=>Ms self y7 a1 a2 p l a4 a5
   |false=>Ms self y6 a1 a2 p l a4 a5
  |false=>Ms self y6 a1 a2 p l a4 a5
 |false=>Ms self y6 a1 a2 p l a4 a5
def AGL(self:(List Int×Int×Int×Int×Unit)→Option ((List Int×Unit)))(y2:List Int)(a1 a2 l:Int)(a4 a5:Bool):Option G9:=
 match R8 (y2,a1,a2,())with
 |none=>none
 |some (y3,y4,y5,_)=>match(ieq y5 (2:Int))with
  |true=>match AUy (y3,a1,a2,())with
   |none=>none
   |some (y6,_)=>AGT self y6 a1 a2 (IntKind.wrap .i64 ((IntKind.wrap .i64 (a2-(1:Int)))-(IntKind.wrap .i64 (y4-a1)))) 1 l a4 a5
  |false=>AGT self y3 a1 a2 y4 y5 l a4 a5
def AKi(self:(List Int×Int×Int×Int×Unit)→Option ((List Int×Unit))):AT5→Option G9:=fun(a0,a1,a2,a3,a4,a5,_)=>
 match(ile (IntKind.wrap .i64 (a2-a1)) (12:Int))with
 |true=>match AWN (a0,a1,a2,())with
  |none=>none
  |some (y0,_)=>some (.inr (.inl (y0,())))
 |false=>match(ieq a3 (0:Int))with
  |true=>match AEI (a0,a1,a2,())with
   |none=>none
   |some (y1,_)=>some (.inr (.inl (y1,())))
  |false=>match(!a4)with
   |true=>match TX (a0,a1,a2,())with
    |none=>none
    |some (y2,_)=>AGL self y2 a1 a2 (IntKind.wrap .i64 (a3-(1:Int))) a4 a5
   |false=>AGL self a0 a1 a2 a3 a4 a5
theorem ACK:Mt=AKi:=rfl
end
def IM(d:Array Int)(a b:Nat):G9→Prop
 |.inl (xs,x,y,l,_,_,_)=>∃ (e:Array Int) (i j:Nat),xs=e.toList∧x=(i:Int)∧y=(j:Int)∧0≤l∧l≤100∧i≤j∧j≤e.size∧e.size=d.size∧j-i<b-a∧Below ltInt i j e ∧
   ∀ R,PermIn i j e R→SortedIn ltInt i j R→PermIn a b d R∧SortedIn ltInt a b R
 |.inr (.inl (xs,_))=>∃ R:Array Int,xs=R.toList∧PermIn a b d R∧SortedIn ltInt a b R
 |.inr (.inr _)=>False
def Bg(self:(List Int×Int×Int×Int×Unit)→Option ((List Int×Unit)))(m:Nat):Prop:=
 ∀ (d:Array Int) (a b:Nat) (l:Int),a≤b→b≤d.size→d.size<4294967296→0≤l→l≤100→Below ltInt a b d→2*(b-a)<m →
  ∃ R:Array Int,self (d.toList,(a:Int),(b:Int),l,())=some (R.toList,())∧PermIn a b d R∧SortedIn ltInt a b R
section
variable {self:(List Int×Int×Int×Int×Unit)→Option ((List Int×Unit))} {d:Array Int} {a b:Nat} {l:Int}
theorem LZ(hself:Bg self (b-a))(hb:b≤d.size)(hs:d.size<4294967296)(hl:0≤l∧l≤100)
  {d3:Array Int} {p:Nat} (P3:PermIn a b d d3) (B3:Below ltInt a b d3) (hp1:a≤p) (hp2:p<b) :
  ∃ o,(match Pt (d3.toList,(a:Int),(b:Int),(p:Int),())with
  |none=>none
  |some (y20,y21,y22,_)=>match quo? .i64 (IntKind.wrap .i64 ((b:Int)-(a:Int))) (8:Int)with
   |none=>none
   |some x23=>match(ilt (IntKind.wrap .i64 (y21-(a:Int))) (IntKind.wrap .i64 ((b:Int)-y21)))with
    |true=>match self (y20,(a:Int),y21,l,())with
     |none=>none
     |some (y24,_)=>some ((.inl (y24,(IntKind.wrap .i64 (y21+(1:Int))),(b:Int),l,(ile x23 (IntKind.wrap .i64 (y21-(a:Int)))),y22,())):G9)
    |false=>match self (y20,(IntKind.wrap .i64 (y21+(1:Int))),(b:Int),l,())with
     |none=>none
     |some (y25,_)=>some (.inl (y25,(a:Int),y21,l,(ile x23 (IntKind.wrap .i64 ((b:Int)-y21))),y22,())))=some o∧IM d a b o:=by
 have b3:b≤d3.size:=by rw[P3.1];exact hb
 have s3:d3.size<4294967296:=by rw[P3.1];exact hs
 rw[AVR d3 a b p hp1 hp2 b3 s3]
 rcases hx:partition ltInt d3 a b p with⟨mid,ap,d4⟩
 obtain⟨g1,g2,hs4,hBa,hBr,hleft,hright⟩:=round_part swo_ltInt (partition_holds _) hp1 hp2 b3 B3 hx
 simp (disch:=omega) only[Bc,AH,Adj,AJ]
 have b4:b≤d4.size:=by omega
 by_cases h:mid-a<b-mid
 ·obtain⟨L,e,l1,l2⟩:=hself d4 a mid l g1 (by omega) (by omega) hl.1 hl.2 hBa (by omega)
  simp only[h,AfK,e]
  obtain⟨hBL,hfin⟩:=hleft _ l1 l2
  refine⟨_,rfl,L,mid+1,b,rfl,rfl,rfl,hl.1,hl.2,by omega,by rw[l1.1];exact b4,by rw[l1.1,hs4,P3.1],by omega,hBL,fun R r1 r2 => ?_⟩
  obtain⟨q1,q2⟩:=hfin R r1 r2
  exact⟨permIn_trans _ _ _ a b P3 q1,q2⟩
 ·obtain⟨L,e,l1,l2⟩:=hself d4 (mid+1) b l (by omega) (by omega) (by omega) hl.1 hl.2 hBr (by omega)
  simp only[h,AfR,e]
  obtain⟨hBL,hfin⟩:=hright _ l1 l2
  refine⟨_,rfl,L,a,mid,rfl,rfl,rfl,hl.1,hl.2,by omega,by rw[l1.1];omega,by rw[l1.1,hs4,P3.1],by omega,hBL,fun R r1 r2 => ?_⟩
  obtain⟨q1,q2⟩:=hfin R r1 r2
  exact⟨permIn_trans _ _ _ a b P3 q1,q2⟩
theorem En(hself:Bg self (b-a))(hb:b≤d.size)(hs:d.size<4294967296)(hl:0≤l∧l≤100)
  {d3:Array Int} {p:Nat} (wb wp:Bool) (P3:PermIn a b d d3) (B3:Below ltInt a b d3) (hp1:a≤p) (hp2:p<b) :
  ∃ o,Ms self d3.toList (a:Int) (b:Int) (p:Int) l wb wp=some o∧IM d a b o:=by
 have b3:b≤d3.size:=by rw[P3.1];exact hb
 have s3:d3.size<4294967296:=by rw[P3.1];exact hs
 rw[Ms,Al]
 by_cases h0:0<a
 ·rw[Ae9 (by omega)]
  have i0:a-1<d3.size:=by omega
  have i1:p<d3.size:=by omega
  simp (disch:=omega) only[An,Ah,Aq,Bw]
  cases hc:ltInt d3[a-1]! d3[p]!
  ·simp only[Afc]
   rw[ALk d3 a b p hp1 hp2 b3 s3]
   rcases hx:partitionEqual ltInt d3 a b p with⟨mid,d4⟩
   obtain⟨hm1,hm2,hs4,hB4,hfin⟩:=round_eq swo_ltInt (partitionEqual_holds _) h0 hp1 hp2 b3 B3 hc hx
   refine⟨_,rfl,d4,mid,b,rfl,rfl,rfl,hl.1,hl.2,by omega,by omega,by rw[hs4,P3.1],by omega,hB4,fun R r1 r2 => ?_⟩
   obtain⟨q1,q2⟩:=hfin R r1 r2
   exact⟨permIn_trans _ _ _ a b P3 q1,q2⟩
  ·simp only[AfI]
   exact LZ hself hb hs hl P3 B3 hp1 hp2
 ·rw[Ae8 (by omega)]
  exact LZ hself hb hs hl P3 B3 hp1 hp2
theorem Pq(hself:Bg self (b-a))(hab:a<b)(hb:b≤d.size)(hs:d.size<4294967296)(hl:0≤l∧l≤100)
  {d3:Array Int} {p:Nat} (h:Int) (wb wp:Bool) (P3:PermIn a b d d3) (B3:Below ltInt a b d3) (hp1:a≤p) (hp2:p<b) :
  ∃ o,AGT self d3.toList (a:Int) (b:Int) (p:Int) h l wb wp=some o∧IM d a b o:=by
 have b3:b≤d3.size:=by rw[P3.1];exact hb
 have s3:d3.size<4294967296:=by rw[P3.1];exact hs
 unfold AGT
 cases wb
 ·exact En hself hb hs hl _ _ P3 B3 hp1 hp2
 ·cases wp
  ·exact En hself hb hs hl _ _ P3 B3 hp1 hp2
  ·simp only[]
   cases ieq h 1
   ·exact En hself hb hs hl _ _ P3 B3 hp1 hp2
   ·simp only[]
    rw[AGY d3 a b hab b3 s3]
    obtain⟨q1,q2⟩:=partialInsertionSort_holds (lt:=ltInt) swo_ltInt d3 a b hab b3 B3
    rcases hx:partialInsertionSort ltInt d3 a b with⟨d4,fin⟩
    rw[hx]at q1 q2
    have P4:PermIn a b d d4:=permIn_trans _ _ _ a b P3 q1
    cases fin
    ·exact En hself hb hs hl _ _ P4 (B3.perm b3 q1) hp1 hp2
    ·exact⟨_,rfl,d4,rfl,P4,q2 rfl⟩
theorem Pp(hself:Bg self (b-a))(hab:a+8≤b)(hb:b≤d.size)(hs:d.size<4294967296)(hl:0≤l∧l≤100)
  {d3:Array Int} (wb wp:Bool) (P3:PermIn a b d d3) (B3:Below ltInt a b d3) :
  ∃ o,AGL self d3.toList (a:Int) (b:Int) l wb wp=some o∧IM d a b o:=by
 have b3:b≤d3.size:=by rw[P3.1];exact hb
 have s3:d3.size<4294967296:=by rw[P3.1];exact hs
 rw[AGL]
 obtain⟨p,h,e,hp1,hp2⟩:=APb d3 a b hab b3 s3
 simp only[e]
 cases ieq h 2
 ·exact Pq hself (by omega) hb hs hl h _ _ P3 B3 hp1 hp2
 ·simp only[AYg d3 a b (by omega) b3 s3]
  have q1:=reverseRange_holds (α:=Int) d3 a b (by omega) b3
  simp (disch:=omega) only[An,Bc]
  exact Pq hself (by omega) hb hs hl 1 _ _ (permIn_trans _ _ _ a b P3 q1) (B3.perm b3 q1) (by omega) (by omega)
theorem SA(hself:Bg self (b-a))(hab:a≤b)(hb:b≤d.size)(hs:d.size<4294967296)(hl:0≤l∧l≤100)(wb wp:Bool)(B:Below ltInt a b d):
  ∃ o,Mt self (d.toList,(a:Int),(b:Int),l,wb,wp,())=some o∧IM d a b o:=by
 rw[ACK,AKi]
 simp (disch:=omega) only[Bc,Ap,Dr]
 by_cases h12:b-a≤12
 ·rw[Ae9 (show((b-a:Nat):Int)≤12 by omega)]
  simp only[AaO d a b hab hb hs]
  obtain⟨q1,q2⟩:=insertionSort_holds (lt:=ltInt) swo_ltInt d a b hab hb
  exact⟨_,rfl,_,rfl,q1,q2⟩
 ·rw[Ae8 (show ¬ ((b-a:Nat):Int)≤12 by omega)]
  simp only[]
  by_cases h0:l=0
  ·subst h0
   simp only[BEq.rfl,AWa d a b (by omega) hb hs]
   obtain⟨q1,q2⟩:=heapSort_holds (lt:=ltInt) swo_ltInt d a b hab hb
   exact⟨_,rfl,_,rfl,q1,q2⟩
  ·rw[show(l==0)=false by simpa using h0]
   simp only[]
   cases wb
   ·obtain⟨d',e,q1⟩:=ASL d a b hab hb hs
    simp only[Afc,e]
    rw[Aj (by omega)]
    exact Pp hself (by omega) hb hs (by omega) _ _ q1 (B.perm hb q1)
   ·simp only[AfI]
    exact Pp hself (by omega) hb hs hl _ _ (permIn_refl d a b) B
end
theorem La{self:(List Int×Int×Int×Int×Unit)→Option ((List Int×Unit))}{m:Nat}(hself:Bg self m):∀ (k:Nat) (d:Array Int) (a b:Nat) (l:Int) (wb wp:Bool) (n:Nat),b-a=k→k≤m→a≤b→b≤d.size→d.size<4294967296→0≤l→l≤100→Below ltInt a b d→k<n →
  ∃ R:Array Int,AQ (Mt self) n (d.toList,(a:Int),(b:Int),l,wb,wp,())=some (.inl (R.toList,()))∧PermIn a b d R∧SortedIn ltInt a b R:=by
 intro k
 induction k using Nat.strongRecOn with
 |_ k ih=>
 intro d a b l wb wp n hk hm hab hb hs hl1 hl2 B hn
 obtain⟨n,rfl⟩:∃ k,n=k+1:=⟨n-1,by omega⟩
 have hself':Bg self (b-a):=fun d a' b' l h1 h2 h3 h4 h5 h6 h7=>hself d a' b' l h1 h2 h3 h4 h5 h6 (by omega)
 obtain⟨o,e,ho⟩:=SA hself' hab hb hs ⟨hl1,hl2⟩ wb wp B
 rw[AQ,e]
 match o,ho with
 |.inl (xs,x,y,l',wb',wp',_),ho=>
  obtain⟨e',i,j,rfl,rfl,rfl,g1,g2,g3,g4,g5,g6,g7,hfin⟩:=ho
  obtain⟨R,e2,r1,r2⟩:=ih (j-i) (by omega) e' i j l' wb' wp' n rfl (by omega) g3 g4 (by omega) g1 g2 g7 (by omega)
  exact⟨R,e2,hfin R r1 r2⟩
 |.inr (.inl (xs,_)),ho=>
  obtain⟨R,rfl,r1,r2⟩:=ho
  exact⟨R,rfl,r1,r2⟩
theorem SB:∀ k:Nat,Bg (Hk (k+1)) (2 ^ k):=by
 intro k
 have hmany:4294967296<many:=by simp only[many];omega
 induction k with
 |zero=>
  intro d a b l h1 h2 h3 h4 h5 h6 h7
  have:Bg (Hk 0) 0:=fun _ _ _ _ _ _ _ _ _ _ h=>by omega
  obtain⟨R,e,r1,r2⟩:=La this (b-a) d a b l true true many rfl (by omega) h1 h2 h3 h4 h5 h6 (by omega)
  refine⟨R,?_,r1,r2⟩
  rw[Hk,AGO]
  simp only[Ag,e]
 |succ k ih=>
  intro d a b l h1 h2 h3 h4 h5 h6 h7
  have hp:2 ^ (k+1)=2*2 ^ k:=by rw[Nat.pow_succ];omega
  obtain⟨R,e,r1,r2⟩:=La ih (b-a) d a b l true true many rfl (by omega) h1 h2 h3 h4 h5 h6 (by omega)
  refine⟨R,?_,r1,r2⟩
  rw[Hk,AGO]
  simp only[Ag,e]
def sorted(xs:List Int):List Int:=xs.mergeSort (fun x y=>decide (x≤y))
theorem AUe{d d':Array Int}(h1:PermIn 0 d.size d d')(h2:SortedIn ltInt 0 d.size d'):d'.toList=sorted d.toList:=by
 have h:=sorted_unique_holds (lt:=ltInt) swo_ltInt (fun x y h1 h2=>by simp[ltInt]at h1 h2;omega) d d' h1 h2
 rw[h,sorted]
 congr
 funext x y
 by_cases h:x≤y
 ·simp[ltInt,h,Int.not_lt.2 h]
 ·simp[ltInt,h,Int.not_le.1 h]
theorem AUg(xs:List Int)(h:xs.length<4294967296):AJs (xs,())=some (sorted xs,()):=by
 obtain⟨d,rfl⟩:∃ d:Array Int,xs=d.toList:=⟨xs.toArray,rfl⟩
 rw[AfX]at h
 rw[AJr,Wr]
 rw[AIF,u64_in (by omega)]
 obtain⟨v,e,hv,_⟩:=MR d.size h
 simp only[e]
 obtain⟨R,e2,r1,r2⟩:=SB 99 d 0 d.size (v:Int) (by omega) (by omega) h (by omega) (by omega) (.inl rfl) (by
  have:2 ^ 99=633825300114114700748351602688:=by decide
  omega)
 have e3:AVJ (d.toList,(0:Int),(d.size:Int),(v:Int),())=some (R.toList,()):=by rw[ATF];exact e2
 simp only[e3,AUe r1 r2]
end Go.Pev.Pl.SI
end
section
namespace Go.Pev.Pl
open Tok
theorem AH2{a o:List Int}{m k:Nat}(h:a.drop m=o.drop m)(hk:m≤k):a.getD k 0=o.getD k 0:=by
 have:=Agg (fun l=>l.getD (k-m) 0) h
 simp only[AfB,Af9]at this
 rw[Nat.add_sub_cancel' hk]at this
 simpa [AfB]using this
theorem LN{xs:List Int}{i:Nat}(h:i<xs.length):xs.take (i+1)=xs.take i++[xs.getD i 0]:=by
 rw[Af4 h];simp[h]
theorem AbC(o:List Int)(n:Int)(rings:List (List Int))(hs:o.length<4294967296):∀ (k j w:Nat) (a:List Int) (cnt:Nat),j+k=o.length→a.length=o.length→w=(Dc n (o.take j)).length→a.take w=Dc n (o.take j)→w<j→a.drop j=o.drop j→k<cnt →
  ∃ a':List Int,AQ CH cnt (a,n,rings,(w:Int),(j:Int),())=some (.inl (a',n,rings,(((Dc n o).length:Nat):Int),()))∧a'.length=o.length∧a'.take (Dc n o).length=Dc n o:=by
 intro k
 induction k with
 |zero=>
  intro j w a cnt hk hl hw hq hwj hd hn
  obtain⟨cnt,rfl⟩:∃ k,cnt=k+1:=⟨cnt-1,by omega⟩
  have e:j=o.length:=by omega
  subst e
  rw[AgH]at hw hq
  rw[AQ,CH,AN,AJ,Ae8 (by omega)]
  exact⟨a,by rw[hw],hl,by rw[← hw];exact hq⟩
 |succ k ih=>
  intro j w a cnt hk hl hw hq hwj hd hn
  obtain⟨cnt,rfl⟩:∃ k,cnt=k+1:=⟨cnt-1,by omega⟩
  have g1:a.getD j 0=o.getD j 0:=AH2 hd (AfN _)
  have hdd:a.drop (j+1)=o.drop (j+1):=by
   have:=Agg (List.drop 1) hd
   simpa only[Agn]using this
  have hst:Dc n (o.take (j+1))=Dc n (o.take j)++if n≤o.getD j 0 then []else [o.getD j 0]:=by
   rw[LN (by omega),Dc,Aga]
   generalize o.getD j 0=v
   by_cases h:n≤v<;>simp[Dc,h]
  rw[AQ,CH,AN,AJ,Ae9 (by omega)]
  simp (disch:=omega) only[Ci (0:Int),E2,AAt,g1,Ap,AH]
  by_cases h:n≤o.getD j 0
  ·rw[Ae9 h]
   rw[AfQ h,AgL]at hst
   exact ih (j+1) w a cnt (by omega) hl (by rw[hst];exact hw) (by rw[hst];exact hq) (by omega) hdd (by omega)
  ·rw[Ae8 h]
   rw[AfM h]at hst
   refine ih (j+1) (w+1) (a.set w (o.getD j 0)) cnt (by omega) (by simp[hl]) (by rw[hst];simp[hw]) ?_ (by omega) ?_ (by omega)
   ·rw[hst,← hq,Af4 (by simp;omega)]
    simp[List.take_set_of_le]
   ·rw[List.drop_set_of_lt (by omega)]
    exact hdd
theorem AD5{n:Int}{o:List Int}(h:∀ j,j<o.length→decide (n≤o.getD j 0)=false):Dc n o=o:=by
 rw[Dc,AhS]
 intro x hx
 obtain⟨j,hj,e⟩:=AgE hx
 have:=h j hj
 simp only[AfB,AfE hj,Afg,e]at this
 simp only[this,Afc]
theorem AdO(o:List Int)(n:Int)(rings:List (List Int))(hs:o.length<4294967296):
  ∃ a:List Int,E4 (o,n,rings,())=some (a,n,rings,(((Dc n o).length:Nat):Int),())∧a.take (Dc n o).length=Dc n o:=by
 have hm:4294967296<many:=by simp only[many];omega
 rw[K9,E3,K5,Ez]
 simp only[AN]
 rcases X2 (step:=Bh) (fun i=>(o,n,rings,(o.length:Int),(i:Int),())) o.length (fun i=>decide (n≤o.getD i 0)) (fun i=>.inl (o,n,rings,(i:Int),())) (.inr (.inl (o,n,rings,()))) (by omega)
   (fun i hi=>by
    rw[Bh]
    simp (disch:=omega) only[AJ,hi,AfK,Ci (0:Int),E2,Ap,AH]
    cases decide (n≤o.getD i 0)<;>rfl) (by rw[Bh];simp only[AJ,Nat.lt_irrefl,AfR])with⟨k,hk,hP,hF,e⟩|⟨hP,e⟩
 ·have e':AS Bh many (o,n,rings,(o.length:Int),(0:Int),())=_:=e
  have h0:Dc n (o.take k)=o.take k:=AD5 fun j hj=>by
   rw[AfT]at hj
   have:=hF j (by omega)
   rw[show(o.take k).getD j 0=o.getD j 0 by simp[AfB,List.getElem?_take_of_lt (show j<k by omega)]]
   exact this
  have h1:Dc n (o.take (k+1))=o.take k:=by
   rw[LN hk,Dc,Aga]
   have:(List.filter (fun t => !decide (n≤t)) [o.getD k 0])=[]:=by
    generalize o.getD k 0=v at *
    simp at hP
    simp[hP]
   rw[this,AgL]
   exact h0
  obtain⟨a',e2,e3,e4⟩:=AbC o n rings hs (o.length-(k+1)) (k+1) k o many (by omega) rfl (by rw[h1,AfT];omega) (by rw[h1]) (by omega) rfl (by omega)
  have hle:(Dc n o).length≤o.length:=Agw _ _
  have hcl:(BV (Dc n o).length (a'.length-(Dc n o).length) 0 a').length=a'.length:=by
   simp[BV];omega
  have s0:Bz (BV (Dc n o).length (a'.length-(Dc n o).length) 0 a') (0:Int) (((Dc n o).length:Nat):Int)=some _:=Rk (l:=0) (by omega) (by omega)
  simp only[e',Dr]
  rw[show((k:Int) == -1)=false from beq_false_of_ne (by omega),AH (by omega)]
  simp only[Ag,e2]
  rw[Rk (by omega) (by omega)]
  simp only[AgH,Afj,IA,s0]
  refine⟨BV (Dc n o).length (a'.length-(Dc n o).length) 0 a',?_,?_⟩
  ·simp only[AfT,Nat.sub_zero]
   rw[AgB (by omega)]
  ·rw[BV,List.take_append_of_le_length (by simp;omega),Ag9,Nat.min_self]
   exact e4
 ·have e':AS Bh many (o,n,rings,(o.length:Int),(0:Int),())=_:=e
  have h0:=AD5 hP
  simp only[e',Dr]
  exact⟨o,by rw[h0];rfl,by rw[h0,AgH]⟩
theorem AJp{n:Int}{A:List Int}(h:RG n A):SI.sorted (Dc n A)=Nl n A:=by
 have hp:(SI.sorted (Dc n A)).Perm (Dc n A):=List.mergeSort_perm _ _
 have hpv:=AV4 h
 have hs:(SI.sorted (Dc n A)).Pairwise (·≤·):=by
  have:=List.pairwise_mergeSort (le:=fun x y:Int=>decide (x≤y)) (fun a b c h1 h2=>by simp at *;omega) (fun a b=>by simp;omega) (Dc n A)
  exact this.imp fun h=>by simpa using h
 exact Aht (le:=fun a b:Int=>a≤b) (fun a b _ _ h1 h2=>by omega) hs ((AJL n A).imp fun h=>by omega) (hp.trans hpv)
theorem AH4{n:Int}{rings:List (List Int)}{i:Nat}{A:List Int}{v:Int}(h:FR n rings)(iv:In n v)(hi:rings[i]? = some A)(hv:v∈A):H5 ((n,(rings,())),v,())=some (Nl n A,0,()):=by
 have hD:=h.dom
 have hRF:=Kd.2 h
 have gA:=h.rg A (AfS hi)
 have hl:=gA.1.1
 rw[VP,KQ]
 have ht:KO ((n,(rings,())),[v],())=some (0,()):=by
  rw[Om n rings _ hD (by simp),AIo]
  simp[hRF,iv]
 obtain⟨a,e1,e2⟩:=AdO A n rings (by omega)
 simp only[ht,L0,AfI,Abp n rings v hD,hRF,iv,Ahs,Afb,h.Yd hi iv.2.2.2 hv,Ai hi,ASB (show A.length≤4294967296 by omega),e1,Bi,IA,e2]
 have hle:(Dc n A).length≤A.length:=Agw _ _
 rw[SI.AUg _ (by omega),AJp gA]
theorem AN6{N:Nat}{rings:List (List Int)}{l:List Edge}(h:FC (N:Int) rings l){i:Nat}{A:List Int}{v:Int}(iv:In (N:Int) v)(hi:rings[i]? = some A)(hv:v∈A):Nl (N:Int) A=Eh N l v:=by
 have hA:=AfS hi
 obtain⟨s1,s2⟩:=h.fr.sz
 unfold Nl Eh
 rw[Af2,List.filter_map]
 congr 1
 refine Ah0 fun w hw => ?_
 rw[AgI]at hw
 have iw:In (N:Int) (w:Int):=⟨s1,s2,by omega,by omega⟩
 show decide ((w:Int)∈A)=Fq l v (w:Int)
 rw[AgZ,Af3,Bl,← h.sam v (w:Int) iv iw]
 constructor
 ·intro hm
  exact⟨A,hA,hv,hm⟩
 ·rintro⟨B,hB,h1,h2⟩
  rw[h.fr.one hA hB iv.2.2.2 hv h1]
  exact h2
theorem FC.members{N:Nat}{rings:List (List Int)}{l:List Edge}(h:FC (N:Int) rings l){v:Int}(iv:In (N:Int) v):H5 (((N:Int),(rings,())),v,())=some (Eh N l v,0,()):=by
 obtain⟨i,A,_,hi,hv,_⟩:=LW (h.fr.cov v iv)
 rw[AH4 h.fr iv hi hv,AN6 h iv hi hv]
theorem Y0{n:Int}{ts:List Tie}(u v:Int)(hr:FV ((n,(ts,())),())=some (false,())):OJ ((n,(ts,())),u,v,())=some (0,1,()):=by
 rw[R9,LY]
 simp only[hr,Afc]
theorem Yw{N:Nat}{ts:List Tie}(h:RG2 N ts)(u v:Int):OJ (((N:Int),(ts,())),u,v,())=some (if InV N u∧InV N v then(if ts.any (CB u v)=true then((ts.findIdx (CB u v):Nat):Int)else 0)else 0,if InV N u∧InV N v then(if ts.any (CB u v)=true then 0 else 6)else 10,()):=by
 rw[R9,LY]
 simp only[h.lr,AfI,Ie,XB,Al,Ap]
 by_cases h1:min u v<0
 ·have hc:¬ (InV N u∧InV N v):=fun q=>by unfold InV at q;omega
  simp only[Ae9 h1,AfM hc]
 ·simp only[Ae8 h1]
  by_cases h2:(N:Int)≤max u v
  ·have hc:¬ (InV N u∧InV N v):=fun q=>by unfold InV at q;omega
   simp only[Ae9 h2,AfM hc]
  ·have hc:InV N u∧InV N v:=⟨⟨by omega,by omega⟩,by omega,by omega⟩
   simp only[Ae8 h2,AfQ hc,AWA h]
   cases hany:ts.any (CB u v)
   ·simp only[AfO,AfP]
    rw[Ae9 (by omega)]
   ·simp only[Afb]
    rw[Ae8 (by omega)]
theorem ATW:ieq (10:Int) 1=false:=by rw[Ao];rfl
theorem YX(n:Int)(ts:List Tie)(ht:ts.length≤400)(u v k:Int):∃ s e,Pe ((n,(ts,())),u,v,k,())=some (s,e,())∧OD ((n,(ts,())),u,v,k,())=some (s,e,())∧s.length≤64:=by
 rcases Mn n ts (by omega)with⟨r1,r⟩|⟨N,rfl,h⟩
 ·refine⟨[],1,?_,?_,by simp⟩
  ·rw[YY,Pd]
   simp only[Y0 u v r,Df]
  ·rw[Ml,JJ]
   simp only[r1,Afc]
 ·rw[YY,Pd,Ml,JJ]
  simp only[Yw h,h.r21,AfI,QJ]
  by_cases hu:0≤u∧u<(N:Int)
  ·by_cases hv:0≤v∧v<(N:Int)
   ·have hc:InV N u∧InV N v:=⟨hu,hv⟩
    have h1:=h.h1
    have hN:=h.hN
    have iu:In (N:Int) u:=⟨by omega,by omega,hu.1,hu.2⟩
    have iv:In (N:Int) v:=⟨by omega,by omega,hv.1,hv.2⟩
    obtain⟨zs,ef,hF⟩:=h.AeY k
    obtain⟨u,rfl⟩:=AfL hu.1
    obtain⟨v,rfl⟩:=AfL hv.1
    have hu':u<N:=by omega
    have hv':v<N:=by omega
    have hu1:=GC h1 hN ts ht h.inE u hu' k
    have hv1:=GC h1 hN ts ht h.inE v hv' k
    have l1:=JQ N (trk ts k) (u:Int)
    have l2:=JQ N (trk ts k) (v:Int)
    have b1:=Qi N (trk ts k) (u:Int)
    have b2:=Qi N (trk ts k) (v:Int)
    have hh:=NH (Eh N (trk ts k) (u:Int)) (v:Int) (by omega)
    have hg:∀ l:List Int,AM l 0 0=l.headD 0:=fun l=>by cases l<;>rfl
    have hcc:=GH (Eh N (trk ts k) (u:Int)) (v:Int) (by omega)
    simp only[AfQ hc,Ae9 hu,Ae9 hv,AfI,hu1,hv1,hh,ef,hF.members iu,hF.members iv,hcc,M4 hu',M4 hv',hg,KZ,AGm]
    have e1:ieq (if(ts.any (CB (u:Int) (v:Int)))=true then(0:Int)else 6) 1=false:=by
     split<;>(rw[Ao];rfl)
    have e2:ieq (if(ts.any (CB (u:Int) (v:Int)))=true then(0:Int)else 6) 10=false:=by
     split<;>(rw[Ao];rfl)
    simp only[e1,e2]
    cases decide ((v:Int)∈Eh N (trk ts k) (u:Int))
    ·simp only[AN,l1,l2,AJ,QM]
     by_cases q1:csz N (trk ts k) (u:Int)<csz N (trk ts k) (v:Int)
     ·have q2:O6 (csz N (trk ts k) (u:Int):Int) (csz N (trk ts k) (v:Int):Int) = -1:=by unfold O6;rw[AfQ (by omega)]
      simp only[Ae9 q1,q2,AfM (show ¬ ((-1:Int)=0) by omega),Al,Ae9 (show(-1:Int)<0 by omega)]
      exact⟨_,_,rfl,rfl,by first|(simp;done)|omega⟩
     ·by_cases q2:csz N (trk ts k) (u:Int)=csz N (trk ts k) (v:Int)
      ·have q3:O6 (csz N (trk ts k) (u:Int):Int) (csz N (trk ts k) (v:Int):Int)=0:=by unfold O6;rw[AfM (by omega),AfM (by omega)]
       simp only[Ae8 q1,Ae9 q2,q3,Afb]
       by_cases q4:(Eh N (trk ts k) (u:Int)).headD 0<(Eh N (trk ts k) (v:Int)).headD 0
       ·have q5:O6 ((Eh N (trk ts k) (u:Int)).headD 0) ((Eh N (trk ts k) (v:Int)).headD 0) = -1:=by unfold O6;rw[AfQ q4]
        simp only[q5,Al,Ae9 q4,Ae9 (show(-1:Int)<0 by omega)]
        exact⟨_,_,rfl,rfl,by first|(simp;done)|omega⟩
       ·have q5:¬ O6 ((Eh N (trk ts k) (u:Int)).headD 0) ((Eh N (trk ts k) (v:Int)).headD 0)<0:=by
         unfold O6;rw[AfM q4];split<;>omega
        simp only[Al,Ae8 q4,Ae8 q5]
        exact⟨_,_,rfl,rfl,by first|(simp;done)|omega⟩
      ·have q3:O6 (csz N (trk ts k) (u:Int):Int) (csz N (trk ts k) (v:Int):Int)=1:=by unfold O6;rw[AfM (by omega),AfQ (by omega)]
       simp only[Ae8 q1,Ae8 q2,q3,AfM (show ¬ ((1:Int)=0) by omega),Al,Ae8 (show ¬ (1:Int)<0 by omega)]
       exact⟨_,_,rfl,rfl,by first|(simp;done)|omega⟩
    ·exact⟨_,_,rfl,rfl,by first|(simp;done)|omega⟩
   ·have hc:¬ (InV N u∧InV N v):=fun q=>hv q.2
    simp only[AfM hc,Ae9 hu,Ae8 hv,AfI,Afc,Df,ATW]
    exact⟨_,_,rfl,rfl,by first|(simp;done)|omega⟩
  ·have hc:¬ (InV N u∧InV N v):=fun q=>hu q.1
   simp only[AfM hc,Ae8 hu,Afc,Df,ATW]
   exact⟨_,_,rfl,rfl,by first|(simp;done)|omega⟩
theorem AKP{N:Nat}(hN:N≤64)(ts:List Tie)(ht:ts.length≤400)(u v:Nat)(hu:u<N)(hv:v<N)(k:Int):∃ e,Pe (((N:Int),(ts,())),(u:Int),(v:Int),k,())=some (BS N ts u v k,e,()):=by
 obtain⟨s,e,h1,h2,_⟩:=YX (N:Int) ts ht u v k
 obtain⟨e',h3⟩:=Xx hN ts ht u v hu hv k
 rw[h2]at h3
 cases h3
 exact⟨_,h1⟩
end Go.Pev.Pl
end
section
namespace Go.Pev.Pl
open Tok
def ofM(s:List Int):List (Int×Int):=s.foldl (fun m w=>Af m w 1) []
theorem AZ3(w:Int):∀ (s:List Int) (m:List (Int×Int)),(AT (s.foldl (fun m w=>Af m w 1) m) w).getD 0=if w∈s then 1 else(AT m w).getD 0:=by
 intro s
 induction s with
 |nil=>intro m;simp
 |cons x s ih=>
  intro m
  rw[Af5,ih,Z2]
  by_cases h:w∈s
  ·rw[AfQ h,AfQ (by simp[h])]
  ·rw[AfM h]
   by_cases hx:w=x
   ·rw[AfQ hx,AfQ (by simp[hx])];rfl
   ·rw[AfM hx,AfM (by simp[h,hx])]
theorem ATQ(s:List Int)(w:Int):(AT (ofM s) w).getD 0=if AY s w=true then 1 else 0:=by
 unfold ofM AY
 rw[AZ3]
 simp[AT]
def VR(S:Int→Bool)(x:Tie):Int:=(if S x.1=true then 1 else 0)+(if S x.2.1=true then 1 else 0)
theorem AEV(s:List Int)(x:Tie):IntKind.wrap .i64 ((AT (ofM s) x.1).getD 0+(AT (ofM s) x.2.1).getD 0)=VR (AY s) x:=by
 rw[ATQ,ATQ]
 unfold VR
 rw[Aj (by split<;>split<;>omega)]
theorem ANH(S:Int→Bool)(x:Tie):ieq (VR S x) 2=both S x:=by
 rw[Ao];unfold VR both
 cases S x.1<;>cases S x.2.1<;>rfl
theorem AXB(S:Int→Bool)(x:Tie):ieq (VR S x) 0=(!S x.1 && !S x.2.1):=by
 rw[Ao];unfold VR
 cases S x.1<;>cases S x.2.1<;>rfl
theorem Aa6(S:Int→Bool)(x:Tie):ieq (VR S x) 1=decide (GZ S x):=by
 rw[Ao]
 refine Agl.2 ?_
 unfold VR GZ
 generalize S x.1=a
 generalize S x.2.1=b
 cases a<;>cases b<;>simp
def otp(i:Int):Nat→List Tie→List Int
 |_,[]=>[]
 |j,x::R=>if x.2.2.2.1=false∧x.2.2.1=i then(j:Int)::otp i (j+1) R else otp i (j+1) R
theorem AeF(S:Int→Bool)(top i:Int):∀ (R:List Tie) (j:Nat),otp i j (R.map (rT S top i))=otp i j R:=by
 intro R
 induction R with
 |nil=>intro j;rfl
 |cons x R ih=>
  intro j
  rw[Afl,otp,otp,ih,J0]
  by_cases h:x.2.2.2.1=false
  ·rw[EV h]
  ·rw[AfM (fun q=>h q.1),AfM (fun q=>h q.1)]
section
variable (n:Int) (a2 a3:Bool) (a4 a5 top:Int)
theorem AVP(O:List Tie)(r i:Int)(s:List Int)(hs:s.length≤400):
  AS Le many (n,O,a2,a3,a4,a5,r,top,i,([]:List (Int×Int)),s,(s.length:Int),(0:Int),())=some (.inl (n,O,a2,a3,a4,a5,r,top,i,ofM s,())):=by
 have e:=Cf (step:=Le) (fun j (m:List (Int×Int))=>(n,O,a2,a3,a4,a5,r,top,i,m,s,(s.length:Int),(j:Int),())) s (fun w m=>.inl (Af m w 1)) (fun m=>.inl (n,O,a2,a3,a4,a5,r,top,i,m,())) (fun _ _=>True) (by omega)
  (fun j x m hj hx _=>by
   refine⟨fun m' h' => ?_,fun r h'=>(by cases h')⟩
   cases h'
   refine⟨?_,trivial⟩
   unfold Le
   dsimp only
   rw[AJ,Ae9 hj]
   simp only[Ai hx,Ec hx]
   rw[AH (by omega)])
  (fun m _=>by unfold Le;dsimp only;rw[AJ,Ae8 (by omega)]) [] trivial
 have e':AS Le many (n,O,a2,a3,a4,a5,r,top,i,([]:List (Int×Int)),s,(s.length:Int),(0:Int),())=_:=e
 rw[e',BL (fun w (m:List (Int×Int))=>Af m w 1)]
 rfl
theorem AVO(O:List Tie)(hO:O.length≤400)(r:Nat)(hr:r<1073741824)(i:Nat)(hi:i<64)(s:List Int):
  AS Ld many (n,O,a2,a3,a4,a5,(r:Int),top,(i:Int),ofM s,([]:List Int),(O.length:Int),(0:Int),()) =
  some (.inl (n,O.map (rT (AY s) top i),a2,a3,a4,a5,((r+Fs (AY s) i O:Nat):Int),top,ofM s,otp i 0 O,())):=by
 have key:∀ (R A:List Tie) (j cnt q:Nat) (ps:List Int),A.length=j→A.length+R.length=O.length→R.length<cnt→q+R.length<2147483648→ps.length≤j →
   AQ Ld cnt (n,A++R,a2,a3,a4,a5,(q:Int),top,(i:Int),ofM s,ps,(O.length:Int),(j:Int),()) =
   some (.inl (n,A++R.map (rT (AY s) top i),a2,a3,a4,a5,((q+Fs (AY s) i R:Nat):Int),top,ofM s,ps++otp i j R,())):=by
  intro R
  induction R with
  |nil=>
   intro A j cnt q ps hA hl hc hq hp
   obtain⟨cnt,rfl⟩:∃ c,cnt=c+1:=⟨cnt-1,by omega⟩
   unfold Ld
   rw[AQ]
   dsimp only
   rw[AJ,Ae8 (by simp at hl;omega)]
   simp[Fs,otp]
  |cons x R ih=>
   intro A j cnt q ps hA hl hc hq hp
   obtain⟨cnt,rfl⟩:∃ c,cnt=c+1:=⟨cnt-1,by omega⟩
   rw[AfJ]at hl hc hq
   have hg:=PL (R:=R) (x:=x) hA
   have next:∀ (y:Tie) (q':Nat) (ps':List Int),q'+R.length<2147483648→ps'.length≤j+1→rT (AY s) top i x=y→q'+Fs (AY s) i R=q+Fs (AY s) i (x::R)→ps'++otp i (j+1) R=ps++otp i j (x::R) →
     AQ Ld cnt (n,A++y::R,a2,a3,a4,a5,(q':Int),top,(i:Int),ofM s,ps',(O.length:Int),((j+1:Nat):Int),()) =
     some (.inl (n,A++(x::R).map (rT (AY s) top i),a2,a3,a4,a5,((q+Fs (AY s) i (x::R):Nat):Int),top,ofM s,ps++otp i j (x::R),())):=by
    intro y q' ps' hq' hp' hy hcnt hps
    have:=ih (A++[y]) (j+1) cnt q' ps' (by simp[hA]) (by simp;omega) (by omega) hq' hp'
    rw[Afo]at this
    rw[AgM]at this
    rw[this,hcnt,Afl,hy,Afo,hps]
    rfl
   have hcc:Fs (AY s) i (x::R)=Fs (AY s) i R+if(x.2.2.2.1&&(decide (x.2.2.1=(i:Int))&&both (AY s) x))=true then 1 else 0:=by
    unfold Fs
    rw[AhH]
   have hot:otp (i:Int) j (x::R)=if x.2.2.2.1=false∧x.2.2.1=(i:Int)then(j:Int)::otp i (j+1) R else otp i (j+1) R:=rfl
   unfold Ld at next ⊢
   rw[AQ]
   dsimp only
   rw[AJ,Ae9 (by omega)]
   simp only[Ai hg,Ec hg]
   rw[AH (show j+1<9223372036854775808 by omega),AH (show q+1<9223372036854775808 by omega),Ao]
   by_cases h3:x.2.2.1=(i:Int)
   ·rw[Ae9 h3]
    simp only[AfI]
    cases h4:x.2.2.2.1
    ·simp only[Afc]
     rw[BI (by simp only[AN,AfJ,AfV];omega),IA,Cd]
     refine next x q _ (by omega) (by simp;omega) (EV h4) ?_ ?_
     ·rw[hcc,h4];simp
     ·rw[hot,AfQ ⟨h4,h3⟩];simp
    ·simp only[AfI]
     rw[AEV,ANH]
     cases hb:both (AY s) x
     ·simp only[]
      refine next x q ps (by omega) (by omega) ?_ ?_ ?_
      ·unfold rT
       rw[AfM (fun hh=>by rw[hb]at hh;exact absurd hh.2.2 (by simp))]
      ·rw[hcc,hb];simp
      ·rw[hot,AfM (fun hh=>by rw[h4]at hh;exact absurd hh.1 (by simp))]
     ·simp only[]
      rw[Js hA,Ie,h3,AH (show i+1<9223372036854775808 by omega)]
      refine next _ (q+1) ps (by omega) (by omega) ?_ ?_ ?_
      ·unfold rT
       rw[AfQ ⟨h4,h3,hb⟩]
       unfold Gk
       rw[h3,h4]
       rfl
      ·rw[hcc,h4,Ae9 h3,hb];simp;omega
      ·rw[hot,AfM (fun hh=>by rw[h4]at hh;exact absurd hh.1 (by simp))]
   ·rw[Ae8 h3]
    simp only[Afc]
    refine next x q ps (by omega) (by omega) ?_ ?_ ?_
    ·unfold rT
     rw[AfM (fun hh=>h3 hh.2.1)]
    ·rw[hcc,Ae8 h3];simp
    ·rw[hot,AfM (fun hh=>h3 hh.2)]
 have:=key O [] 0 many r [] rfl (by simp) (by simp only[many];omega) (by omega) (by simp)
 rw[Ag]
 exact this
theorem AVN(O:List Tie)(hO:O.length≤400)(r:Nat)(hr:r<1073741824)(i:Nat)(hi:i<64)(s:List Int):
  AS Lc many (n,O,a2,a3,a4,a5,(r:Int),top,ofM s,otp i 0 O,((otp i 0 O).length:Int),(0:Int),()) =
  some (match(Au (AY s) top i O).2.2 with
   |some e=>.inr (.inl (n,(Au (AY s) top i O).1,a2,true,e.1,e.2.1,((r+(Au (AY s) top i O).2.1:Nat):Int),top,true,()))
   |none=>.inl (n,(Au (AY s) top i O).1,a2,a3,a4,a5,((r+(Au (AY s) top i O).2.1:Nat):Int),top,())):=by
 have key:∀ (R A:List Tie) (j cnt q:Nat) (pre:List Int),A.length=j→R.length<cnt→q+R.length<2147483648→pre.length≤j→j+R.length≤400 →
   AQ Lc cnt (n,A++R,a2,a3,a4,a5,(q:Int),top,ofM s,pre++otp i j R,((pre++otp i j R).length:Int),(pre.length:Int),()) =
   some (match(Au (AY s) top i R).2.2 with
    |some e=>.inr (.inl (n,A++(Au (AY s) top i R).1,a2,true,e.1,e.2.1,((q+(Au (AY s) top i R).2.1:Nat):Int),top,true,()))
    |none=>.inl (n,A++(Au (AY s) top i R).1,a2,a3,a4,a5,((q+(Au (AY s) top i R).2.1:Nat):Int),top,())):=by
  intro R
  induction R with
  |nil=>
   intro A j cnt q pre hA hc hq hp hj
   obtain⟨cnt,rfl⟩:∃ c,cnt=c+1:=⟨cnt-1,by omega⟩
   unfold Lc
   rw[AQ]
   dsimp only
   rw[AJ,Ae8 (by simp[otp])]
   rfl
  |cons x R ih=>
   intro A j cnt q pre hA hc hq hp hj
   rw[AfJ]at hc hq hj
   have hg:=PL (R:=R) (x:=x) hA
   rw[Au,otp]
   by_cases hO:x.2.2.2.1=false∧x.2.2.1=(i:Int)
   ·obtain⟨h4,h3⟩:=hO
    rw[AfQ ⟨h4,h3⟩,AfM (fun hh=>by rcases hh with hh|hh;rw[h4]at hh;cases hh;exact hh h3)]
    obtain⟨cnt,rfl⟩:∃ c,cnt=c+1:=⟨cnt-1,by omega⟩
    have hlt:pre.length<(pre++(j:Int)::otp i (j+1) R).length:=by simp
    have hpx:(pre++(j:Int)::otp i (j+1) R)[pre.length]? = some (j:Int):=by simp
    have step:∀ (y:Tie) (q':Nat),q'+R.length<2147483648 →
      AQ Lc cnt (n,A++y::R,a2,a3,a4,a5,(q':Int),top,ofM s,pre++(j:Int)::otp i (j+1) R,((pre++(j:Int)::otp i (j+1) R).length:Int),((pre.length+1:Nat):Int),()) =
      some (match(Au (AY s) top i R).2.2 with
       |some e=>.inr (.inl (n,A++y::(Au (AY s) top i R).1,a2,true,e.1,e.2.1,((q'+(Au (AY s) top i R).2.1:Nat):Int),top,true,()))
       |none=>.inl (n,A++y::(Au (AY s) top i R).1,a2,a3,a4,a5,((q'+(Au (AY s) top i R).2.1:Nat):Int),top,())):=by
     intro y q' hq'
     have:=ih (A++[y]) (j+1) cnt q' (pre++[(j:Int)]) (by simp[hA]) (by omega) hq' (by simp;omega) (by omega)
     have hpl:(pre++[(j:Int)]).length=pre.length+1:=by simp
     simp only[Afo,AgM,hpl]at this
     exact this
    unfold Lc at step ⊢
    rw[AQ]
    dsimp only
    rw[AJ,Ae9 hlt]
    simp only[Ai hpx,Ec hpx,Ec hg]
    rw[AH (show pre.length+1<9223372036854775808 by omega),AH (show q+1<9223372036854775808 by omega),AEV,AXB,ANH,Aa6]
    cases hb:both (AY s) x
    ·simp only[AfO,AfP]
     by_cases hx:GZ (AY s) x
     ·have hnn:(!AY s x.1 && !AY s x.2.1)=false:=by
       unfold GZ at hx
       revert hx
       cases AY s x.1<;>cases AY s x.2.1<;>simp
      have hg2:(A++Ce x::R)[j]? = some (Ce x):=PL hA
      simp only[hnn,Ae9 hx,AfQ hx]
      rw[Js hA]
      rw[show((x.1,(x.2.1,(x.2.2.1,(true,())))):Tie)=Ce x from rfl]
      simp only[Ec hg2,Agf]
      rfl
     ·have hnn:(!AY s x.1 && !AY s x.2.1)=true:=by
       unfold GZ at hx
       unfold both at hb
       revert hx hb
       cases AY s x.1<;>cases AY s x.2.1<;>simp
      simp only[hnn,AfM hx]
      exact step x q (by omega)
    ·have hnn:(!AY s x.1 && !AY s x.2.1)=false:=by
      unfold both at hb
      revert hb
      cases AY s x.1<;>cases AY s x.2.1<;>simp
     simp only[hnn,Afb]
     rw[Js hA,Ie,h3,AH (show i+1<9223372036854775808 by omega)]
     have:=step (Gk top x) (q+1) (by omega)
     have hr:((x.1,(x.2.1,(min top ((i+1:Nat):Int),(x.2.2.2.1,())))):Tie)=Gk top x:=by
      unfold Gk
      rw[h3]
      rfl
     rw[hr,this]
     rw[show q+1+(Au (AY s) top i R).2.1=q+((Au (AY s) top i R).2.1+1) by omega]
   ·have hor:x.2.2.2.1=true∨x.2.2.1≠(i:Int):=by
     cases h4:x.2.2.2.1
     ·exact .inr fun h3=>hO ⟨h4,h3⟩
     ·exact .inl rfl
    rw[AfM hO,AfQ hor]
    have:=ih (A++[x]) (j+1) cnt q pre (by simp[hA]) (by omega) (by omega) (by omega) (by omega)
    simp only[Afo,AgM]at this
    exact this
 have:=key O [] 0 many r [] rfl (by simp only[many];omega) (by omega) (by simp) (by omega)
 rw[Ag]
 exact this
end
theorem AcR{N:Nat}(hN:N≤64)(u v:Nat)(hu:u<N)(hv:v<N)(top:Int)(O:List Tie)(hO:O.length≤400)(a2 a3:Bool)(a4 a5:Int)(r:Nat)(hr:r<536870912)(i:Nat)(hi:i<64)(S:Int→Bool)(hS:S=AY (BS N O u v i)):
  pat ((N:Int),O,a2,a3,a4,a5,(r:Int),top,(u:Int),(v:Int),(i:Int),()) =
  some (match(Au S top i (O.map (rT S top i))).2.2 with
   |some e=>((N:Int),(Au S top i (O.map (rT S top i))).1,a2,true,e.1,e.2.1,((r+Fs S i O+(Au S top i (O.map (rT S top i))).2.1:Nat):Int),top,true,())
   |none=>((N:Int),(Au S top i (O.map (rT S top i))).1,a2,a3,a4,a5,((r+Fs S i O+(Au S top i (O.map (rT S top i))).2.1:Nat):Int),top,false,())):=by
 subst hS
 obtain⟨e,hs⟩:=AKP hN O hO u v hu hv (i:Int)
 have hl:=ADX N O u v (i:Int)
 have hc:=AIP (AY (BS N O u v i)) i O
 have e0:=AVP (N:Int) a2 a3 a4 a5 top O (r:Int) (i:Int) (BS N O u v i) (by omega)
 have e1:=AVO (N:Int) a2 a3 a4 a5 top O hO r (by omega) i hi (BS N O u v i)
 have e2:=AVN (N:Int) a2 a3 a4 a5 top (O.map (rT (AY (BS N O u v i)) top i)) (by simpa using hO) (r+Fs (AY (BS N O u v i)) i O) (by omega) i hi (BS N O u v i)
 rw[AeF]at e2
 rw[AZN,ATG]
 simp only[hs,AN,e0,e1,e2]
 cases (Au (AY (BS N O u v i)) top i (O.map (rT (AY (BS N O u v i)) top i))).2.2 with
 |none=>rfl
 |some e=>rfl
end Go.Pev.Pl
end
section
namespace Go.Pev.Pl
section
variable {α:Type} (z:α)
theorem AAW{a o:List α}{m k:Nat}(h:a.drop m=o.drop m)(hk:m≤k):a.getD k z=o.getD k z:=by
 have:=Agg (fun l=>l.getD (k-m) z) h
 simp only[AfB,Af9]at this
 rw[Nat.add_sub_cancel' hk]at this
 simpa [AfB]using this
theorem Ku{xs:List α}{i:Nat}(h:i<xs.length):xs.take (i+1)=xs.take i++[xs.getD i z]:=by
 rw[Af4 h];simp[h]
theorem AbB{σ ρ:Type}{step:σ→Option (σ⊕ρ)}(st:List α→Nat→Nat→σ)(fin:List α→Nat→ρ)(keep:α→Bool)(o:List α)
  (h:∀ a w j,a.length=o.length→j<o.length→w<j→a.getD j z=o.getD j z→step (st a w j)=some (.inl (if keep (o.getD j z)=true then st (a.set w (o.getD j z)) (w+1) (j+1)else st a w (j+1))))
  (hN:∀ a w,a.length=o.length→step (st a w o.length)=some (.inr (fin a w))) :
  ∀ (k j w:Nat) (a:List α) (cnt:Nat),j+k=o.length→a.length=o.length→w=((o.take j).filter keep).length→a.take w=(o.take j).filter keep→w<j→a.drop j=o.drop j→k<cnt →
  ∃ a':List α,AQ step cnt (st a w j)=some (fin a' (o.filter keep).length)∧a'.length=o.length∧a'.take (o.filter keep).length=o.filter keep:=by
 intro k
 induction k with
 |zero=>
  intro j w a cnt hk hl hw hq hwj hd hn
  obtain⟨cnt,rfl⟩:∃ k,cnt=k+1:=⟨cnt-1,by omega⟩
  have e:j=o.length:=by omega
  subst e
  rw[AgH]at hw hq
  rw[AQ,hN a w hl]
  exact⟨a,by rw[hw],hl,by rw[← hw];exact hq⟩
 |succ k ih=>
  intro j w a cnt hk hl hw hq hwj hd hn
  obtain⟨cnt,rfl⟩:∃ k,cnt=k+1:=⟨cnt-1,by omega⟩
  have g1:=AAW z hd (AfN j)
  have hdd:a.drop (j+1)=o.drop (j+1):=by
   have:=Agg (List.drop 1) hd
   simpa only[Agn]using this
  have hst:(o.take (j+1)).filter keep=(o.take j).filter keep++if keep (o.getD j z)=true then [o.getD j z]else []:=by
   rw[Ku z (by omega),Aga]
   generalize o.getD j z=v
   by_cases h:keep v=true<;>simp[h]
  rw[AQ,h a w j hl (by omega) hwj g1]
  by_cases hv:keep (o.getD j z)=true
  ·rw[AfQ hv]at hst ⊢
   refine ih (j+1) (w+1) (a.set w (o.getD j z)) cnt (by omega) (by simp[hl]) (by rw[hst];simp[hw]) ?_ (by omega) ?_ (by omega)
   ·rw[hst,← hq,Af4 (by simp;omega)]
    simp[List.take_set_of_le]
   ·rw[List.drop_set_of_lt (by omega)]
    exact hdd
  ·rw[AfM hv]at hst ⊢
   rw[AgL]at hst
   exact ih (j+1) w a cnt (by omega) hl (by rw[hst];exact hw) (by rw[hst];exact hq) (by omega) hdd (by omega)
theorem AXD{σ ρ σ' ρ':Type}{find:σ'→Option (σ'⊕ρ')}{step:σ→Option (σ⊕ρ)}(st:List α→Nat→Nat→σ)(fin:List α→Nat→ρ)(sf:Nat→σ')(fr:Nat→ρ')(fn:ρ')(keep:α→Bool)(o:List α)(hs:o.length<4294967296)
  (h:∀ a w j,a.length=o.length→j<o.length→w<j→a.getD j z=o.getD j z→step (st a w j)=some (.inl (if keep (o.getD j z)=true then st (a.set w (o.getD j z)) (w+1) (j+1)else st a w (j+1))))
  (hN:∀ a w,a.length=o.length→step (st a w o.length)=some (.inr (fin a w)))
  (f:∀ i,i<o.length→find (sf i)=if keep (o.getD i z)=true then some (.inl (sf (i+1)))else some (.inr (fr i))) (fN:find (sf o.length)=some (.inr fn)) :
  (o.filter keep=o∧AS find many (sf 0)=some fn) ∨
  (∃ k a',k<o.length∧AS find many (sf 0)=some (fr k)∧AS step many (st o k (k+1))=some (fin a' (o.filter keep).length)∧a'.length=o.length∧(o.filter keep).length≤o.length∧a'.take (o.filter keep).length=o.filter keep):=by
 have hm:4294967296<many:=by simp only[many];omega
 have hall:∀ n,(∀ j,j<n→j<o.length→keep (o.getD j z)=true)→(o.take n).filter keep=o.take n:=by
  intro n hj
  rw[AhS]
  intro x hx
  obtain⟨j,h1,rfl⟩:=AhC.1 hx
  have:=hj j (by omega) (by omega)
  simpa [show j<o.length by omega]using this
 rcases X2 (step:=find) sf o.length (fun i => !keep (o.getD i z)) fr fn (by omega) (fun i hi=>by rw[f i hi];cases keep (o.getD i z)<;>rfl) fN with⟨k,hk,hP,hF,e⟩|⟨hP,e⟩
 ·right
  have hkf:keep (o.getD k z)=false:=by
   cases hq:keep (o.getD k z)
   ·rfl
   ·rw[hq]at hP;cases hP
  have h1:(o.take k).filter keep=o.take k:=hall k fun j h1 _=>by
   have:=hF j h1
   cases hq:keep (o.getD j z)
   ·rw[hq]at this;cases this
   ·rfl
  have h2:(o.take (k+1)).filter keep=o.take k:=by
   rw[Ku z hk,Aga,h1,Agb,hkf]
   simp
  obtain⟨a',e2,e3,e4⟩:=AbB z st fin keep o h hN (o.length-(k+1)) (k+1) k o many (by omega) rfl (by rw[h2,AfT];omega) (by rw[h2]) (by omega) rfl (by omega)
  exact⟨k,a',hk,e,by rw[Ag];exact e2,e3,Agw _ _,e4⟩
 ·left
  refine⟨?_,e⟩
  have:=hall o.length fun j _ h2=>by
   have:=hP j h2
   cases hq:keep (o.getD j z)
   ·rw[hq]at this;cases this
   ·rfl
  rwa [AgH]at this
theorem ASC{a:List α}{w:Nat}(h:w≤a.length):(BV w (a.length-w) z a).take w=a.take w∧(BV w (a.length-w) z a).length=a.length:=by
 constructor
 ·rw[BV,List.take_append_of_le_length (by simp;omega),Ag9,Nat.min_self]
 ·simp[BV];omega
end
end Go.Pev.Pl
end
section
namespace Go.Pev.Pl
open Tok
theorem AWk(n:Nat)(hn:n<4294967296):AMx ((n:Int),())=some ([],()):=by
 have e0:IntKind.wrap .i64 ((n:Int)-IntKind.wrap .i64 ((0:Int)-0))=(n:Int):=by rw[Aj (n:=(0:Int)-0) (by omega),Aj (by omega)];omega
 rw[AMw,XG]
 simp only[e0,Al]
 rw[Ae8 (by omega)]
 simp only[]
 by_cases h:0<n
 ·rw[Ae9 (by omega)]
  have s1:Bz ([]:List Unit) (0:Int) (0:Int)=some []:=by rw[Mk];rfl
  have s2:Bz (Je (AE (n:Int)) ((0:Int),((0:Int),((0:Int),(false,()))))) (0:Int) (0:Int)=some []:=by
   rw[Mk,Kv,AfQ (by omega)]
   simp
  have s3:K6 (n:Int)=true:=(Jc _).2 (by omega)
  simp only[s1,s2,s3]
  rfl
 ·rw[Ae8 (by omega)]
theorem ANW(xss:List (List Tie))(hs:xss.length<4294967296)(h:xss.flatten.length<4294967296):NM (xss,())=some (xss.flatten,()):=by
 rw[AA5,NL]
 have e:=Cf (step:=EI) (fun i (a:Nat)=>(xss,(a:Int),xss,AO xss,(i:Int),())) xss (fun x a=>.inl (a+x.length)) (fun a=>.inl (xss,(a:Int),())) (fun i a=>a=(xss.take i).flatten.length) (by omega)
  (fun i x a hi hx ha=>by
   refine⟨fun m' h' => ?_,fun r h'=>by cases h'⟩
   cases h'
   have h1:=C8 hx
   have h2:=D4 xss (i+1)
   rw[h1,AfH]at h2
   rw[EI]
   simp only[AN]
   rw[AJ,Ae9 hi]
   simp only[Ai hx]
   rw[wrap_add (by omega),AH (by omega),Al,Ae8 (by omega)]
   exact⟨rfl,by rw[h1,AfH,ha]⟩)
  (fun a _=>by rw[EI,AN,AJ,Ae8 (by omega)]) 0 rfl
 have e':AS EI many (xss,(0:Int),xss,AO xss,(0:Int),())=_:=e
 rw[e',BL]
 have hsum:∀ (l:List (List Tie)) (a:Nat),l.foldl (fun a x=>a+x.length) a=a+l.flatten.length:=by
  intro l
  induction l with
  |nil=>intro a;rfl
  |cons x l ih=>intro a;rw[Af5,ih,Agp,AfH];omega
 rw[hsum,AgD]
 simp only[AWk _ h]
 have g:=Cf (step:=EH) (fun i (a:List Tie)=>(a,xss,AO xss,(i:Int),())) xss (fun x a=>.inl (a++x)) (fun a=>.inl (a,())) (fun i a=>a=(xss.take i).flatten) (by omega)
  (fun i x a hi hx ha=>by
   refine⟨fun m' h' => ?_,fun r h'=>by cases h'⟩
   cases h'
   have h1:=C8 hx
   have h2:=D4 xss (i+1)
   rw[h1,AfH]at h2
   rw[EH]
   simp only[AN]
   rw[AJ,Ae9 hi]
   simp only[Ai hx]
   rw[AH (by omega),BI (by rw[ha];omega)]
   exact⟨rfl,by rw[h1,ha]⟩)
  (fun a _=>by rw[EH,AN,AJ,Ae8 (by omega)]) [] rfl
 have g':AS EH many ([],xss,AO xss,(0:Int),())=_:=g
 rw[g',BL]
 have hcat:∀ (l:List (List Tie)) (a:List Tie),l.foldl (fun a x=>a++x) a=a++l.flatten:=by
  intro l
  induction l with
  |nil=>intro a;simp
  |cons x l ih=>intro a;rw[Af5,ih,Agp,Afo]
 rw[hcat]
 rfl
def FG(x:Edge):Edge:=(min x.1 x.2.1,max x.1 x.2.1,())
abbrev WM:=List (Edge×Int)
def FF(m:WM)(x:Edge):Int:=(AT m x).getD 0
theorem AbD(o:List Edge)(m:WM)(hs:o.length<4294967296):
  ∃ a:List Edge,IF (o,m,())=some (a,m,(((o.filter fun x => !ieq (FF m x) 0).length:Nat):Int),())∧a.take (o.filter fun x => !ieq (FF m x) 0).length=o.filter fun x => !ieq (FF m x) 0:=by
 have hp:=AXD (find:=CA) (step:=C5) ((0:Int),(0:Int),()) (fun a (w j:Nat)=>(a,m,(w:Int),(j:Int),())) (fun a (w:Nat)=>.inl (a,m,(w:Int),())) (fun i=>(o,m,(o.length:Int),(i:Int),())) (fun i=>.inl (o,m,(i:Int),())) (.inr (.inl (o,m,()))) (fun x => !ieq (FF m x) 0) o hs
  (fun a w j ha hj hw hg=>by
   unfold C5
   dsimp only
   simp (disch:=omega) only[AN,AJ,ha,hj,AfK,Ci ((0:Int),(0:Int),()),E2,AAt,hg,AH]
   unfold FF
   cases (!ieq ((AT m (o.getD j ((0:Int),(0:Int),()))).getD 0) 0)<;>rfl)
  (fun a w ha=>by unfold C5;dsimp only;rw[AN,AJ,Ae8 (by omega)])
  (fun i hi=>by
   unfold CA
   dsimp only
   simp (disch:=omega) only[AJ,hi,AfK,Ci ((0:Int),(0:Int),()),E2,AH]
   unfold FF
   cases ieq ((AT m (o.getD i ((0:Int),(0:Int),()))).getD 0) 0<;>rfl)
  (by unfold CA;dsimp only;rw[AJ,Ae8 (by omega)])
 rw[Nw,G5,Nq,G2]
 generalize (fun x => !ieq (FF m x) 0)=keep at *
 rcases hp with⟨h0,e⟩|⟨k,a',hk,e,e2,hl,hle,e4⟩
 ·have e':AS CA many (o,m,AO o,(0:Int),())=_:=e
  simp only[e',Ao]
  exact⟨o,by rw[h0];rfl,by rw[h0,AgH]⟩
 ·have e':AS CA many (o,m,AO o,(0:Int),())=_:=e
  obtain⟨c1,c2⟩:=ASC ((0:Int),(0:Int),()) (a:=a') (w:=(o.filter keep).length) (by omega)
  have s0:Bz (BV (o.filter keep).length (a'.length-(o.filter keep).length) ((0:Int),(0:Int),()) a') (0:Int) (((o.filter keep).length:Nat):Int)=some _:=Jw (by omega)
  have s1:Bz a' (((o.filter keep).length:Nat):Int) (a'.length:Int)=some _:=Du (by omega)
  simp only[e',Ao]
  rw[Ae8 (by omega),AH (by omega)]
  simp only[e2,s1,AN,Afj,IA,s0]
  refine⟨_,?_,c1.trans e4⟩
  rw[AfT,c2,AgB (by omega)]
theorem APe{N:Nat}(h1:1≤N)(hN:N≤64)(ts:List Tie)(l:List Edge)(hs:l.length<1073741824)(m:WM)(i:Nat)(x:Edge)(hi:i<l.length)(hx:l[i]? = some x)(hb:0≤FF m (FG x)∧FF m (FG x)≤(i:Int)):
  Dv ((N:Int),ts,m,l,(l.length:Int),(i:Int),())=if In (N:Int) x.1∧In (N:Int) x.2.1 then some (.inl ((N:Int),ts,Af m (FG x) (FF m (FG x)+1),l,(l.length:Int),((i+1:Nat):Int),()))else some (.inr (.inl (10,()))):=by
 unfold Dv
 dsimp only
 rw[AJ,Ae9 hi]
 simp only[Ai hx,Ie,XB]
 have hw:IntKind.wrap .i64 (FF m (FG x)+1)=FF m (FG x)+1:=Aj (by omega)
 obtain⟨m1,m2⟩:=AQS m (FG x) (FF m (FG x)) (FF m (FG x)+1)
 unfold FF FG at m1 m2 hw
 by_cases c1:min x.1 x.2.1<0
 ·rw[Al,Ae9 c1,AfM (fun q=>by have q1:=q.1.2.2.1;have q2:=q.2.2.2.1;omega)]
 ·rw[Al,Ae8 c1]
  by_cases c2:(N:Int)≤max x.1 x.2.1
  ·rw[Ap,Ae9 c2,AfM (fun q=>by have q1:=q.1.2.2.2;have q2:=q.2.2.2.2;omega)]
  ·rw[Ap,Ae8 c2,AfQ ⟨⟨by omega,by omega,by omega,by omega⟩,⟨by omega,by omega,by omega,by omega⟩⟩]
   simp only[m1,hw,m2,AH (show i+1<9223372036854775808 by omega)]
   rfl
theorem APh{N:Nat}(h1:1≤N)(hN:N≤64)(ts:List Tie)(l:List Edge)(hs:l.length<1073741824):
  (¬ Ado N l∧AS Dv many ((N:Int),ts,([]:WM),l,(l.length:Int),(0:Int),())=some (.inl (10,()))) ∨
  (Ado N l∧∃ m:WM,(∀ x,FF m x=0↔x∉l.map FG)∧AS Dv many ((N:Int),ts,([]:WM),l,(l.length:Int),(0:Int),())=some (.inr (.inl ((N:Int),ts,m,())))):=by
 have key:∀ (k i:Nat) (m:WM) (cnt:Nat),i+k=l.length→k<cnt→(∀ x,0≤FF m x∧FF m x≤(i:Int)∧(FF m x=0↔x∉(l.take i).map FG)) →
   ((∃ x∈l.drop i,¬ (In (N:Int) x.1∧In (N:Int) x.2.1))∧AQ Dv cnt ((N:Int),ts,m,l,(l.length:Int),(i:Int),())=some (.inl (10,()))) ∨
   ((∀ x∈l.drop i,In (N:Int) x.1∧In (N:Int) x.2.1)∧∃ m':WM,(∀ x,FF m' x=0↔x∉l.map FG)∧AQ Dv cnt ((N:Int),ts,m,l,(l.length:Int),(i:Int),())=some (.inr (.inl ((N:Int),ts,m',())))):=by
  intro k
  induction k with
  |zero=>
   intro i m cnt hi hc hm
   obtain⟨cnt,rfl⟩:∃ c,cnt=c+1:=⟨cnt-1,by omega⟩
   right
   have:i=l.length:=by omega
   subst this
   refine⟨fun x hx=>(by rw[List.drop_length]at hx;cases hx),m,fun x => ?_,?_⟩
   ·have:=(hm x).2.2
    rwa [AgH]at this
   ·unfold Dv
    rw[AQ]
    dsimp only
    rw[AJ,Ae8 (by omega)]
  |succ k ih=>
   intro i m cnt hi hc hm
   obtain⟨cnt,rfl⟩:∃ c,cnt=c+1:=⟨cnt-1,by omega⟩
   have hi':i<l.length:=by omega
   have hx:l[i]? = some l[i]:=AfE hi'
   have hdr:l.drop i=l[i]::l.drop (i+1):=Afw hi'
   have htk:l.take (i+1)=l.take i++[l[i]]:=Af4 hi'
   rw[hdr]
   generalize hxe:l[i]=x at *
   have hb:=hm (FG x)
   obtain⟨b1,b2,_⟩:=hb
   rw[AQ,APe h1 hN ts l hs m i x hi' hx ⟨b1,b2⟩]
   by_cases hin:In (N:Int) x.1∧In (N:Int) x.2.1
   ·rw[AfQ hin]
    have hst:∀ y,FF (Af m (FG x) (FF m (FG x)+1)) y=if y=FG x then FF m (FG x)+1 else FF m y:=by
     intro y
     unfold FF
     rw[Z2]
     split<;>rfl
    have:=ih (i+1) (Af m (FG x) (FF m (FG x)+1)) cnt (by omega) (by omega) (fun y=>by
     rw[hst]
     obtain⟨d1,d2,d3⟩:=hm y
     rw[htk,Agh,AfD]
     by_cases e:y=FG x
     ·rw[AfQ e]
      refine⟨by omega,by omega,⟨fun q=>by omega,fun q=>absurd (.inr (by simp[e])) q⟩⟩
     ·rw[AfM e]
      refine⟨d1,by omega,d3.trans ⟨fun q hh => ?_,fun q hh=>q (.inl hh)⟩⟩
      rcases hh with hh|hh
      ·exact q hh
      ·exact e (by simpa using hh))
    rcases this with⟨⟨y,hy1,hy2⟩,h3⟩|⟨h2,h3⟩
    ·exact .inl ⟨⟨y,by simp[hy1],hy2⟩,h3⟩
    ·refine .inr ⟨fun y hy => ?_,h3⟩
     rcases AfG.1 hy with rfl|hy
     ·exact hin
     ·exact h2 y hy
   ·rw[AfM hin]
    exact .inl ⟨⟨x,by simp,hin⟩,rfl⟩
 have hz:∀ x:Edge,FF ([]:WM) x=0:=fun _=>rfl
 have:=key l.length 0 [] many (by omega) (by simp only[many];omega) (fun x=>by rw[hz];simp)
 rw[Ag8]at this
 rw[Ag]
 rcases this with⟨⟨x,hx,hn⟩,e⟩|⟨h,e⟩
 ·exact .inl ⟨fun q=>hn (q x hx),e⟩
 ·exact .inr ⟨h,e⟩
theorem AVD{N:Nat}{ts:List Tie}(h:RG2 N ts)(l:List Edge)(hs:l.length<1073741824):
  UD (((N:Int),(ts,())),l,())=some (if ∀ e∈l,In (N:Int) e.1∧In (N:Int) e.2.1 then(VN N ts l,0,())else([],10,())):=by
 have ht:=h.ht
 rw[Yv,Po]
 simp only[h.lr,AfI,AN]
 rcases APh h.h1 h.hN ts l hs with⟨hn,e⟩|⟨hall,m,hm,e⟩
 ·rw[AfM (show ¬ ∀ e∈l,In (N:Int) e.1∧In (N:Int) e.2.1 from hn)]
  simp only[e]
 ·rw[AfQ (show ∀ e∈l,In (N:Int) e.1∧In (N:Int) e.2.1 from hall)]
  obtain⟨a,e1,e2⟩:=AbD (ts.map ed) m (by rw[Af8];omega)
  simp only[e,AQw (N:Int) ts h.ht h.lr,e1,Bi,IA,e2]
  congr 2
  have hf:((ts.map ed).filter fun x => !ieq (FF m x) 0)=(ts.map ed).filter fun x=>decide (x∈l.map FG):=by
   refine Ah0 fun x _ => ?_
   rw[Ao,AgZ,Agd,Aft,Af3,hm x]
   exact AhK
  rw[hf]
  have p1:((ts.map ed).filter fun x=>decide (x∈l.map FG)).Pairwise IL:=h.edP.filter _
  have p2:=ARS N ts l
  have hmem:∀ x:Edge,x∈((ts.map ed).filter fun x=>decide (x∈l.map FG))↔x∈VN N ts l:=by
   intro x
   unfold VN
   rw[Afv,Afv,Zj,Af3,Af3]
   have norm:∀ y:Edge,x=FG y→x.1<x.2.1→x=y∨x=(y.2.1,y.1,()):=by
    rintro⟨a,b,⟨⟩⟩ rfl hlt
    unfold FG at hlt ⊢
    simp only at hlt ⊢
    rcases Int.lt_or_le a b with q|q
    ·left;rw[Int.min_eq_left (by omega),Int.max_eq_right (by omega)]
    ·right;rw[Int.min_eq_right (by omega),Int.max_eq_left (by omega)]
   constructor
   ·rintro⟨q1,q2⟩
    have hlt:=h.Ae2 x q1
    obtain⟨i1,i2⟩:=h.inE x q1
    refine⟨⟨i1.2.2.1,hlt,i2.2.2.2,?_⟩,q1⟩
    obtain⟨y,hy,hyx⟩:=AfW.1 q2
    unfold WS
    rcases norm y hyx.symm hlt with rfl|hh
    ·exact .inl hy
    ·refine .inr ?_
     rw[hh]
     exact hy
   ·rintro⟨⟨q1,q2,q3,q4⟩,q5⟩
    refine⟨q5,AfW.2 ?_⟩
    obtain⟨a,b,⟨⟩⟩:=x
    unfold FG
    simp only at q2
    rcases q4 with q4|q4
    ·exact⟨_,q4,by simp only;rw[Int.min_eq_left (by omega),Int.max_eq_right (by omega)]⟩
    ·exact⟨_,q4,by simp only;rw[Int.min_eq_right (by omega),Int.max_eq_left (by omega)]⟩
  have asym:∀ a b:Edge,IL a b→IL b a→False:=fun a b q1 q2=>by unfold IL at *;omega
  have nd1:((ts.map ed).filter fun x=>decide (x∈l.map FG)).Nodup:=p1.imp fun {a b} hh=>by rintro rfl;exact asym _ _ hh hh
  have nd2:(VN N ts l).Nodup:=p2.imp fun {a b} hh=>by rintro rfl;exact asym _ _ hh hh
  exact Aht (le:=IL) (fun a b _ _ q1 q2=>(asym a b q1 q2).elim) p1 p2 ((Ahl nd1 nd2).2 hmem)
theorem APg(n:Int)(ts:List Tie)(ht:ts.length≤400)(l:List Edge)(hs:l.length<1073741824):
  ∃ xs e,UD ((n,(ts,())),l,())=some (xs,e,())∧TB ((n,(ts,())),l,())=some (xs,e,())∧xs.length≤4096:=by
 rcases Mn n ts (by omega)with⟨r1,r⟩|⟨N,rfl,h⟩
 ·refine⟨[],1,?_,?_,by simp⟩
  ·rw[Yv,Po]
   simp only[r,Afc]
  ·rw[TA,L8]
   simp only[r1,Afc]
 ·have e1:=AVD h l hs
  have e2:=ART h l hs
  by_cases hall:∀ e∈l,In (N:Int) e.1∧In (N:Int) e.2.1
  ·rw[AfQ hall]at e1 e2
   exact⟨_,_,e1,e2,AWr N h.hN ts l⟩
  ·rw[AfM hall]at e1 e2
   exact⟨_,_,e1,e2,by simp⟩
end Go.Pev.Pl
end
section
namespace Go.Pev.Pl
open Tok
theorem AKR{N:Nat}(hN:N≤64)(u v:Nat)(hu:u<N)(hv:v<N)(top w8:Int):
  ∀ (m:Nat) (O:List Tie) (r cnt:Nat),m≤64→O.length≤400→r+1000*m<536870912→m<cnt →
  AQ D3 cnt ((0:Int),false,false,(0:Int),(0:Int),(0:Int),(u:Int),(v:Int),w8,true,(N:Int),O,true,false,(0:Int),(0:Int),(r:Int),top,(m:Int)-1,()) =
  some (.inl ((0:Int),false,false,(0:Int),(0:Int),(0:Int),(N:Int),(LC N u v top m O r).1,true,
   (match(LC N u v top m O r).2.1 with|some _=>true|none=>false),(match(LC N u v top m O r).2.1 with|some e=>e.1|none=>0),(match(LC N u v top m O r).2.1 with|some e=>e.2.1|none=>0),((LC N u v top m O r).2.2:Int),top,())):=by
 intro m
 induction m with
 |zero=>
  intro O r cnt hm hO hr hc
  obtain⟨cnt,rfl⟩:∃ c,cnt=c+1:=⟨cnt-1,by omega⟩
  unfold D3
  rw[AQ]
  dsimp only
  rw[Ap,Ae8 (by omega)]
  rfl
 |succ m ih=>
  intro O r cnt hm hO hr hc
  obtain⟨cnt,rfl⟩:∃ c,cnt=c+1:=⟨cnt-1,by omega⟩
  have em:((m+1:Nat):Int)-1=(m:Int):=by omega
  have hp:=AcR hN u v hu hv top O hO true false 0 0 r (by omega) m (by omega) _ rfl
  have l1:=SD (AY (BS N O u v m)) top m (O.map (rT (AY (BS N O u v m)) top m))
  have l2:=AIP (AY (BS N O u v m)) m O
  rw[Af8]at l1
  rw[em,LC]
  cases hf:(Au (AY (BS N O u v m)) top m (O.map (rT (AY (BS N O u v m)) top m))).2.2 with
  |some e=>
   rw[hf]at hp
   have hst:D3 ((0:Int),false,false,(0:Int),(0:Int),(0:Int),(u:Int),(v:Int),w8,true,(N:Int),O,true,false,(0:Int),(0:Int),(r:Int),top,(m:Int),())=some (.inr (.inl ((0:Int),false,false,(0:Int),(0:Int),(0:Int),(N:Int),(Au (AY (BS N O u v m)) top m (O.map (rT (AY (BS N O u v m)) top m))).1,true,true,e.1,e.2.1,((r+Fs (AY (BS N O u v m)) m O+(Au (AY (BS N O u v m)) top m (O.map (rT (AY (BS N O u v m)) top m))).2.1:Nat):Int),top,()))):=by
    unfold D3
    dsimp only
    rw[Ap,Ae9 (show(0:Int)≤(m:Int) by omega)]
    simp only[hp,AfI]
   rw[AQ,hst]
  |none=>
   rw[hf]at hp
   have hst:D3 ((0:Int),false,false,(0:Int),(0:Int),(0:Int),(u:Int),(v:Int),w8,true,(N:Int),O,true,false,(0:Int),(0:Int),(r:Int),top,(m:Int),())=some (.inl ((0:Int),false,false,(0:Int),(0:Int),(0:Int),(u:Int),(v:Int),w8,true,(N:Int),(Au (AY (BS N O u v m)) top m (O.map (rT (AY (BS N O u v m)) top m))).1,true,false,(0:Int),(0:Int),((r+Fs (AY (BS N O u v m)) m O+(Au (AY (BS N O u v m)) top m (O.map (rT (AY (BS N O u v m)) top m))).2.1:Nat):Int),top,(m:Int)-1,())):=by
    unfold D3
    dsimp only
    rw[Ap,Ae9 (show(0:Int)≤(m:Int) by omega)]
    simp only[hp,Afc]
    rw[Aj (by omega)]
   rw[AQ,hst]
   exact ih _ _ cnt (by omega) (by rw[l1.1];exact hO) (by omega) (by omega)
theorem AYu{N:Nat}{ts:List Tie}(h:RG2 N ts)(u v:Int):
  (¬ ((0≤u∧u<(N:Int))∧(0≤v∧v<(N:Int)))∧Yc (((N:Int),(ts,())),u,v,())=some ((N:Int),ts,AJJ,10,())) ∨
  (((0≤u∧u<(N:Int))∧(0≤v∧v<(N:Int)))∧ts.any (CB u v)=false∧Yc (((N:Int),(ts,())),u,v,())=some ((N:Int),ts,AJJ,6,())) ∨
  (((0≤u∧u<(N:Int))∧(0≤v∧v<(N:Int)))∧ts.any (CB u v)=true∧∃ t,ts[ts.findIdx (CB u v)]? = some t ∧
   Yc (((N:Int),(ts,())),u,v,())=some ((N:Int),(Ns N ts (ts.findIdx (CB u v)) t).1,Adf t.2.2.2.1 (Ns N ts (ts.findIdx (CB u v)) t).2.1 (Ns N ts (ts.findIdx (CB u v)) t).2.2,0,())):=by
 have ht:=h.ht
 have hN:=h.hN
 rw[AF6,Yb]
 simp only[Yw h]
 by_cases huv:InV N u∧InV N v
 ·right
  rw[AfQ huv,AfQ huv]
  cases ha:ts.any (CB u v)
  ·left
   refine⟨huv,rfl,?_⟩
   simp only[AfO,AfP,Ao]
   rfl
  ·right
   have hk:ts.findIdx (CB u v)<ts.length:=Ago.2 (Agk.1 ha)
   have hx:ts[ts.findIdx (CB u v)]? = some ts[ts.findIdx (CB u v)]:=AfE hk
   refine⟨huv,rfl,_,hx,?_⟩
   have hm:ts[ts.findIdx (CB u v)]∈ts:=AgP hk
   generalize ts[ts.findIdx (CB u v)]=t at *
   generalize ts.findIdx (CB u v)=p at *
   obtain⟨i1,i2,hlt,l1,l2⟩:=h.tie hm
   obtain⟨a,ha'⟩:=AfL i1.2.2.1
   obtain⟨b,hb'⟩:=AfL i2.2.2.1
   obtain⟨lv,hlv⟩:=AfL l1
   have haN:a<N:=by have:=i1.2.2.2;omega
   have hbN:b<N:=by have:=i2.2.2.2;omega
   have hT:=Wn hN
   have hT64:=ASn hN
   have s1:Bz ts (0:Int) (p:Int)=some (ts.take p):=Jw (by omega)
   have s2:Bz ts ((p+1:Nat):Int) (ts.length:Int)=some (ts.drop (p+1)):=Du (by omega)
   have hcat:NM ([ts.take p,ts.drop (p+1)],())=some (ts.take p++ts.drop (p+1),()):=by
    rw[ANW _ (by simp) (by simp;omega)]
    simp
   simp only[Afb,Df,AfI]
   simp only[Ai hx,s1]
   rw[AH (by omega)]
   simp only[AN,s2,hcat,Zr N hN,hT]
   unfold Ns
   cases h4:t.2.2.2.1
   ·obtain⟨m,hmany⟩:∃ m,many=m+1:=⟨many-1,by simp only[many]⟩
    have:AS D3 many ((0:Int),false,false,(0:Int),(0:Int),(0:Int),t.1,t.2.1,t.2.2.1,false,(N:Int),ts.take p++ts.drop (p+1),false,false,(0:Int),(0:Int),(0:Int),(LB N:Int),t.2.2.1,()) =
      some (.inl ((0:Int),false,false,(0:Int),(0:Int),(0:Int),(N:Int),ts.take p++ts.drop (p+1),false,false,(0:Int),(0:Int),(0:Int),(LB N:Int),())):=by
     rw[Ag,hmany,AQ,D3]
    simp only[this]
    rfl
   ·simp only[Afb]
    have hlen:(ts.take p++ts.drop (p+1)).length≤400:=by rw[AfH,AfT,Afj];omega
    have hs:=AKR hN a b haN hbN (LB N:Int) t.2.2.1 (lv+1) (ts.take p++ts.drop (p+1)) 0 many (by omega) hlen (by omega) (by simp only[many];omega)
    rw[← ha',← hb',show((lv+1:Nat):Int)-1=t.2.2.1 by omega]at hs
    have e2:t.1.toNat=a:=by omega
    have e3:t.2.1.toNat=b:=by omega
    have e4:t.2.2.1.toNat+1=lv+1:=by omega
    rw[e2,e3,e4]
    rw[← Ag]at hs
    have hs':AS D3 many ((0:Int),false,false,(0:Int),(0:Int),(0:Int),t.1,t.2.1,t.2.2.1,true,(N:Int),ts.take p++ts.drop (p+1),true,false,(0:Int),(0:Int),(0:Int),(LB N:Int),t.2.2.1,())=_:=hs
    simp only[hs']
    cases (LC N a b (LB N:Int) (lv+1) (ts.take p++ts.drop (p+1)) 0).2.1 with
    |some e=>rfl
    |none=>rfl
 ·left
  rw[AfM huv,AfM huv]
  refine⟨huv,?_⟩
  simp only[Ao]
  rfl
theorem AYJ(N u v:Nat)(top:Int):∀ (m:Nat) (O:List Tie) (r:Nat),(LC N u v top m O r).1.length=O.length:=by
 intro m
 induction m with
 |zero=>intro O r;rfl
 |succ m ih=>
  intro O r
  have l1:=SD (AY (BS N O u v m)) top m (O.map (rT (AY (BS N O u v m)) top m))
  rw[Af8]at l1
  rw[LC]
  split
  ·exact l1.1
  ·rw[ih];exact l1.1
theorem AWq(N:Nat)(ts:List Tie)(p:Nat)(t:Tie):(Ns N ts p t).1.length≤ts.length:=by
 unfold Ns
 split
 ·rw[AYJ,AfH,AfT,Afj];omega
 ·show(ts.take p++ts.drop (p+1)).length≤_
  rw[AfH,AfT,Afj];omega
theorem AU6(n:Int)(ts:List Tie)(ht:ts.length≤400)(u v:Int):∃ O w e,Yc ((n,(ts,())),u,v,())=some (n,O,w,e,())∧VE ((n,(ts,())),u,v,())=some (n,O,w,e,())∧O.length≤ts.length:=by
 rcases Mn n ts (by omega)with⟨r1,r⟩|⟨N,rfl,h⟩
 ·refine⟨ts,AJJ,1,?_,?_,AfN _⟩
  ·rw[AF6,Yb]
   simp only[Y0 u v r,Ao]
   rfl
  ·rw[Ze,P1]
   simp only[r1,Afc]
   rfl
 ·rcases AYu h u v with⟨q,e⟩|⟨q,q1,e⟩|⟨q,q1,t,g,e⟩
  ·rcases SW h u v with⟨_,e'⟩|⟨q',_⟩|⟨q',_⟩
   ·exact⟨_,_,_,e,e',AfN _⟩
   ·exact absurd q' q
   ·exact absurd q' q
  ·rcases SW h u v with⟨q',_⟩|⟨_,_,e'⟩|⟨_,q',_⟩
   ·exact absurd q q'
   ·exact⟨_,_,_,e,e',AfN _⟩
   ·rw[q1]at q';cases q'
  ·rcases SW h u v with⟨q',_⟩|⟨_,q',_⟩|⟨_,_,t',g',e'⟩
   ·exact absurd q q'
   ·rw[q1]at q';cases q'
   ·rw[g]at g'
    cases g'
    exact⟨_,_,_,e,e',AWq _ _ _ _⟩
end Go.Pev.Pl
end
section
namespace Go.Pev.Pl
open Tok
theorem AUZ(x y:Tie):(ieq x.1 y.1&&(ieq x.2.1 y.2.1&&(ieq x.2.2.1 y.2.2.1&&((x.2.2.2.1==y.2.2.2.1)&&true))))=decide (x=y):=by
 obtain⟨a,b,c,d,⟨⟩⟩:=x
 obtain⟨a',b',c',d',⟨⟩⟩:=y
 simp only[Ao]
 rw[AgZ]
 simp only[AfF,Af3,Ag3,Afh,and_true]
theorem X4(n m:Int)(xs ys:List Tie)(hs:xs.length<4611686018427387904):OF ((n,(xs,())),(m,(ys,())),())=some (decide (n=m∧xs=ys),()):=by
 rw[ADa,PU]
 simp only[QN]
 rw[Ao]
 by_cases hn:n=m
 ·rw[Ae9 hn]
  simp only[AfI]
  by_cases hl:xs.length=ys.length
  ·rw[Ae9 hl]
   have e:=X2 (step:=ES) (fun i=>(n,xs,m,ys,(i:Int),())) xs.length (fun i => !decide (xs.getD i zT=ys.getD i zT)) (fun _=>.inl (false,())) (.inr (.inl ())) (by omega)
    (fun i hi=>by
     have hx:xs[i]? = some xs[i]:=AfE hi
     have hy:ys[i]? = some (ys[i]'(by omega)):=AfE (by omega)
     have gx:xs.getD i zT=xs[i]:=by simp[hi]
     have gy:ys.getD i zT=ys[i]'(by omega):=by simp[show i<ys.length by omega]
     rw[ES,AN,AJ,Ae9 hi]
     simp only[Ai hx,Ai hy,AUZ,gx,gy]
     rw[AH (by omega)]
     by_cases he:xs[i]=ys[i]'(by omega)
     ·simp[he]
     ·simp[he])
    (by rw[ES,AN,AJ,Ae8 (by omega)])
   rcases e with⟨k,k1,k2,_,k4⟩|⟨k1,k2⟩
   ·have k4':AS ES many (n,xs,m,ys,(0:Int),())=_:=k4
    simp only[AfI,k4']
    rw[Ae8]
    rintro⟨_,rfl⟩
    simp at k2
   ·have k2':AS ES many (n,xs,m,ys,(0:Int),())=_:=k2
    simp only[AfI,k2']
    rw[Ae9]
    exact⟨hn,G4 zT hl fun j hj=>by simpa using k1 j hj⟩
  ·rw[Ae8 hl]
   simp only[Afc]
   rw[Ae8]
   rintro⟨_,rfl⟩
   exact hl rfl
 ·rw[Ae8 hn]
  simp only[Afc]
  rw[Ae8]
  exact fun h=>hn h.1
end Go.Pev.Pl
end
section
namespace Go.Pev.Pl
open Tok
theorem Wh{n:Int}(l:List Edge)(hs:l.length<1073741824)(ha:∀ e∈l,In n e.1∧In n e.2.1):
  ∀ (m i c1 c2:Nat) (rings:List (List Int)) (t1 t2:List Bool),i+m=l.length→t1.length=i→t2.length=i→FC n rings (l.take i)→m<c1→m<c2 →
  ∃ zs b1 b2,AQ Hq c1 (l,n,rings,(0:Int),t1,(i:Int),())=some (.inl (n,zs,(0:Int),b1,()))∧AQ Bv c2 (n,rings,(0:Int),t2,l,(l.length:Int),(i:Int),())=some (.inl (n,zs,(0:Int),b2,()))∧FC n zs l:=by
 intro m
 induction m with
 |zero=>
  intro i c1 c2 rings t1 t2 hi ht1 ht2 h hc1 hc2
  obtain⟨c1,rfl⟩:∃ c,c1=c+1:=⟨c1-1,by omega⟩
  obtain⟨c2,rfl⟩:∃ c,c2=c+1:=⟨c2-1,by omega⟩
  rw[AgA (by omega)]at h
  refine⟨rings,t1,t2,?_,?_,h⟩
  ·rw[AQ,Hq,AN,AJ,Ae8 (by omega)]
  ·rw[AQ,Bv,AJ,Ae8 (by omega)]
 |succ m ih=>
  intro i c1 c2 rings t1 t2 hi ht1 ht2 h hc1 hc2
  obtain⟨c1,rfl⟩:∃ c,c1=c+1:=⟨c1-1,by omega⟩
  obtain⟨c2,rfl⟩:∃ c,c2=c+1:=⟨c2-1,by omega⟩
  have hi':i<l.length:=by omega
  have hx:l[i]? = some l[i]:=AfE hi'
  obtain⟨iu,iv⟩:=ha _ (AgP hi')
  obtain⟨zs,q,e1,e2,_⟩:=AUA h iu iv
  obtain⟨zs',q',f1,f2,_⟩:=ASO (n:=n) (rings:=rings) l[i].1 l[i].2.1 h.fr.dom
  rw[e1]at f1
  cases f1
  rw[← Af4 hi']at e2
  obtain⟨zs2,b1,b2,g1,g2,g3⟩:=ih (i+1) c1 c2 zs (A4 t1 [ieq q 0]) (A4 t2 [ieq q 0]) (by omega) (by simp[Cd,ht1]) (by simp[Cd,ht2]) e2 (by omega) (by omega)
  refine⟨zs2,b1,b2,?_,?_,g3⟩
  ·rw[AQ,Hq,AN,AJ,Ae9 hi']
   simp only[Ai hx,f2]
   rw[AH (by omega),BI (by simp only[AN,AfJ,AfV];omega)]
   exact g1
  ·rw[AQ,Bv,AJ,Ae9 hi']
   simp only[Ai hx,e1]
   rw[AH (by omega),BI (by simp only[AN,AfJ,AfV];omega)]
   exact g2
theorem AdU{N:Nat}(h1:1≤N)(hN:N≤64)(l:List Edge)(hs:l.length<1073741824)(ha:∀ e∈l,In (N:Int) e.1∧In (N:Int) e.2.1):
  ∃ zs,fof ((N:Int),l,())=some (((N:Int),(zs,())),0,())∧AeK ((N:Int),l,())=some (((N:Int),(zs,())),0,())∧FC (N:Int) zs l:=by
 have hF:=ABY h1 hN
 have hD:=hF.fr.dom
 have hRF:=Kd.2 hF.fr
 obtain⟨zs,b1,b2,e1,e2,h2⟩:=Wh l hs ha l.length 0 many many (BJ N) [] [] (by omega) rfl rfl (by simpa using hF) (by simp only[many];omega) (by simp only[many];omega)
 refine⟨zs,?_,?_,h2⟩
 ·have hth:KO (((N:Int),(BJ N,())),l.flatMap fun e=>[e.1,e.2.1],())=some (0,()):=by
   have hfl:=ANI l
   rw[Om _ _ _ hD (by omega),ANJ,AIo,AfQ hRF]
   split
   ·rfl
   ·rename_i hc
    exact absurd (AfY.2 fun e he=>Ae9 (ha e he)) hc
  have hm:Gy (N:Int)=((N:Int),BJ N,0,()):=by
   unfold Gy
   rw[AfQ (show Sz (N:Int)from⟨by omega,by omega⟩),Af2]
  have e2':AQ Bv many ((N:Int),BJ N,(0:Int),[],l,(l.length:Int),(0:Int),())=_:=e2
  rw[ARc,AM8]
  simp only[ADP,hm,L0,AfI]
  rw[TC,L9,MF,H9]
  simp only[AAn l hs,hth,L0,AfI,Ag,AN,e2']
 ·have hall:(l.all fun e=>decide (In (N:Int) e.1)&&decide (In (N:Int) e.2.1))=true:=by
   rw[AfY]
   intro e he
   obtain⟨h1,h2⟩:=ha e he
   simp[h1,h2]
  have e1':AS Hq many (l,(N:Int),BJ N,(0:Int),[],(0:Int),())=_:=(Ag _ _ _).trans e1
  have hE:AIo (N:Int) (BJ N) true=0:=by
   unfold AIo
   simp[hRF]
  have hL:AHE (((N:Int),(BJ N,())),l,())=some (((N:Int),(zs,())),b1,0,()):=by
   rw[AQr,Su]
   simp only[AJm (N:Int) (BJ N) l hD (by omega),hall]
   rw[hE]
   simp only[Df,AfI,e1']
  have hm:AG8 ((N:Int),())=some ((N:Int),BJ N,0,()):=by
   rw[AQf]
   unfold Gy
   rw[AfQ (show Sz (N:Int)from⟨by omega,by omega⟩),Af2]
  rw[Aca,AQL]
  simp only[hm,Df,AfI,hL]
theorem RG2.both{N:Nat}{ts:List Tie}(h:RG2 N ts)(k:Int):∃ zs,ND (((N:Int),(ts,())),k,())=some (((N:Int),(zs,())),0,())∧AM7 (((N:Int),(ts,())),k,())=some (((N:Int),(zs,())),0,())∧FC (N:Int) zs (trk ts k):=by
 have hl:=h.AeQ k
 obtain⟨zs,e1,e2,hF⟩:=AdU h.h1 h.hN (trk ts k) (by omega) (h.inK k)
 refine⟨zs,?_,?_,hF⟩
 ·rw[OW,JU]
  simp only[h.lr,AfI,AMC (N:Int) ts h.ht k,e1]
 ·rw[AM6,Oo]
  simp only[h.r21,AfI,ADM (N:Int) ts h.ht k,e2]
end Go.Pev.Pl
end
section
namespace Go.Pev.Pl
open Tok
section
variable (n:Int) (ts:List Tie)
end
end Go.Pev.Pl
end
section
namespace Go.Pev.Pl
open Tok
theorem AIs:Iw ()=some (true,()):=by
 rw[show Iw () = @Iw idI ()from Agg (fun i=>@Iw i ()) Z3]
 kernel_rfl
theorem AM0(n:Int)(ts:List Tie)(l:List Edge):NJ ((n,(ts,())),l,())=some (true,())∨(NJ ((n,(ts,())),l,())=some (false,())∧ts.length≤30∧n≤12∧l.length≤12):=by
 rw[AAS,NI]
 simp only[AN,Al]
 by_cases h1:(30:Int)<ts.length
 ·left;simp only[Ae9 h1]
 by_cases h2:(12:Int)<n
 ·left;simp only[Ae8 h1,Ae9 h2]
 by_cases h3:(12:Int)<l.length
 ·left;simp only[Ae8 h1,Ae8 h2,Ae9 h3]
 ·right;simp only[Ae8 h1,Ae8 h2,Ae8 h3];exact⟨trivial,by omega,by omega,by omega⟩
theorem Pf(g:Int×List Tie×Unit)(l:List Edge)(th:List Int)
  (h0:wfD (.prod (.int .i64) (.prod (.slice (.prod (.int .i64) (.prod (.int .i64) (.prod (.int .i64) (.prod .bool .unit))))) .unit)) g)
  (h1:wfD (.slice (.prod (.int .i64) (.prod (.int .i64) .unit))) l)
  (h2:wfD (.arr 3 (.int .i64)) th):DZ (g,l,th,())=some (true,()):=by
 obtain⟨n,ts,⟨⟩⟩:=g
 rw[Kw,Em]
 simp only[AIs,AfI]
 rcases AM0 n ts l with g1|⟨g1,g2,g3,g4⟩
 ·simp only[g1]
 have hfit:fits (AO ([]:List Tie)+AO ts)=true:=BI (by simp only[AN,AfV];omega)
 have hd0:A4 ([]:List Tie) ts=ts:=by simp[A4]
 obtain⟨O,w,e,p1,p2,p3⟩:=AU6 n ts (by omega) (AM th 0 (0:Int)) (AM th 1 (0:Int))
 obtain⟨s,f,q1,q2,q3⟩:=YX n ts (by omega) (AM th 0 (0:Int)) (AM th 1 (0:Int)) (AM th 2 (0:Int))
 obtain⟨xs,k,r1,r2,r3⟩:=APg n ts (by omega) l (by omega)
 have e1:=X4 n n O O (by omega)
 have e2:=AAB s s (by omega)
 have e3:=AKC xs (by omega)
 have e4:=X4 n n ts ts (by omega)
 simp only[g1,hfit,hd0,p1,p2,q1,q2,r1,r2,e1,e2,e3,e4,Df,beq_self_eq_true,AhG,Ahs,AfK]
end Go.Pev.Pl
end
section
namespace Go.Pev
open Go.Proofs
noncomputable section
abbrev AAF:Hints:={ loop:=fun n=>match n with|0=>Ab 0 26 AEB AEA Eb|_=>fun _ _ _=>none,fp:=fun n=>match n with|6=>[[],[],[],[],[],[],[],[],[]]|_=>[] }
theorem AHU:∀ v,Eb v=roundOf Tryz.prog Env.none AAF 1 0 26 (AB Tryz.f48 0) AEB AEA v:=by
 rintro⟨a0,a1,a2,⟨⟩⟩
 kernel_rfl
theorem AWJ:AD (AB Tryz.f48 0) 1=[]:=by kernel_rfl
theorem AWK:Aa Tryz.prog 0 (.loop (AB Tryz.f48 0)) (AAF.loop 0):=AX Env.AGv (AHU) (AA AWJ trivial)
theorem AQ4:∀ v,QE v=AR Tryz.prog Env.none AAF Tryz.f48 AAE AAD AAC v:=by
 rintro⟨a0,a1,⟨⟩⟩
 kernel_rfl
theorem AaK:AD (AW Tryz.f48) 0=[(0,AB Tryz.f48 0)]:=by kernel_rfl
theorem AMR:AU Tryz.prog 48 (AG 2 AAE AAD AAC Oe):=AK Env.AGv Tryz.func48 (by kernel_rfl) (by kernel_rfl) rfl (fun v=>(AEC v).trans (AQ4 v)) (AA AaK ⟨AWK,trivial⟩)
def ABw:Env:=Env.none.ext 48 true true (AG 2 AAE AAD AAC Oe)
theorem Vt:Ac Tryz.prog ABw:=Env.Ad Env.AGv AMR (fun _=>AP rfl rfl) (fun _=>AL rfl rfl)
abbrev AXr:Hints:={  }
theorem AOC:∀ v,PQ v=AR Tryz.prog ABw AXr Tryz.f159 Xd Xc Xb v:=by
 rintro⟨a0,⟨⟩⟩
 kernel_rfl
theorem AXq:AD (AW Tryz.f159) 0=[]:=by kernel_rfl
theorem AJX:AU Tryz.prog 159 (AG 1 Xd Xc Xb LJ):=AK Vt Tryz.func159 (by kernel_rfl) (by kernel_rfl) rfl (fun v=>(ADE v).trans (AOC v)) (AA AXq trivial)
def ABb:Env:=ABw.ext 159 true true (AG 1 Xd Xc Xb LJ)
theorem VX:Ac Tryz.prog ABb:=Env.Ad Vt AJX (fun _=>AP rfl rfl) (fun _=>AL rfl rfl)
abbrev Aem:Hints:={  }
theorem Abu:∀ v,ASq v=AR Tryz.prog ABb Aem Tryz.f156 AYC AYB AYA v:=by
 rintro⟨a0,a1,⟨⟩⟩
 kernel_rfl
theorem Ael:AD (AW Tryz.f156) 0=[]:=by kernel_rfl
theorem AX9:AU Tryz.prog 156 (AG 2 AYC AYB AYA tin):=AK VX Tryz.func156 (by kernel_rfl) (by kernel_rfl) rfl (fun v=>(AYD v).trans (Abu v)) (AA Ael trivial)
def Abe:Env:=ABb.ext 156 true true (AG 2 AYC AYB AYA tin)
theorem AN2:Ac Tryz.prog Abe:=Env.Ad VX AX9 (fun _=>AP rfl rfl) (fun _=>AL rfl rfl)
abbrev Adu:Hints:={  }
theorem AYH:∀ v,AFS v=AR Tryz.prog Abe Adu Tryz.f187 AOT AOS AOR v:=by
 rintro⟨a0,a1,a2,⟨⟩⟩
 kernel_rfl
theorem Adt:AD (AW Tryz.f187) 0=[]:=by kernel_rfl
theorem AUa:AU Tryz.prog 187 (AG 3 AOT AOS AOR AUb):=AK AN2 Tryz.func187 (by kernel_rfl) (by kernel_rfl) rfl (fun v=>(ASr v).trans (AYH v)) (AA Adt trivial)
def ASa:Env:=Abe.ext 187 true true (AG 3 AOT AOS AOR AUb)
theorem AEl:Ac Tryz.prog ASa:=Env.Ad AN2 AUa (fun _=>AP rfl rfl) (fun _=>AL rfl rfl)
abbrev AXp:Hints:={ fp:=fun n=>match n with|5=>[[],[],[],[],[],[],[],[],[]]|_=>[] }
theorem AOB:∀ v,PO v=AR Tryz.prog ASa AXp Tryz.f197 XZ XY XX v:=by
 rintro⟨a0,a1,⟨⟩⟩
 kernel_rfl
theorem AXo:AD (AW Tryz.f197) 0=[]:=by kernel_rfl
theorem AJW:AU Tryz.prog 197 (AG 2 XZ XY XX Xa):=AK AEl Tryz.func197 (by kernel_rfl) (by kernel_rfl) rfl (fun v=>(ADD v).trans (AOB v)) (AA AXo trivial)
def Q0:Env:=ASa.ext 197 true true (AG 2 XZ XY XX Xa)
theorem MW:Ac Tryz.prog Q0:=Env.Ad AEl AJW (fun _=>AP rfl rfl) (fun _=>AL rfl rfl)
abbrev AFN:Hints:={ loop:=fun n=>match n with|0=>Ab 0 25 AJj AJi HX|_=>fun _ _ _=>none }
theorem AJh:∀ v,HX v=roundOf Tryz.prog Q0 AFN 1 0 25 (AB Tryz.f129 0) AJj AJi v:=by
 rintro⟨a0,a1,a2,a3,a4,⟨⟩⟩
 kernel_rfl
theorem AX7:AD (AB Tryz.f129 0) 1=[]:=by kernel_rfl
theorem AX8:Aa Tryz.prog 0 (.loop (AB Tryz.f129 0)) (AFN.loop 0):=AX MW (AJh) (AA AX7 trivial)
theorem AUX:∀ v,Wp v=AR Tryz.prog Q0 AFN Tryz.f129 AFM AFL AFK v:=by
 rintro⟨a0,⟨⟩⟩
 kernel_rfl
theorem Abr:AD (AW Tryz.f129) 0=[(0,AB Tryz.f129 0)]:=by kernel_rfl
theorem AON:AU Tryz.prog 129 (AG 1 AFM AFL AFK AJl):=AK MW Tryz.func129 (by kernel_rfl) (by kernel_rfl) rfl (fun v=>(AJk v).trans (AUX v)) (AA Abr ⟨AX8,trivial⟩)
def XM:Env:=Q0.ext 129 true true (AG 1 AFM AFL AFK AJl)
theorem O9:Ac Tryz.prog XM:=Env.Ad MW AON (fun _=>AP rfl rfl) (fun _=>AL rfl rfl)
abbrev AAM:Hints:={ loop:=fun n=>match n with|0=>Ab 0 19 AEE AED FZ|_=>fun _ _ _=>none }
theorem AHX:∀ v,FZ v=roundOf Tryz.prog XM AAM 1 0 19 (AB Tryz.f146 0) AEE AED v:=by
 rintro⟨a0,a1,a2,a3,⟨⟩⟩
 kernel_rfl
theorem AWO:AD (AB Tryz.f146 0) 1=[]:=by kernel_rfl
theorem AWP:Aa Tryz.prog 0 (.loop (AB Tryz.f146 0)) (AAM.loop 0):=AX O9 (AHX) (AA AWO trivial)
theorem ARF:∀ v,QI v=AR Tryz.prog XM AAM Tryz.f146 AAL AAK AAJ v:=by
 rintro⟨a0,a1,⟨⟩⟩
 kernel_rfl
theorem AaT:AD (AW Tryz.f146) 0=[(0,AB Tryz.f146 0)]:=by kernel_rfl
theorem AMS:AU Tryz.prog 146 (AG 2 AAL AAK AAJ Og):=AK O9 Tryz.func146 (by kernel_rfl) (by kernel_rfl) rfl (fun v=>(AEF v).trans (ARF v)) (AA AaT ⟨AWP,trivial⟩)
def ABx:Env:=XM.ext 146 true true (AG 2 AAL AAK AAJ Og)
theorem Vu:Ac Tryz.prog ABx:=Env.Ad O9 AMS (fun _=>AP rfl rfl) (fun _=>AL rfl rfl)
abbrev ANT:Hints:={  }
theorem ACu:∀ v,Is v=AR Tryz.prog ABx ANT Tryz.f113 MJ MH MG v:=by
 rintro⟨a0,a1,⟨⟩⟩
 kernel_rfl
theorem ANS:AD (AW Tryz.f113) 0=[]:=by kernel_rfl
theorem AAz:AU Tryz.prog 113 (AG 2 MJ MH MG Ed):=AK Vu Tryz.func113 (by kernel_rfl) (by kernel_rfl) rfl (fun v=>(Qj v).trans (ACu v)) (AA ANS trivial)
def I3:Env:=ABx.ext 113 true true (AG 2 MJ MH MG Ed)
theorem IU:Ac Tryz.prog I3:=Env.Ad Vu AAz (fun _=>AP rfl rfl) (fun _=>AL rfl rfl)
abbrev AQX:Hints:={ loop:=fun n=>match n with|0=>Ab 0 25 ATT ATS KC|_=>fun _ _ _=>none }
theorem AQT:∀ v,KC v=roundOf Tryz.prog I3 AQX 1 0 25 (AB Tryz.f177 0) ATT ATS v:=by
 rintro⟨a0,a1,a2,⟨⟩⟩
 kernel_rfl
theorem Acd:AD (AB Tryz.f177 0) 1=[]:=by kernel_rfl
theorem Ace:Aa Tryz.prog 0 (.loop (AB Tryz.f177 0)) (AQX.loop 0):=AX IU (AQT) (AA Acd trivial)
theorem AZ7:∀ v,AGy v=AR Tryz.prog I3 AQX Tryz.f177 AQW AQV AQU v:=by
 rintro⟨a0,⟨⟩⟩
 kernel_rfl
theorem AeN:AD (AW Tryz.f177) 0=[(0,AB Tryz.f177 0)]:=by kernel_rfl
theorem AVn:AU Tryz.prog 177 (AG 1 AQW AQV AQU AVo):=AK IU Tryz.func177 (by kernel_rfl) (by kernel_rfl) rfl (fun v=>(ATU v).trans (AZ7 v)) (AA AeN ⟨Ace,trivial⟩)
def ASf:Env:=I3.ext 177 true true (AG 1 AQW AQV AQU AVo)
theorem AEq:Ac Tryz.prog ASf:=Env.Ad IU AVn (fun _=>AP rfl rfl) (fun _=>AL rfl rfl)
abbrev AdB:Hints:={  }
theorem AWn:∀ v,XH v=AR Tryz.prog ASf AdB Tryz.f201 AHx AHw AHv v:=by
 rintro⟨a0,⟨⟩⟩
 kernel_rfl
theorem AdA:AD (AW Tryz.f201) 0=[]:=by kernel_rfl
theorem ARR:AU Tryz.prog 201 (AG 2 AHx AHw AHv AMz):=AK AEq Tryz.func201 (by kernel_rfl) (by kernel_rfl) rfl (fun v=>(AMy v).trans (AWn v)) (AA AdA trivial)
def RN:Env:=ASf.ext 201 false true (AG 2 AHx AHw AHv AMz)
theorem Kq:Ac Tryz.prog RN:=Env.Ad AEq ARR ((by simp)) (fun _=>AL rfl rfl)
abbrev Ji:Hints:={ loop:=fun n=>match n with|0=>Ab 0 36 AA9 AA7 EK|1=>Ab 0 36 AA8 AA6 EJ|_=>fun _ _ _=>none }
theorem ACy:∀ v,EJ v=roundOf Tryz.prog RN Ji 2 0 36 (AB Tryz.f186 1) AA8 AA6 v:=by
 rintro⟨a0,a1,a2,a3,⟨⟩⟩
 kernel_rfl
theorem AR4:AD (AB Tryz.f186 1) 2=[]:=by kernel_rfl
theorem AR6:Aa Tryz.prog 0 (.loop (AB Tryz.f186 1)) (Ji.loop 1):=AX Kq (ACy) (AA AR4 trivial)
theorem ACz:∀ v,EK v=roundOf Tryz.prog RN Ji 1 0 36 (AB Tryz.f186 0) AA9 AA7 v:=by
 rintro⟨a0,a1,a2,a3,a4,⟨⟩⟩
 kernel_rfl
theorem AR5:AD (AB Tryz.f186 0) 1=[]:=by kernel_rfl
theorem AR7:Aa Tryz.prog 0 (.loop (AB Tryz.f186 0)) (Ji.loop 0):=AX Kq (ACz) (AA AR5 trivial)
theorem ANY:∀ v,NN v=AR Tryz.prog RN Ji Tryz.f186 TT TS TR v:=by
 rintro⟨a0,⟨⟩⟩
 kernel_rfl
theorem AXH:AD (AW Tryz.f186) 0=[(0,AB Tryz.f186 0),(1,AB Tryz.f186 1)]:=by kernel_rfl
theorem AIM:AU Tryz.prog 186 (AG 1 TT TS TR It):=AK Kq Tryz.func186 (by kernel_rfl) (by kernel_rfl) rfl (fun v=>(ABA v).trans (ANY v)) (AA AXH ⟨AR7,AR6,trivial⟩)
def Tw:Env:=RN.ext 186 true true (AG 1 TT TS TR It)
theorem RT:Ac Tryz.prog Tw:=Env.Ad Kq AIM (fun _=>AP rfl rfl) (fun _=>AL rfl rfl)
theorem AUs:Tryz.f195.body.isSome=true:=by kernel_rfl
theorem AUr : (Tryz.f195.name == "runtime.NumGoroutine") = false := by kernel_rfl
theorem AUq:loops (AW Tryz.f195)=0:=by kernel_rfl
def Iz:Env:=Tw.ext 195 false false (Cy Tryz.prog Tw {} Tryz.f195)
theorem IP:Ac Tryz.prog Iz:=Env.Ad RT (Ch RT Tryz.func195 AUs AUr AUq) (by simp) (by simp)
end
end Go.Pev
end
section
namespace Go.Pev
open Go.Proofs
noncomputable section
abbrev Hw:Hints:={ loop:=fun n=>match n with|0=>Ab 0 19 Ky Kx B2|_=>fun _ _ _=>none }
theorem Oj:∀ v,B2 v=roundOf Tryz.prog Iz Hw 1 0 19 (AB Tryz.f174 0) Ky Kx v:=by
 rintro⟨a0,a1,a2,⟨⟩⟩
 kernel_rfl
theorem WL:AD (AB Tryz.f174 0) 1=[]:=by kernel_rfl
theorem WN:Aa Tryz.prog 0 (.loop (AB Tryz.f174 0)) (Hw.loop 0):=AX IP (Oj) (AA WL trivial)
theorem S3:∀ v,Ey v=AR Tryz.prog Iz Hw Tryz.f174 Hv Hu Ht v:=by
 rintro⟨a0,⟨⟩⟩
 kernel_rfl
theorem AAO:AD (AW Tryz.f174) 0=[(0,AB Tryz.f174 0)]:=by kernel_rfl
theorem QS:AU Tryz.prog 174 (AG 2 Hv Hu Ht G0):=AK IP Tryz.func174 (by kernel_rfl) (by kernel_rfl) rfl (fun v=>(Kz v).trans (S3 v)) (AA AAO ⟨WN,trivial⟩)
def IS:Env:=Iz.E0 174 1 195 (AG 2 Hv Hu Ht G0)
theorem I1:Ac Tryz.prog IS:=Env.Bb IP QS (AL rfl rfl)
abbrev WY:Hints:={  }
theorem Qm:∀ v,D5 v=AR Tryz.prog IS WY Tryz.f154 Gp Gn Gm v:=by
 rintro⟨a0,⟨⟩⟩
 kernel_rfl
theorem WX:AD (AW Tryz.f154) 0=[]:=by kernel_rfl
theorem O1:AU Tryz.prog 154 (AG 2 Gp Gn Gm Dx):=AK I1 Tryz.func154 (by kernel_rfl) (by kernel_rfl) rfl (fun v=>(Jg v).trans (Qm v)) (AA WX trivial)
def D6:Env:=IS.E0 154 1 195 (AG 2 Gp Gn Gm Dx)
theorem EO:Ac Tryz.prog D6:=Env.Bb I1 O1 (AL rfl rfl)
abbrev AQI:Hints:={ loop:=fun n=>match n with|0=>Ab 0 23 ATL ATK J8|_=>fun _ _ _=>none }
theorem AQE:∀ v,J8 v=roundOf Tryz.prog D6 AQI 1 0 23 (AB Tryz.f196 0) ATL ATK v:=by
 rintro⟨a0,a1,a2,a3,a4,⟨⟩⟩
 kernel_rfl
theorem AcY:AD (AB Tryz.f196 0) 1=[]:=by kernel_rfl
theorem AcZ:Aa Tryz.prog 0 (.loop (AB Tryz.f196 0)) (AQI.loop 0):=AX EO (AQE) (AA AcY trivial)
theorem AZ2:∀ v,AGs v=AR Tryz.prog D6 AQI Tryz.f196 AQH AQG AQF v:=by
 rintro⟨a0,⟨⟩⟩
 kernel_rfl
theorem AeI:AD (AW Tryz.f196) 0=[(0,AB Tryz.f196 0)]:=by kernel_rfl
theorem AVe:AU Tryz.prog 196 (AG 1 AQH AQG AQF once):=AK EO Tryz.func196 (by kernel_rfl) (by kernel_rfl) rfl (fun v=>(ATM v).trans (AZ2 v)) (AA AeI ⟨AcZ,trivial⟩)
def ASd:Env:=D6.ext 196 true true (AG 1 AQH AQG AQF once)
theorem AEo:Ac Tryz.prog ASd:=Env.Ad EO AVe (fun _=>AP rfl rfl) (fun _=>AL rfl rfl)
abbrev AYb:Hints:={  }
theorem AOn:∀ v,PW v=AR Tryz.prog ASd AYb Tryz.f176 YG YF YE v:=by
 rintro⟨a0,⟨⟩⟩
 kernel_rfl
theorem AYa:AD (AW Tryz.f176) 0=[]:=by kernel_rfl
theorem AKE:AU Tryz.prog 176 (AG 1 YG YF YE OH):=AK AEo Tryz.func176 (by kernel_rfl) (by kernel_rfl) rfl (fun v=>(ADe v).trans (AOn v)) (AA AYa trivial)
def ABi:Env:=ASd.ext 176 true true (AG 1 YG YF YE OH)
theorem Vn:Ac Tryz.prog ABi:=Env.Ad AEo AKE (fun _=>AP rfl rfl) (fun _=>AL rfl rfl)
abbrev AXn:Hints:={ fp:=fun n=>match n with|1=>[[],[],[],[],[],[],[],[0],[]]|_=>[] }
theorem AN9:∀ v,PN v=AR Tryz.prog ABi AXn Tryz.f200 XW XV XU v:=by
 rintro⟨a0,a1,⟨⟩⟩
 kernel_rfl
theorem AXm:AD (AW Tryz.f200) 0=[]:=by kernel_rfl
theorem AJV:AU Tryz.prog 200 (AG 2 XW XV XU Rc):=AK Vn Tryz.func200 (by kernel_rfl) (by kernel_rfl) rfl (fun v=>(ADC v).trans (AN9 v)) (AA AXm trivial)
def Qz:Env:=ABi.ext 200 true true (AG 2 XW XV XU Rc)
theorem MV:Ac Tryz.prog Qz:=Env.Ad Vn AJV (fun _=>AP rfl rfl) (fun _=>AL rfl rfl)
abbrev Yo:Hints:={ loop:=fun n=>match n with|0=>Ab 0 29 ADq ADp EW|_=>fun _ _ _=>none }
theorem AF8:∀ v,EW v=roundOf Tryz.prog Qz Yo 1 0 29 (AB Tryz.f199 0) ADq ADp v:=by
 rintro⟨a0,a1,a2,a3,a4,⟨⟩⟩
 kernel_rfl
theorem AU8:AD (AB Tryz.f199 0) 1=[]:=by kernel_rfl
theorem AU9:Aa Tryz.prog 0 (.loop (AB Tryz.f199 0)) (Yo.loop 0):=AX MV (AF8) (AA AU8 trivial)
theorem APU:∀ v,Pk v=AR Tryz.prog Qz Yo Tryz.f199 Yn Ym Yl v:=by
 rintro⟨a0,a1,⟨⟩⟩
 kernel_rfl
theorem AYw:AD (AW Tryz.f199) 0=[(0,AB Tryz.f199 0)]:=by kernel_rfl
theorem AKV:AU Tryz.prog 199 (AG 2 Yn Ym Yl AF9):=AK MV Tryz.func199 (by kernel_rfl) (by kernel_rfl) rfl (fun v=>(ADr v).trans (APU v)) (AA AYw ⟨AU9,trivial⟩)
def ABm:Env:=Qz.ext 199 true true (AG 2 Yn Ym Yl AF9)
theorem Vp:Ac Tryz.prog ABm:=Env.Ad MV AKV (fun _=>AP rfl rfl) (fun _=>AL rfl rfl)
abbrev Ab4:Hints:={  }
theorem AUu:∀ v,Wx v=AR Tryz.prog ABm Ab4 Tryz.f185 AFs AFr AFq v:=by
 rintro⟨a0,a1,⟨⟩⟩
 kernel_rfl
theorem Ab3:AD (AW Tryz.f185) 0=[]:=by kernel_rfl
theorem AOx:AU Tryz.prog 185 (AG 2 AFs AFr AFq ADh):=AK Vp Tryz.func185 (by kernel_rfl) (by kernel_rfl) rfl (fun v=>(AKN v).trans (AUu v)) (AA Ab3 trivial)
def AI2:Env:=ABm.ext 185 true true (AG 2 AFs AFr AFq ADh)
theorem ABk:Ac Tryz.prog AI2:=Env.Ad Vp AOx (fun _=>AP rfl rfl) (fun _=>AL rfl rfl)
abbrev AYd:Hints:={  }
theorem AOp:∀ v,PX v=AR Tryz.prog AI2 AYd Tryz.f202 YJ YI YH v:=by
 rintro⟨a0,⟨⟩⟩
 kernel_rfl
theorem AYc:AD (AW Tryz.f202) 0=[]:=by kernel_rfl
theorem AKF:AU Tryz.prog 202 (AG 1 YJ YI YH YK):=AK ABk Tryz.func202 (by kernel_rfl) (by kernel_rfl) rfl (fun v=>(ADf v).trans (AOp v)) (AA AYc trivial)
def ABj:Env:=AI2.ext 202 true true (AG 1 YJ YI YH YK)
theorem Vo:Ac Tryz.prog ABj:=Env.Ad ABk AKF (fun _=>AP rfl rfl) (fun _=>AL rfl rfl)
theorem AUV:Tryz.f180.body.isSome=true:=by kernel_rfl
theorem AUU : (Tryz.f180.name == "runtime.NumGoroutine") = false := by kernel_rfl
theorem AUT:loops (AW Tryz.f180)=0:=by kernel_rfl
def Iy:Env:=ABj.ext 180 false false (Cy Tryz.prog ABj {} Tryz.f180)
theorem IN:Ac Tryz.prog Iy:=Env.Ad Vo (Ch Vo Tryz.func180 AUV AUU AUT) (by simp) (by simp)
abbrev Fe:Hints:={ loop:=fun n=>match n with|0=>Ab 1 19 Ih Ig Bd|_=>fun _ _ _=>none }
theorem L3:∀ v,Bd v=roundOf Tryz.prog Iy Fe 1 1 19 (AB Tryz.f179 0) Ih Ig v:=by
 rintro⟨a0,a1,a2,a3,⟨⟩⟩
 kernel_rfl
theorem QO:AD (AB Tryz.f179 0) 1=[]:=by kernel_rfl
theorem QP:Aa Tryz.prog 1 (.loop (AB Tryz.f179 0)) (Fe.loop 0):=AX IN (L3) (AA QO trivial)
theorem Oh:∀ v,Dg v=AR Tryz.prog Iy Fe Tryz.f179 Fc Fb Fa v:=by
 rintro⟨a0,a1,⟨⟩⟩
 kernel_rfl
theorem S1:AD (AW Tryz.f179) 0=[(0,AB Tryz.f179 0)]:=by kernel_rfl
theorem Nh:AU Tryz.prog 179 (AG 2 Fc Fb Fa Ew):=AK IN Tryz.func179 (by kernel_rfl) (by kernel_rfl) rfl (fun v=>(Ii v).trans (Oh v)) (AA S1 ⟨QP,trivial⟩)
def F5:Env:=Iy.E0 179 1 180 (AG 2 Fc Fb Fa Ew)
theorem Gv:Ac Tryz.prog F5:=Env.Bb IN Nh (AL rfl rfl)
abbrev AXx:Hints:={  }
theorem AOK:∀ v,PS v=AR Tryz.prog F5 AXx Tryz.f157 Xq Xp Xo v:=by
 rintro⟨a0,a1,⟨⟩⟩
 kernel_rfl
theorem AXw:AD (AW Tryz.f157) 0=[]:=by kernel_rfl
theorem AJc:AU Tryz.prog 157 (AG 2 Xq Xp Xo N9):=AK Gv Tryz.func157 (by kernel_rfl) (by kernel_rfl) rfl (fun v=>(ADN v).trans (AOK v)) (AA AXw trivial)
def ABd:Env:=F5.ext 157 true true (AG 2 Xq Xp Xo N9)
theorem VZ:Ac Tryz.prog ABd:=Env.Ad Gv AJc (fun _=>AP rfl rfl) (fun _=>AL rfl rfl)
theorem Adc:Tryz.f198.body.isSome=true:=by kernel_rfl
theorem Adb : (Tryz.f198.name == "runtime.NumGoroutine") = false := by kernel_rfl
theorem Ada:loops (AW Tryz.f198)=0:=by kernel_rfl
def Nc:Env:=ABd.ext 198 false false (Cy Tryz.prog ABd {} Tryz.f198)
theorem Kt:Ac Tryz.prog Nc:=Env.Ad VZ (Ch VZ Tryz.func198 Adc Adb Ada) (by simp) (by simp)
end
end Go.Pev
end
section
namespace Go.Pev
open Go.Proofs
noncomputable section
abbrev ARZ:Hints:={ loop:=fun n=>match n with|0=>Ab 0 107 ATp ATo Im|_=>fun _ _ _=>none,fp:=fun n=>match n with|8=>[[],[],[],[],[],[],[],[],[1000003],[],[],[],[],[],[],[],[],[0],[0],[0],[],[0],[0],[0],[2,26],[],[2,26],[2,26],[],[],[],[],[]]|13=>[[],[0],[0],[0],[2],[],[],[],[0],[0],[0],[6],[],[0],[0],[0],[4],[],[],[]]|3=>[[],[],[],[],[],[],[],[],[11],[],[],[],[8,10,12],[]]|_=>[] }
theorem ARV:∀ v,Im v=roundOf Tryz.prog Nc ARZ 1 0 107 (AB Tryz.f178 0) ATp ATo v:=by
 rintro⟨a0,a1,a2,a3,a4,a5,a6,⟨⟩⟩
 kernel_rfl
theorem AdF:AD (AB Tryz.f178 0) 1=[]:=by kernel_rfl
theorem AdG:Aa Tryz.prog 0 (.loop (AB Tryz.f178 0)) (ARZ.loop 0):=AX Kt (ARV) (AA AdF trivial)
theorem Aaq:∀ v,AH1 v=AR Tryz.prog Nc ARZ Tryz.f178 ARY ARX ARW v:=by
 rintro⟨a0,a1,⟨⟩⟩
 kernel_rfl
theorem AeX:AD (AW Tryz.f178) 0=[(0,AB Tryz.f178 0)]:=by kernel_rfl
theorem AWz:AU Tryz.prog 178 (AG 2 ARY ARX ARW Aas):=AK Kt Tryz.func178 (by kernel_rfl) (by kernel_rfl) rfl (fun v=>(ATq v).trans (Aaq v)) (AA AeX ⟨AdG,trivial⟩)
def Tt:Env:=Nc.ext 178 true true (AG 2 ARY ARX ARW Aas)
theorem Jq:Ac Tryz.prog Tt:=Env.Ad Kt AWz (fun _=>AP rfl rfl) (fun _=>AL rfl rfl)
abbrev HT:Hints:={ loop:=fun n=>match n with|0=>Ab 0 87 ADK ADH DU|1=>Ab 0 87 ADJ ADG DT|2=>Ab 0 87 ADI ADF ER|_=>fun _ _ _=>none,fp:=fun n=>match n with|8=>[[],[],[],[],[],[],[],[],[],[],[],[],[],[],[],[],[],[],[],[],[],[],[],[],[0],[0],[],[],[],[]]|_=>[] }
theorem AE8:∀ v,ER v=roundOf Tryz.prog Tt HT 3 0 87 (AB Tryz.f153 2) ADI ADF v:=by
 rintro⟨a0,a1,a2,⟨⟩⟩
 kernel_rfl
theorem AUL:AD (AB Tryz.f153 2) 3=[]:=by kernel_rfl
theorem AUO:Aa Tryz.prog 0 (.loop (AB Tryz.f153 2)) (HT.loop 2):=AX Jq (AE8) (AA AUL trivial)
theorem AE9:∀ v,DT v=roundOf Tryz.prog Tt HT 2 0 87 (AB Tryz.f153 1) ADJ ADG v:=by
 rintro⟨a0,a1,a2,a3,a4,a5,a6,a7,a8,a9,a10,a11,a12,a13,a14,a15,a16,a17,a18,a19,a20,a21,a22,a23,a24,a25,⟨⟩⟩
 kernel_rfl
theorem AUM:AD (AB Tryz.f153 1) 2=[]:=by kernel_rfl
theorem AUP:Aa Tryz.prog 0 (.loop (AB Tryz.f153 1)) (HT.loop 1):=AX Jq (AE9) (AA AUM trivial)
theorem AFA:∀ v,DU v=roundOf Tryz.prog Tt HT 1 0 87 (AB Tryz.f153 0) ADK ADH v:=by
 rintro⟨a0,a1,a2,a3,a4,a5,a6,⟨⟩⟩
 kernel_rfl
theorem AUN:AD (AB Tryz.f153 0) 1=[(1,AB Tryz.f153 1)]:=by kernel_rfl
theorem AUQ:Aa Tryz.prog 0 (.loop (AB Tryz.f153 0)) (HT.loop 0):=AX Jq (AFA) (AA AUN ⟨AUP,trivial⟩)
theorem AOE:∀ v,PR v=AR Tryz.prog Tt HT Tryz.f153 Xj Xi Xh v:=by
 rintro⟨a0,⟨⟩⟩
 kernel_rfl
theorem AXv:AD (AW Tryz.f153) 0=[(0,AB Tryz.f153 0),(2,AB Tryz.f153 2)]:=by kernel_rfl
theorem AJa:AU Tryz.prog 153 (AG 1 Xj Xi Xh N8):=AK Jq Tryz.func153 (by kernel_rfl) (by kernel_rfl) rfl (fun v=>(ADL v).trans (AOE v)) (AA AXv ⟨AUQ,AUO,trivial⟩)
def ABc:Env:=Tt.ext 153 true true (AG 1 Xj Xi Xh N8)
theorem VY:Ac Tryz.prog ABc:=Env.Ad Jq AJa (fun _=>AP rfl rfl) (fun _=>AL rfl rfl)
abbrev AdY:Hints:={  }
theorem AXb:∀ v,XL v=AR Tryz.prog ABc AdY Tryz.f184 AIn AIm AIl v:=by
 rintro⟨a0,a1,a2,⟨⟩⟩
 kernel_rfl
theorem AdX:AD (AW Tryz.f184) 0=[]:=by kernel_rfl
theorem ASV:AU Tryz.prog 184 (AG 3 AIn AIm AIl asked):=AK VY Tryz.func184 (by kernel_rfl) (by kernel_rfl) rfl (fun v=>(ANr v).trans (AXb v)) (AA AdX trivial)
def AJF:Env:=ABc.ext 184 true true (AG 3 AIn AIm AIl asked)
theorem AB5:Ac Tryz.prog AJF:=Env.Ad VY ASV (fun _=>AP rfl rfl) (fun _=>AL rfl rfl)
abbrev AeM:Hints:={  }
theorem AZ6:∀ v,Sa v=AR Tryz.prog AJF AeM Tryz.f118 AQQ AQP AQO v:=by
 rintro⟨a0,⟨⟩⟩
 kernel_rfl
theorem AeL:AD (AW Tryz.f118) 0=[]:=by kernel_rfl
theorem AVj:AU Tryz.prog 118 (AG 1 AQQ AQP AQO AQR):=AK AB5 Tryz.func118 (by kernel_rfl) (by kernel_rfl) rfl (fun v=>(W6 v).trans (AZ6 v)) (AA AeL trivial)
def ASe:Env:=AJF.ext 118 true true (AG 1 AQQ AQP AQO AQR)
theorem AEp:Ac Tryz.prog ASe:=Env.Ad AB5 AVj (fun _=>AP rfl rfl) (fun _=>AL rfl rfl)
abbrev AR9:Hints:={  }
theorem AIO:∀ v,II v=AR Tryz.prog ASe AR9 Tryz.f74 O4 O3 O2 v:=by
 rintro⟨a0,a1,⟨⟩⟩
 kernel_rfl
theorem AR8:AD (AW Tryz.f74) 0=[]:=by kernel_rfl
theorem AC0:AU Tryz.prog 74 (AG 2 O4 O3 O2 E8):=AK AEp Tryz.func74 (by kernel_rfl) (by kernel_rfl) rfl (fun v=>(MM v).trans (AIO v)) (AA AR8 trivial)
def PI:Env:=ASe.ext 74 true true (AG 2 O4 O3 O2 E8)
theorem N2:Ac Tryz.prog PI:=Env.Ad AEp AC0 (fun _=>AP rfl rfl) (fun _=>AL rfl rfl)
abbrev Abh:Hints:={ fp:=fun n=>match n with|1=>[[],[],[],[],[],[],[],[]]|_=>[] }
theorem AUH:∀ v,Wk v=AR Tryz.prog PI Abh Tryz.f204 AE1 AE0 AEz v:=by
 rintro⟨a0,a1,⟨⟩⟩
 kernel_rfl
theorem Abg:AD (AW Tryz.f204) 0=[]:=by kernel_rfl
theorem AN4:AU Tryz.prog 204 (AG 2 AE1 AE0 AEz BE):=AK N2 Tryz.func204 (by kernel_rfl) (by kernel_rfl) rfl (fun v=>(AJI v).trans (AUH v)) (AA Abg trivial)
def AIy:Env:=PI.ext 204 true true (AG 2 AE1 AE0 AEz BE)
theorem ABZ:Ac Tryz.prog AIy:=Env.Ad N2 AN4 (fun _=>AP rfl rfl) (fun _=>AL rfl rfl)
abbrev Acm:Hints:={  }
theorem AWG:∀ v,XA v=AR Tryz.prog AIy Acm Tryz.f134 AHO AHN AHM v:=by
 rintro⟨a0,⟨⟩⟩
 kernel_rfl
theorem Acl:AD (AW Tryz.f134) 0=[]:=by kernel_rfl
theorem AQv:AU Tryz.prog 134 (AG 1 AHO AHN AHM AMO):=AK ABZ Tryz.func134 (by kernel_rfl) (by kernel_rfl) rfl (fun v=>(AMN v).trans (AWG v)) (AA Acl trivial)
def AI9:Env:=AIy.ext 134 true true (AG 1 AHO AHN AHM AMO)
theorem ABv:Ac Tryz.prog AI9:=Env.Ad ABZ AQv (fun _=>AP rfl rfl) (fun _=>AL rfl rfl)
abbrev AXY:Hints:={  }
theorem ANq:∀ v,NQ v=AR Tryz.prog AI9 AXY Tryz.f100 Ta TZ TY v:=by
 rintro⟨a0,⟨⟩⟩
 kernel_rfl
theorem AXX:AD (AW Tryz.f100) 0=[]:=by kernel_rfl
theorem AIj:AU Tryz.prog 100 (AG 1 Ta TZ TY bitsLen):=AK ABv Tryz.func100 (by kernel_rfl) (by kernel_rfl) rfl (fun v=>(ABS v).trans (ANq v)) (AA AXX trivial)
def Tx:Env:=AI9.ext 100 true true (AG 1 Ta TZ TY bitsLen)
theorem RU:Ac Tryz.prog Tx:=Env.Ad ABv AIj (fun _=>AP rfl rfl) (fun _=>AL rfl rfl)
abbrev AUG:Hints:={ fp:=fun n=>match n with|3=>[[],[0],[0],[],[0],[0],[],[],[0],[1]]|2=>[[],[0],[0],[],[0],[0],[],[],[0],[1]]|1=>[[],[0],[0],[],[0],[0],[],[],[0],[1]]|_=>[] }
theorem AJG:∀ v,Mf v=AR Tryz.prog Tx AUG Tryz.f191 Rb Ra RZ v:=by
 rintro⟨a0,⟨⟩⟩
 kernel_rfl
theorem AUF:AD (AW Tryz.f191) 0=[]:=by kernel_rfl
theorem AEx:AU Tryz.prog 191 (AG 1 Rb Ra RZ xorNext):=AK RU Tryz.func191 (by kernel_rfl) (by kernel_rfl) rfl (fun v=>(XR v).trans (AJG v)) (AA AUF trivial)
def Th:Env:=Tx.ext 191 false true (AG 1 Rb Ra RZ xorNext)
theorem Qy:Ac Tryz.prog Th:=Env.Ad RU AEx ((by simp)) (fun _=>AL rfl rfl)
abbrev AVi:Hints:={  }
theorem AL1:∀ v,M0 v=AR Tryz.prog Th AVi Tryz.f190 SZ SY SX v:=by
 rintro⟨a0,⟨⟩⟩
 kernel_rfl
theorem AVh:AD (AW Tryz.f190) 0=[]:=by kernel_rfl
theorem AGw:AU Tryz.prog 190 (AG 1 SZ SY SX M3):=AK Qy Tryz.func190 (by kernel_rfl) (by kernel_rfl) rfl (fun v=>(Zh v).trans (AL1 v)) (AA AVh trivial)
def Jo:Env:=Th.ext 190 true true (AG 1 SZ SY SX M3)
theorem HA:Ac Tryz.prog Jo:=Env.Ad Qy AGw (fun _=>AP rfl rfl) (fun _=>AL rfl rfl)
abbrev AAH:Hints:={ loop:=fun n=>match n with|0=>Ab 1 53 ATd ATb ATZ|1=>Ab 1 53 ATc ATa ATY|_=>fun _ _ _=>none,fp:=fun n=>match n with|4=>[[],[],[],[],[],[],[],[0],[0],[],[],[],[0],[0],[],[],[]]|6=>[[],[],[],[],[],[],[],[],[0],[0],[],[],[0],[0],[0],[1],[0],[1]]|_=>[] }
theorem AQ5:∀ v,ATY v=roundOf Tryz.prog Jo AAH 2 1 53 (AB Tryz.f207 1) ATc ATa v:=by
 rintro⟨a0,a1,a2,a3,a4,⟨⟩⟩
 kernel_rfl
theorem Aco:AD (AB Tryz.f207 1) 2=[]:=by kernel_rfl
theorem Acq:Aa Tryz.prog 1 (.loop (AB Tryz.f207 1)) (AAH.loop 1):=AX HA (AQ5) (AA Aco trivial)
theorem AQ6:∀ v,ATZ v=roundOf Tryz.prog Jo AAH 1 1 53 (AB Tryz.f207 0) ATd ATb v:=by
 rintro⟨a0,a1,a2,a3,⟨⟩⟩
 kernel_rfl
theorem Acp:AD (AB Tryz.f207 0) 1=[(1,AB Tryz.f207 1)]:=by kernel_rfl
theorem Acr:Aa Tryz.prog 1 (.loop (AB Tryz.f207 0)) (AAH.loop 0):=AX HA (AQ6) (AA Acp ⟨Acq,trivial⟩)
theorem AaM:∀ v,AaN v=AR Tryz.prog Jo AAH Tryz.f207 AQ9 AQ8 AQ7 v:=by
 rintro⟨a0,a1,a2,⟨⟩⟩
 kernel_rfl
theorem AeR:AD (AW Tryz.f207) 0=[(0,AB Tryz.f207 0)]:=by kernel_rfl
theorem AWL:AU Tryz.prog 207 (AG 4 AQ9 AQ8 AQ7 AeS):=AK HA Tryz.func207 (by kernel_rfl) (by kernel_rfl) rfl (fun v=>(Acs v).trans (AaM v)) (AA AeR ⟨Acr,trivial⟩)
def AJA:Env:=Jo.E0 207 3 204 (AG 4 AQ9 AQ8 AQ7 AeS)
theorem Tr:Ac Tryz.prog AJA:=Env.Bb HA AWL (AL rfl rfl)
abbrev AFd:Hints:={ loop:=fun n=>match n with|0=>Ab 1 82 AJx AJw AJv|_=>fun _ _ _=>none,fp:=fun n=>match n with|6=>[[],[],[],[],[],[],[],[],[],[],[],[],[0],[0],[],[],[],[],[0],[0],[0],[1],[0],[1]]|5=>[[],[],[],[],[],[0],[0],[],[],[],[],[0],[0],[],[],[]]|3=>[[],[],[],[],[],[],[],[],[],[],[0],[0],[],[],[],[],[],[0],[0],[],[],[]]|_=>[] }
theorem AJu:∀ v,AJv v=roundOf Tryz.prog AJA AFd 1 1 82 (AB Tryz.f215 0) AJx AJw v:=by
 rintro⟨a0,a1,a2,a3,⟨⟩⟩
 kernel_rfl
theorem AYN:AD (AB Tryz.f215 0) 1=[]:=by kernel_rfl
theorem AYO:Aa Tryz.prog 1 (.loop (AB Tryz.f215 0)) (AFd.loop 0):=AX Tr (AJu) (AA AYN trivial)
theorem AUj:∀ v,ASw v=AR Tryz.prog AJA AFd Tryz.f215 AFc AFb AFa v:=by
 rintro⟨a0,a1,a2,a3,⟨⟩⟩
 kernel_rfl
theorem Abz:AD (AW Tryz.f215) 0=[(0,AB Tryz.f215 0)]:=by kernel_rfl
theorem AOc:AU Tryz.prog 215 (AG 5 AFc AFb AFa AYQ):=AK Tr Tryz.func215 (by kernel_rfl) (by kernel_rfl) rfl (fun v=>(AYP v).trans (AUj v)) (AA Abz ⟨AYO,trivial⟩)
def Q3:Env:=AJA.E0 215 4 204 (AG 5 AFc AFb AFa AYQ)
theorem Ki:Ac Tryz.prog Q3:=Env.Bb Tr AOc (AL rfl rfl)
end
end Go.Pev
end
section
namespace Go.Pev
open Go.Proofs
noncomputable section
abbrev QV:Hints:={ loop:=fun n=>match n with|0=>Ab 1 60 AMc AMa AMY|1=>Ab 1 60 AMb AMZ AMW|_=>fun _ _ _=>none,fp:=fun n=>match n with|10=>[[],[],[],[],[],[],[],[],[],[],[0],[0],[],[],[0],[0],[0],[1],[0],[1]]|_=>[] }
theorem AMV:∀ v,AMW v=roundOf Tryz.prog Q3 QV 2 1 60 (AB Tryz.f208 1) AMb AMZ v:=by
 rintro⟨a0,a1,a2,a3,⟨⟩⟩
 kernel_rfl
theorem AaY:AD (AB Tryz.f208 1) 2=[]:=by kernel_rfl
theorem Aaa:Aa Tryz.prog 1 (.loop (AB Tryz.f208 1)) (QV.loop 1):=AX Ki (AMV) (AA AaY trivial)
theorem AMX:∀ v,AMY v=roundOf Tryz.prog Q3 QV 1 1 60 (AB Tryz.f208 0) AMc AMa v:=by
 rintro⟨a0,a1,a2,a3,a4,⟨⟩⟩
 kernel_rfl
theorem AaZ:AD (AB Tryz.f208 0) 1=[]:=by kernel_rfl
theorem Aab:Aa Tryz.prog 1 (.loop (AB Tryz.f208 0)) (QV.loop 0):=AX Ki (AMX) (AA AaZ trivial)
theorem AWZ:∀ v,ATl v=AR Tryz.prog Q3 QV Tryz.f208 AHe AHd AHc v:=by
 rintro⟨a0,a1,a2,⟨⟩⟩
 kernel_rfl
theorem Ac4:AD (AW Tryz.f208) 0=[(0,AB Tryz.f208 0),(1,AB Tryz.f208 1)]:=by kernel_rfl
theorem ARL:AU Tryz.prog 208 (AG 4 AHe AHd AHc Aad):=AK Ki Tryz.func208 (by kernel_rfl) (by kernel_rfl) rfl (fun v=>(Aac v).trans (AWZ v)) (AA Ac4 ⟨Aab,Aaa,trivial⟩)
def XO:Env:=Q3.E0 208 3 204 (AG 4 AHe AHd AHc Aad)
theorem PE:Ac Tryz.prog XO:=Env.Bb Ki ARL (AL rfl rfl)
abbrev ABM:Hints:={ loop:=fun n=>match n with|0=>Ab 1 67 AEb AEa AEZ|_=>fun _ _ _=>none,fp:=fun n=>match n with|10=>[[],[],[],[],[],[],[],[],[],[],[0],[0],[],[],[0],[0],[0],[1],[0],[1]]|_=>[] }
theorem AIg:∀ v,AEZ v=roundOf Tryz.prog XO ABM 1 1 67 (AB Tryz.f209 0) AEb AEa v:=by
 rintro⟨a0,a1,a2,a3,a4,a5,⟨⟩⟩
 kernel_rfl
theorem AXR:AD (AB Tryz.f209 0) 1=[]:=by kernel_rfl
theorem AXS:Aa Tryz.prog 1 (.loop (AB Tryz.f209 0)) (ABM.loop 0):=AX PE (AIg) (AA AXR trivial)
theorem ASJ:∀ v,ANm v=AR Tryz.prog XO ABM Tryz.f209 ABL ABK ABJ v:=by
 rintro⟨a0,a1,a2,⟨⟩⟩
 kernel_rfl
theorem AbP:AD (AW Tryz.f209) 0=[(0,AB Tryz.f209 0)]:=by kernel_rfl
theorem ANl:AU Tryz.prog 209 (AG 4 ABL ABK ABJ ASK):=AK PE Tryz.func209 (by kernel_rfl) (by kernel_rfl) rfl (fun v=>(AXT v).trans (ASJ v)) (AA AbP ⟨AXS,trivial⟩)
def AB3:Env:=XO.E0 209 3 204 (AG 4 ABL ABK ABJ ASK)
theorem Vx:Ac Tryz.prog AB3:=Env.Bb PE ANl (AL rfl rfl)
abbrev AVY:Hints:={ fp:=fun n=>match n with|1=>[[],[],[],[0],[0],[],[],[0],[0],[],[]]|_=>[] }
theorem ALo:∀ v,ADx v=AR Tryz.prog AB3 AVY Tryz.f218 SR SQ SO v:=by
 rintro⟨a0,a1,a2,a3,⟨⟩⟩
 kernel_rfl
theorem AVX:AD (AW Tryz.f218) 0=[]:=by kernel_rfl
theorem AGj:AU Tryz.prog 218 (AG 5 SR SQ SO AGk):=AK Vx Tryz.func218 (by kernel_rfl) (by kernel_rfl) rfl (fun v=>(AQB v).trans (ALo v)) (AA AVX trivial)
def Tk:Env:=AB3.E0 218 4 204 (AG 5 SR SQ SO AGk)
theorem Q9:Ac Tryz.prog Tk:=Env.Bb Vx AGj (AL rfl rfl)
abbrev AVq:Hints:={  }
theorem AL6:∀ v,ADy v=AR Tryz.prog Tk AVq Tryz.f217 Se Sd Sc v:=by
 rintro⟨a0,a1,a2,a3,a4,⟨⟩⟩
 kernel_rfl
theorem AVp:AD (AW Tryz.f217) 0=[]:=by kernel_rfl
theorem AG1:AU Tryz.prog 217 (AG 6 Se Sd Sc AG2):=AK Q9 Tryz.func217 (by kernel_rfl) (by kernel_rfl) rfl (fun v=>(AQb v).trans (AL6 v)) (AA AVp trivial)
def Tm:Env:=Tk.E0 217 5 204 (AG 6 Se Sd Sc AG2)
theorem RB:Ac Tryz.prog Tm:=Env.Bb Q9 AG1 (AL rfl rfl)
abbrev AVu:Hints:={  }
theorem AL8:∀ v,ADz v=AR Tryz.prog Tm AVu Tryz.f216 Sk Sj Si v:=by
 rintro⟨a0,a1,a2,⟨⟩⟩
 kernel_rfl
theorem AVt:AD (AW Tryz.f216) 0=[]:=by kernel_rfl
theorem AG4:AU Tryz.prog 216 (AG 4 Sk Sj Si AG5):=AK RB Tryz.func216 (by kernel_rfl) (by kernel_rfl) rfl (fun v=>(AQd v).trans (AL8 v)) (AA AVt trivial)
def To:Env:=Tm.E0 216 3 204 (AG 4 Sk Sj Si AG5)
theorem RD:Ac Tryz.prog To:=Env.Bb RB AG4 (AL rfl rfl)
abbrev AYy:Hints:={  }
theorem APZ:∀ v,AKX v=AR Tryz.prog To AYy Tryz.f210 Yr Yq Yp v:=by
 rintro⟨a0,a1,a2,⟨⟩⟩
 kernel_rfl
theorem AYx:AD (AW Tryz.f210) 0=[]:=by kernel_rfl
theorem AKW:AU Tryz.prog 210 (AG 4 Yr Yq Yp APa):=AK RD Tryz.func210 (by kernel_rfl) (by kernel_rfl) rfl (fun v=>(AVA v).trans (APZ v)) (AA AYx trivial)
def Q7:Env:=To.E0 210 3 204 (AG 4 Yr Yq Yp APa)
theorem MY:Ac Tryz.prog Q7:=Env.Bb RD AKW (AL rfl rfl)
abbrev AO2:Hints:={ loop:=fun n=>match n with|0=>Ab 1 34 AS0 ASz ASy|_=>fun _ _ _=>none,fp:=fun n=>match n with|3=>[[],[],[],[],[],[],[0],[0],[],[],[0],[0],[0],[1],[0],[1]]|_=>[] }
theorem AOy:∀ v,ASy v=roundOf Tryz.prog Q7 AO2 1 1 34 (AB Tryz.f211 0) AS0 ASz v:=by
 rintro⟨a0,a1,a2,⟨⟩⟩
 kernel_rfl
theorem Ab5:AD (AB Tryz.f211 0) 1=[]:=by kernel_rfl
theorem Ab6:Aa Tryz.prog 1 (.loop (AB Tryz.f211 0)) (AO2.loop 0):=AX MY (AOy) (AA Ab5 trivial)
theorem AYe:∀ v,AYf v=AR Tryz.prog Q7 AO2 Tryz.f211 AO1 AO0 AOz v:=by
 rintro⟨a0,a1,a2,⟨⟩⟩
 kernel_rfl
theorem Adx:AD (AW Tryz.f211) 0=[(0,AB Tryz.f211 0)]:=by kernel_rfl
theorem AUv:AU Tryz.prog 211 (AG 4 AO1 AO0 AOz Ady):=AK MY Tryz.func211 (by kernel_rfl) (by kernel_rfl) rfl (fun v=>(Ab7 v).trans (AYe v)) (AA Adx ⟨Ab6,trivial⟩)
def PA:Env:=Q7.E0 211 3 204 (AG 4 AO1 AO0 AOz Ady)
theorem HO:Ac Tryz.prog PA:=Env.Bb MY AUv (AL rfl rfl)
abbrev Co:Hints:={ loop:=fun n=>match n with|0=>Ab 1 141 UR UN UJ|1=>Ab 1 141 UQ UM UI|2=>Ab 1 141 UP UL UH|3=>Ab 1 141 UO UK UG|_=>fun _ _ _=>none,fp:=fun n=>match n with|11=>[[],[],[],[],[],[],[],[],[0],[0],[],[],[0],[0],[0],[1],[0],[1]]|5=>[[],[],[],[],[],[],[],[0],[0],[],[],[],[0],[0],[],[],[],[]]|17=>[[],[],[],[],[],[],[],[],[0],[0],[],[],[0],[0],[0],[1],[0],[1]]|16=>[[],[],[],[0],[0],[],[],[],[0],[0],[],[],[]]|23=>[[],[],[],[],[],[],[],[],[0],[0],[],[],[0],[0],[0],[1],[0],[1]]|22=>[[],[],[],[0],[0],[],[],[],[0],[0],[],[],[]]|_=>[] }
theorem ZA:∀ v,UG v=roundOf Tryz.prog PA Co 4 1 141 (AB Tryz.f212 3) UO UK v:=by
 rintro⟨a0,a1,a2,a3,a4,a5,⟨⟩⟩
 kernel_rfl
theorem AK3:AD (AB Tryz.f212 3) 4=[]:=by kernel_rfl
theorem AK7:Aa Tryz.prog 1 (.loop (AB Tryz.f212 3)) (Co.loop 3):=AX HO (ZA) (AA AK3 trivial)
theorem ZB:∀ v,UH v=roundOf Tryz.prog PA Co 3 1 141 (AB Tryz.f212 2) UP UL v:=by
 rintro⟨a0,a1,a2,a3,a4,a5,⟨⟩⟩
 kernel_rfl
theorem AK4:AD (AB Tryz.f212 2) 3=[]:=by kernel_rfl
theorem AK8:Aa Tryz.prog 1 (.loop (AB Tryz.f212 2)) (Co.loop 2):=AX HO (ZB) (AA AK4 trivial)
theorem ZC:∀ v,UI v=roundOf Tryz.prog PA Co 2 1 141 (AB Tryz.f212 1) UQ UM v:=by
 rintro⟨a0,a1,a2,a3,a4,⟨⟩⟩
 kernel_rfl
theorem AK5:AD (AB Tryz.f212 1) 2=[]:=by kernel_rfl
theorem AK9:Aa Tryz.prog 1 (.loop (AB Tryz.f212 1)) (Co.loop 1):=AX HO (ZC) (AA AK5 trivial)
theorem ZD:∀ v,UJ v=roundOf Tryz.prog PA Co 1 1 141 (AB Tryz.f212 0) UR UN v:=by
 rintro⟨a0,a1,a2,a3,a4,⟨⟩⟩
 kernel_rfl
theorem AK6:AD (AB Tryz.f212 0) 1=[(1,AB Tryz.f212 1),(2,AB Tryz.f212 2),(3,AB Tryz.f212 3)]:=by kernel_rfl
theorem ALA:Aa Tryz.prog 1 (.loop (AB Tryz.f212 0)) (Co.loop 0):=AX HO (ZD) (AA AK6 ⟨AK9,AK8,AK7,trivial⟩)
theorem AGX:∀ v,ZE v=AR Tryz.prog PA Co Tryz.f212 ON OM OL v:=by
 rintro⟨a0,a1,a2,⟨⟩⟩
 kernel_rfl
theorem APs:AD (AW Tryz.f212) 0=[(0,AB Tryz.f212 0)]:=by kernel_rfl
theorem ACL:AU Tryz.prog 212 (AG 4 ON OM OL ZF):=AK HO Tryz.func212 (by kernel_rfl) (by kernel_rfl) rfl (fun v=>(ALB v).trans (AGX v)) (AA APs ⟨ALA,trivial⟩)
def Fz:Env:=PA.E0 212 3 204 (AG 4 ON OM OL ZF)
theorem D0:Ac Tryz.prog Fz:=Env.Bb HO ACL (AL rfl rfl)
abbrev FQ:Hints:={ loop:=fun n=>match n with|0=>Ab 1 90 ZS ZP ZM|1=>Ab 1 90 ZR ZO ZL|2=>Ab 1 90 ZQ ZN ZK|_=>fun _ _ _=>none,fp:=fun n=>match n with|8=>[[],[],[],[],[],[],[0],[0],[],[],[0],[0],[0],[1],[0],[1]]|3=>[[],[],[],[],[],[],[],[0],[0],[],[],[0],[0],[],[],[],[]]|5=>[[],[],[],[],[],[],[],[0],[0],[],[],[0],[0],[],[],[]]|1=>[[],[],[],[],[],[],[0],[0],[],[],[0],[0],[0],[1],[0],[1]]|_=>[] }
theorem ACU:∀ v,ZK v=roundOf Tryz.prog Fz FQ 3 1 90 (AB Tryz.f213 2) ZQ ZN v:=by
 rintro⟨a0,a1,a2,a3,⟨⟩⟩
 kernel_rfl
theorem APx:AD (AB Tryz.f213 2) 3=[]:=by kernel_rfl
theorem AP0:Aa Tryz.prog 1 (.loop (AB Tryz.f213 2)) (FQ.loop 2):=AX D0 (ACU) (AA APx trivial)
theorem ACV:∀ v,ZL v=roundOf Tryz.prog Fz FQ 2 1 90 (AB Tryz.f213 1) ZR ZO v:=by
 rintro⟨a0,a1,a2,a3,⟨⟩⟩
 kernel_rfl
theorem APy:AD (AB Tryz.f213 1) 2=[]:=by kernel_rfl
theorem AP1:Aa Tryz.prog 1 (.loop (AB Tryz.f213 1)) (FQ.loop 1):=AX D0 (ACV) (AA APy trivial)
theorem ACW:∀ v,ZM v=roundOf Tryz.prog Fz FQ 1 1 90 (AB Tryz.f213 0) ZS ZP v:=by
 rintro⟨a0,a1,a2,a3,⟨⟩⟩
 kernel_rfl
theorem APz:AD (AB Tryz.f213 0) 1=[(1,AB Tryz.f213 1),(2,AB Tryz.f213 2)]:=by kernel_rfl
theorem AP2:Aa Tryz.prog 1 (.loop (AB Tryz.f213 0)) (FQ.loop 0):=AX D0 (ACW) (AA APz ⟨AP1,AP0,trivial⟩)
theorem ALj:∀ v,ADu v=AR Tryz.prog Fz FQ Tryz.f213 SJ SH SF v:=by
 rintro⟨a0,a1,a2,a3,⟨⟩⟩
 kernel_rfl
theorem AVU:AD (AW Tryz.f213) 0=[(0,AB Tryz.f213 0)]:=by kernel_rfl
theorem AGe:AU Tryz.prog 213 (AG 5 SJ SH SF AGf):=AK D0 Tryz.func213 (by kernel_rfl) (by kernel_rfl) rfl (fun v=>(AP3 v).trans (ALj v)) (AA AVU ⟨AP2,trivial⟩)
def Ef:Env:=Fz.E0 213 4 204 (AG 5 SJ SH SF AGf)
theorem Cv:Ac Tryz.prog Ef:=Env.Bb D0 AGe (AL rfl rfl)
abbrev Eo:Hints:={ loop:=fun n=>match n with|0=>Ab 1 178 AK2 AKx AKs|1=>Ab 1 178 AK1 AKw AKq|2=>Ab 1 178 AK0 AKv AKo|3=>Ab 1 178 AKz AKu AKm|4=>Ab 1 178 AKy AKt AKk|_=>fun _ _ _=>none,fp:=fun n=>match n with|3=>[[],[],[],[],[],[],[],[0],[0],[],[],[0],[0],[],[],[]]|5=>[[],[],[],[],[],[],[],[0],[0],[],[],[0],[0],[],[],[],[]]|18=>[[],[],[],[],[],[],[0],[0],[],[],[0],[0],[0],[1],[0],[1]]|13=>[[],[],[],[],[],[],[],[0],[0],[],[],[0],[0],[],[],[]]|15=>[[],[],[],[],[],[],[],[0],[0],[],[],[0],[0],[],[],[],[]]|21=>[[],[],[],[],[],[],[0],[0],[],[],[0],[0],[0],[1],[0],[1]]|10=>[[],[],[],[],[],[],[0],[0],[],[],[0],[0],[0],[1],[0],[1]]|8=>[[],[],[],[],[],[],[0],[0],[],[],[0],[0],[0],[1],[0],[1]]|1=>[[],[],[],[],[],[],[0],[0],[],[],[0],[0],[0],[1],[0],[1]]|_=>[] }
theorem AKj:∀ v,AKk v=roundOf Tryz.prog Ef Eo 5 1 178 (AB Tryz.f214 4) AKy AKt v:=by
 rintro⟨a0,a1,a2,a3,⟨⟩⟩
 kernel_rfl
theorem AZO:AD (AB Tryz.f214 4) 5=[]:=by kernel_rfl
theorem AZT:Aa Tryz.prog 1 (.loop (AB Tryz.f214 4)) (Eo.loop 4):=AX Cv (AKj) (AA AZO trivial)
theorem AKl:∀ v,AKm v=roundOf Tryz.prog Ef Eo 4 1 178 (AB Tryz.f214 3) AKz AKu v:=by
 rintro⟨a0,a1,a2,a3,⟨⟩⟩
 kernel_rfl
theorem AZP:AD (AB Tryz.f214 3) 4=[]:=by kernel_rfl
theorem AZU:Aa Tryz.prog 1 (.loop (AB Tryz.f214 3)) (Eo.loop 3):=AX Cv (AKl) (AA AZP trivial)
theorem AKn:∀ v,AKo v=roundOf Tryz.prog Ef Eo 3 1 178 (AB Tryz.f214 2) AK0 AKv v:=by
 rintro⟨a0,a1,a2,a3,⟨⟩⟩
 kernel_rfl
theorem AZQ:AD (AB Tryz.f214 2) 3=[(3,AB Tryz.f214 3),(4,AB Tryz.f214 4)]:=by kernel_rfl
theorem AZV:Aa Tryz.prog 1 (.loop (AB Tryz.f214 2)) (Eo.loop 2):=AX Cv (AKn) (AA AZQ ⟨AZU,AZT,trivial⟩)
theorem AKp:∀ v,AKq v=roundOf Tryz.prog Ef Eo 2 1 178 (AB Tryz.f214 1) AK1 AKw v:=by
 rintro⟨a0,a1,a2,a3,⟨⟩⟩
 kernel_rfl
theorem AZR:AD (AB Tryz.f214 1) 2=[]:=by kernel_rfl
theorem AZW:Aa Tryz.prog 1 (.loop (AB Tryz.f214 1)) (Eo.loop 1):=AX Cv (AKp) (AA AZR trivial)
theorem AKr:∀ v,AKs v=roundOf Tryz.prog Ef Eo 1 1 178 (AB Tryz.f214 0) AK2 AKx v:=by
 rintro⟨a0,a1,a2,a3,⟨⟩⟩
 kernel_rfl
theorem AZS:AD (AB Tryz.f214 0) 1=[]:=by kernel_rfl
theorem AZX:Aa Tryz.prog 1 (.loop (AB Tryz.f214 0)) (Eo.loop 0):=AX Cv (AKr) (AA AZS trivial)
theorem AVQ:∀ v,ATH v=AR Tryz.prog Ef Eo Tryz.f214 AGW AGV AGU v:=by
 rintro⟨a0,a1,a2,a3,⟨⟩⟩
 kernel_rfl
theorem AcT:AD (AW Tryz.f214) 0=[(0,AB Tryz.f214 0),(1,AB Tryz.f214 1),(2,AB Tryz.f214 2)]:=by kernel_rfl
theorem APr:AU Tryz.prog 214 (AG 5 AGW AGV AGU AZZ):=AK Cv Tryz.func214 (by kernel_rfl) (by kernel_rfl) rfl (fun v=>(AZY v).trans (AVQ v)) (AA AcT ⟨AZX,AZW,AZV,trivial⟩)
def AI7:Env:=Ef.E0 214 4 204 (AG 5 AGW AGV AGU AZZ)
theorem ABr:Ac Tryz.prog AI7:=Env.Bb Cv APr (AL rfl rfl)
abbrev APm(self:(List (List Int)×Int×Int×Int×Unit)→Option ((List (List Int)×Unit))):Hints:={ loop:=fun n=>match n with|0=>Ab 1 148 ATC ATB (ATA self)|_=>fun _ _ _=>none,fp:=fun n=>match n with|17=>[[],[],[],[],[],[],[],[0],[0],[],[],[0],[0],[],[],[],[]]|_=>[] }
abbrev AGM(self:(List (List Int)×Int×Int×Int×Unit)→Option ((List (List Int)×Unit))):Env:=AI7.ext 206 false true (AG 5 Y4 Y3 Y2 self)
theorem APl(self:(List (List Int)×Int×Int×Int×Unit)→Option ((List (List Int)×Unit))):∀ v,ATA self v=roundOf Tryz.prog (AGM self) (APm self) 1 1 148 (AB Tryz.f206 0) ATC ATB v:=by
 rintro⟨a0,a1,a2,a3,a4,a5,⟨⟩⟩
 kernel_rfl
theorem AcJ:AD (AB Tryz.f206 0) 1=[]:=by kernel_rfl
theorem AcK(self:(List (List Int)×Int×Int×Int×Unit)→Option ((List (List Int)×Unit)))(hE:Ac Tryz.prog (AGM self)):Aa Tryz.prog 1 (.loop (AB Tryz.f206 0)) ((APm self).loop 0):=AX hE (APl self) (AA AcJ trivial)
theorem AY9(self:(List (List Int)×Int×Int×Int×Unit)→Option ((List (List Int)×Unit))):∀ v,Ad4 self v=AR Tryz.prog (AGM self) (APm self) Tryz.f206 Y4 Y3 Y2 v:=by
 rintro⟨a0,a1,a2,a3,⟨⟩⟩
 kernel_rfl
theorem Ad3:AD (AW Tryz.f206) 0=[(0,AB Tryz.f206 0)]:=by kernel_rfl
theorem APn:∀ n,AU Tryz.prog 206 (AG 5 Y4 Y3 Y2 (Y5 n)):=by
 intro n
 induction n with
 |zero=>exact VH fun _=>rfl
 |succ n ih=>
  have hE:Ac Tryz.prog (AGM (Y5 n)):=Env.Ad ABr ih ((by simp)) (fun _=>AL rfl rfl)
  let self:=Y5 n
  exact AK hE Tryz.func206 (by kernel_rfl) (by kernel_rfl) rfl (AY9 self) (AA Ad3 ⟨(AcK self hE),trivial⟩)
theorem AVH:AU Tryz.prog 206 (AG 5 Y4 Y3 Y2 AcM):=by
 have e:AcM=Y5 100:=funext AcL
 rw[e]
 exact APn _
def ASb:Env:=AI7.E0 206 4 204 (AG 5 Y4 Y3 Y2 AcM)
theorem AEm:Ac Tryz.prog ASb:=Env.Bb ABr AVH (AL rfl rfl)
abbrev Abw:Hints:={  }
theorem AUf:∀ v,ASv v=AR Tryz.prog ASb Abw Tryz.f203 AFW AFV AFU v:=by
 rintro⟨a0,⟨⟩⟩
 kernel_rfl
theorem Abv:AD (AW Tryz.f203) 0=[]:=by kernel_rfl
theorem AOa:AU Tryz.prog 203 (AG 2 AFW AFV AFU AJq):=AK AEm Tryz.func203 (by kernel_rfl) (by kernel_rfl) rfl (fun v=>(AYK v).trans (AUf v)) (AA Abv trivial)
def Q2:Env:=ASb.E0 203 1 204 (AG 2 AFW AFV AFU AJq)
theorem Kh:Ac Tryz.prog Q2:=Env.Bb AEm AOa (AL rfl rfl)
end
end Go.Pev
end
section
namespace Go.Pev
open Go.Proofs
noncomputable section
abbrev PM:Hints:={ loop:=fun n=>match n with|0=>Ab 0 47 AJS AJQ HR|1=>Ab 0 47 AJR AJP HQ|_=>fun _ _ _=>none }
theorem AJN:∀ v,HQ v=roundOf Tryz.prog Q2 PM 2 0 47 (AB Tryz.f188 1) AJR AJP v:=by
 rintro⟨a0,a1,a2,a3,a4,a5,a6,⟨⟩⟩
 kernel_rfl
theorem AXi:AD (AB Tryz.f188 1) 2=[]:=by kernel_rfl
theorem AXk:Aa Tryz.prog 0 (.loop (AB Tryz.f188 1)) (PM.loop 1):=AX Kh (AJN) (AA AXi trivial)
theorem AJO:∀ v,HR v=roundOf Tryz.prog Q2 PM 1 0 47 (AB Tryz.f188 0) AJS AJQ v:=by
 rintro⟨a0,a1,a2,a3,a4,a5,a6,a7,a8,⟨⟩⟩
 kernel_rfl
theorem AXj:AD (AB Tryz.f188 0) 1=[]:=by kernel_rfl
theorem AXl:Aa Tryz.prog 0 (.loop (AB Tryz.f188 0)) (PM.loop 0):=AX Kh (AJO) (AA AXj trivial)
theorem AUK:∀ v,Wl v=AR Tryz.prog Q2 PM Tryz.f188 AE5 AE4 AE3 v:=by
 rintro⟨a0,a1,a2,⟨⟩⟩
 kernel_rfl
theorem Abi:AD (AW Tryz.f188) 0=[(0,AB Tryz.f188 0),(1,AB Tryz.f188 1)]:=by kernel_rfl
theorem AN8:AU Tryz.prog 188 (AG 3 AE5 AE4 AE3 AJU):=AK Kh Tryz.func188 (by kernel_rfl) (by kernel_rfl) rfl (fun v=>(AJT v).trans (AUK v)) (AA Abi ⟨AXl,AXk,trivial⟩)
def AIz:Env:=Q2.ext 188 true true (AG 3 AE5 AE4 AE3 AJU)
theorem ABa:Ac Tryz.prog AIz:=Env.Ad Kh AN8 (fun _=>AP rfl rfl) (fun _=>AL rfl rfl)
abbrev Abt:Hints:={ fp:=fun n=>match n with|9=>[[],[28],[0],[0],[],[],[],[],[],[0],[0],[],[],[],[],[],[28],[28,52,36,62],[64],[]]|4=>[[0],[],[],[0],[],[],[],[]]|_=>[] }
theorem AUY:∀ v,Gx v=AR Tryz.prog AIz Abt Tryz.f161 AFQ AFP AFO v:=by
 rintro⟨a0,a1,a2,⟨⟩⟩
 kernel_rfl
theorem Abs:AD (AW Tryz.f161) 0=[]:=by kernel_rfl
theorem AOP:AU Tryz.prog 161 (AG 3 AFQ AFP AFO LM):=AK ABa Tryz.func161 (by kernel_rfl) (by kernel_rfl) rfl (fun v=>(HY v).trans (AUY v)) (AA Abs trivial)
def AI0:Env:=AIz.ext 161 true true (AG 3 AFQ AFP AFO LM)
theorem ABf:Ac Tryz.prog AI0:=Env.Ad ABa AOP (fun _=>AP rfl rfl) (fun _=>AL rfl rfl)
theorem AYG:Tryz.f155.body.isSome=true:=by kernel_rfl
theorem AYF : (Tryz.f155.name == "runtime.NumGoroutine") = false := by kernel_rfl
theorem AYE:loops (AW Tryz.f155)=0:=by kernel_rfl
def Kg:Env:=AI0.ext 155 false false (Cy Tryz.prog AI0 {} Tryz.f155)
theorem JE:Ac Tryz.prog Kg:=Env.Ad ABf (Ch ABf Tryz.func155 AYG AYF AYE) (by simp) (by simp)
abbrev Fi:Hints:={ loop:=fun n=>match n with|0=>Ab 1 19 Ik Ij Be|_=>fun _ _ _=>none }
theorem L4:∀ v,Be v=roundOf Tryz.prog Kg Fi 1 1 19 (AB Tryz.f174 0) Ik Ij v:=by
 rintro⟨a0,a1,a2,a3,a4,⟨⟩⟩
 kernel_rfl
theorem QQ:AD (AB Tryz.f174 0) 1=[]:=by kernel_rfl
theorem QR:Aa Tryz.prog 1 (.loop (AB Tryz.f174 0)) (Fi.loop 0):=AX JE (L4) (AA QQ trivial)
theorem Oi:∀ v,Dh v=AR Tryz.prog Kg Fi Tryz.f174 Fh Fg Ff v:=by
 rintro⟨a0,a1,a2,⟨⟩⟩
 kernel_rfl
theorem S2:AD (AW Tryz.f174) 0=[(0,AB Tryz.f174 0)]:=by kernel_rfl
theorem Ni:AU Tryz.prog 174 (AG 2 Fh Fg Ff Ex):=AK JE Tryz.func174 (by kernel_rfl) (by kernel_rfl) rfl (fun v=>(Il v).trans (Oi v)) (AA S2 ⟨QR,trivial⟩)
def F6:Env:=Kg.E0 174 1 155 (AG 2 Fh Fg Ff Ex)
theorem Gw:Ac Tryz.prog F6:=Env.Bb JE Ni (AL rfl rfl)
abbrev Ql:Hints:={  }
theorem Nj:∀ v,C9 v=AR Tryz.prog F6 Ql Tryz.f154 E7 E6 E5 v:=by
 rintro⟨a0,a1,a2,⟨⟩⟩
 kernel_rfl
theorem Qk:AD (AW Tryz.f154) 0=[]:=by kernel_rfl
theorem MK:AU Tryz.prog 154 (AG 2 E7 E6 E5 Cz):=AK Gw Tryz.func154 (by kernel_rfl) (by kernel_rfl) rfl (fun v=>(IG v).trans (Nj v)) (AA Qk trivial)
def FE:Env:=F6.E0 154 1 155 (AG 2 E7 E6 E5 Cz)
theorem Gg:Ac Tryz.prog FE:=Env.Bb Gw MK (AL rfl rfl)
abbrev Aau:Hints:={  }
theorem ARa:∀ v,QY v=AR Tryz.prog FE Aau Tryz.f125 AAa AAZ AAY v:=by
 rintro⟨a0,a1,⟨⟩⟩
 kernel_rfl
theorem Aat:AD (AW Tryz.f125) 0=[]:=by kernel_rfl
theorem AM4:AU Tryz.prog 125 (AG 2 AAa AAZ AAY KO):=AK Gg Tryz.func125 (by kernel_rfl) (by kernel_rfl) rfl (fun v=>(AEP v).trans (ARa v)) (AA Aat trivial)
def RP:Env:=FE.ext 125 true true (AG 2 AAa AAZ AAY KO)
theorem Md:Ac Tryz.prog RP:=Env.Ad Gg AM4 (fun _=>AP rfl rfl) (fun _=>AL rfl rfl)
abbrev ARo:Hints:={ loop:=fun n=>match n with|0=>Ab 0 21 ATu ATt KS|_=>fun _ _ _=>none }
theorem ARk:∀ v,KS v=roundOf Tryz.prog RP ARo 1 0 21 (AB Tryz.f183 0) ATu ATt v:=by
 rintro⟨a0,a1,a2,a3,⟨⟩⟩
 kernel_rfl
theorem AdM:AD (AB Tryz.f183 0) 1=[]:=by kernel_rfl
theorem AdN:Aa Tryz.prog 0 (.loop (AB Tryz.f183 0)) (ARo.loop 0):=AX Md (ARk) (AA AdM trivial)
theorem Aa7:∀ v,AIC v=AR Tryz.prog RP ARo Tryz.f183 ARn ARm ARl v:=by
 rintro⟨a0,⟨⟩⟩
 kernel_rfl
theorem Aea:AD (AW Tryz.f183) 0=[(0,AB Tryz.f183 0)]:=by kernel_rfl
theorem AXA:AU Tryz.prog 183 (AG 1 ARn ARm ARl ends):=AK Md Tryz.func183 (by kernel_rfl) (by kernel_rfl) rfl (fun v=>(ATv v).trans (Aa7 v)) (AA Aea ⟨AdN,trivial⟩)
def AJE:Env:=RP.ext 183 true true (AG 1 ARn ARm ARl ends)
theorem Tu:Ac Tryz.prog AJE:=Env.Ad Md AXA (fun _=>AP rfl rfl) (fun _=>AL rfl rfl)
abbrev Oz:Hints:={ loop:=fun n=>match n with|0=>Ab 0 48 VT VS Bv|_=>fun _ _ _=>none,fp:=fun n=>match n with|1=>[[0],[],[],[4],[]]|_=>[] }
theorem AAs:∀ v,Bv v=roundOf Tryz.prog AJE Oz 1 0 48 (AB Tryz.f160 0) VT VS v:=by
 rintro⟨a0,a1,a2,a3,a4,a5,a6,⟨⟩⟩
 kernel_rfl
theorem ANN:AD (AB Tryz.f160 0) 1=[]:=by kernel_rfl
theorem ANO:Aa Tryz.prog 0 (.loop (AB Tryz.f160 0)) (Oz.loop 0):=AX Tu (AAs) (AA ANN trivial)
theorem AIE:∀ v,H9 v=AR Tryz.prog AJE Oz Tryz.f160 Oy Ox Ow v:=by
 rintro⟨a0,a1,⟨⟩⟩
 kernel_rfl
theorem ARr:AD (AW Tryz.f160) 0=[(0,AB Tryz.f160 0)]:=by kernel_rfl
theorem ACr:AU Tryz.prog 160 (AG 3 Oy Ox Ow Qf):=AK Tu Tryz.func160 (by kernel_rfl) (by kernel_rfl) rfl (fun v=>(MF v).trans (AIE v)) (AA ARr ⟨ANO,trivial⟩)
def PH:Env:=AJE.E0 160 2 161 (AG 3 Oy Ox Ow Qf)
theorem N1:Ac Tryz.prog PH:=Env.Bb Tu ACr (AL rfl rfl)
abbrev Aa1:Hints:={  }
theorem ARf:∀ v,L9 v=AR Tryz.prog PH Aa1 Tryz.f130 AAf AAe AAd v:=by
 rintro⟨a0,a1,⟨⟩⟩
 kernel_rfl
theorem Aa0:AD (AW Tryz.f130) 0=[]:=by kernel_rfl
theorem AM9:AU Tryz.prog 130 (AG 2 AAf AAe AAd AH6):=AK N1 Tryz.func130 (by kernel_rfl) (by kernel_rfl) rfl (fun v=>(TC v).trans (ARf v)) (AA Aa0 trivial)
def AB1:Env:=PH.ext 130 true true (AG 2 AAf AAe AAd AH6)
theorem Vv:Ac Tryz.prog AB1:=Env.Ad N1 AM9 (fun _=>AP rfl rfl) (fun _=>AL rfl rfl)
abbrev Aet:Hints:={  }
theorem AdJ:∀ v,AM8 v=AR Tryz.prog AB1 Aet Tryz.f92 Aaz Aay Aax v:=by
 rintro⟨a0,a1,⟨⟩⟩
 kernel_rfl
theorem Aes:AD (AW Tryz.f92) 0=[]:=by kernel_rfl
theorem Aaw:AU Tryz.prog 92 (AG 2 Aaz Aay Aax fof):=AK Vv Tryz.func92 (by kernel_rfl) (by kernel_rfl) rfl (fun v=>(ARc v).trans (AdJ v)) (AA Aes trivial)
def AUE:Env:=AB1.ext 92 true true (AG 2 Aaz Aay Aax fof)
theorem AB0:Ac Tryz.prog AUE:=Env.Ad Vv Aaw (fun _=>AP rfl rfl) (fun _=>AL rfl rfl)
abbrev AZt:Hints:={ loop:=fun n=>match n with|0=>Ab 0 18 AZr AZp OR|_=>fun _ _ _=>none }
theorem AVb:∀ v,OR v=roundOf Tryz.prog AUE AZt 1 0 18 (AB Tryz.f114 0) AZr AZp v:=by
 rintro⟨a0,a1,a2,a3,⟨⟩⟩
 kernel_rfl
theorem AeG:AD (AB Tryz.f114 0) 1=[]:=by kernel_rfl
theorem AeH:Aa Tryz.prog 0 (.loop (AB Tryz.f114 0)) (AZt.loop 0):=AX AB0 (AVb) (AA AeG trivial)
theorem AcW:∀ v,ATI v=AR Tryz.prog AUE AZt Tryz.f114 AZs AZq AZo v:=by
 rintro⟨a0,⟨⟩⟩
 kernel_rfl
theorem Aep:AD (AW Tryz.f114) 0=[(0,AB Tryz.f114 0)]:=by kernel_rfl
theorem AZn:AU Tryz.prog 114 (AG 1 AZs AZq AZo orI):=AK AB0 Tryz.func114 (by kernel_rfl) (by kernel_rfl) rfl (fun v=>(AZu v).trans (AcW v)) (AA Aep ⟨AeH,trivial⟩)
def Abf:Env:=AUE.ext 114 true true (AG 1 AZs AZq AZo orI)
theorem AN3:Ac Tryz.prog Abf:=Env.Ad AB0 AZn (fun _=>AP rfl rfl) (fun _=>AL rfl rfl)
abbrev AaB:Hints:={  }
theorem AQm:∀ v,Lx v=AR Tryz.prog Abf AaB Tryz.f97 Zu Zt Zs v:=by
 rintro⟨a0,⟨⟩⟩
 kernel_rfl
theorem AaA:AD (AW Tryz.f97) 0=[]:=by kernel_rfl
theorem AMD:AU Tryz.prog 97 (AG 1 Zu Zt Zs Sq):=AK AN3 Tryz.func97 (by kernel_rfl) (by kernel_rfl) rfl (fun v=>(Sp v).trans (AQm v)) (AA AaA trivial)
def ABt:Env:=Abf.ext 97 true true (AG 1 Zu Zt Zs Sq)
theorem Vr:Ac Tryz.prog ABt:=Env.Ad AN3 AMD (fun _=>AP rfl rfl) (fun _=>AL rfl rfl)
end
end Go.Pev
end
section
namespace Go.Pev
open Go.Proofs
noncomputable section
abbrev AeP:Hints:={  }
theorem AZ9:∀ v,AQl v=AR Tryz.prog ABt AeP Tryz.f53 AQk AQj AQi v:=by
 rintro⟨a0,⟨⟩⟩
 kernel_rfl
theorem AeO:AD (AW Tryz.f53) 0=[]:=by kernel_rfl
theorem AV1:AU Tryz.prog 53 (AG 1 AQk AQj AQi ACh):=AK Vr Tryz.func53 (by kernel_rfl) (by kernel_rfl) rfl (fun v=>(Acf v).trans (AZ9 v)) (AA AeO trivial)
def ASg:Env:=ABt.ext 53 true true (AG 1 AQk AQj AQi ACh)
theorem AEr:Ac Tryz.prog ASg:=Env.Ad Vr AV1 (fun _=>AP rfl rfl) (fun _=>AL rfl rfl)
abbrev AQ0:Hints:={ fp:=fun n=>match n with|1=>[[0],[0],[2],[2],[],[0],[0],[2],[2],[],[],[20],[]]|_=>[] }
theorem AHR:∀ v,Hr v=AR Tryz.prog ASg AQ0 Tryz.f98 OZ OY OX v:=by
 rintro⟨a0,a1,⟨⟩⟩
 kernel_rfl
theorem AQz:AD (AW Tryz.f98) 0=[]:=by kernel_rfl
theorem ACk:AU Tryz.prog 98 (AG 2 OZ OY OX DN):=AK AEr Tryz.func98 (by kernel_rfl) (by kernel_rfl) rfl (fun v=>(Ly v).trans (AHR v)) (AA AQz trivial)
def Km:Env:=ASg.ext 98 true true (AG 2 OZ OY OX DN)
theorem JF:Ac Tryz.prog Km:=Env.Ad AEr ACk (fun _=>AP rfl rfl) (fun _=>AL rfl rfl)
abbrev Zq:Hints:={ loop:=fun n=>match n with|0=>Ab 0 33 AD1 AD0 Ca|_=>fun _ _ _=>none }
theorem AG9:∀ v,Ca v=roundOf Tryz.prog Km Zq 1 0 33 (AB Tryz.f93 0) AD1 AD0 v:=by
 rintro⟨a0,a1,a2,a3,a4,⟨⟩⟩
 kernel_rfl
theorem AVz:AD (AB Tryz.f93 0) 1=[]:=by kernel_rfl
theorem AV0:Aa Tryz.prog 0 (.loop (AB Tryz.f93 0)) (Zq.loop 0):=AX JF (AG9) (AA AVz trivial)
theorem AQh:∀ v,Lv v=AR Tryz.prog Km Zq Tryz.f93 Zp Zo Zn v:=by
 rintro⟨a0,a1,⟨⟩⟩
 kernel_rfl
theorem AZ8:AD (AW Tryz.f93) 0=[(0,AB Tryz.f93 0)]:=by kernel_rfl
theorem AMB:AU Tryz.prog 93 (AG 2 Zp Zo Zn OV):=AK JF Tryz.func93 (by kernel_rfl) (by kernel_rfl) rfl (fun v=>(So v).trans (AQh v)) (AA AZ8 ⟨AV0,trivial⟩)
def RH:Env:=Km.ext 93 true true (AG 2 Zp Zo Zn OV)
theorem Ma:Ac Tryz.prog RH:=Env.Ad JF AMB (fun _=>AP rfl rfl) (fun _=>AL rfl rfl)
abbrev Zy:Hints:={ loop:=fun n=>match n with|0=>Ab 0 96 AD3 AD2 Db|_=>fun _ _ _=>none,fp:=fun n=>match n with|7=>[[2],[2],[],[],[2],[2],[2],[2],[],[],[],[2],[2],[0],[0],[],[],[],[2],[2],[],[],[],[2],[2],[],[],[],[],[],[],[],[0],[0],[],[],[],[],[2],[],[],[],[]]|_=>[] }
theorem AHA:∀ v,Db v=roundOf Tryz.prog RH Zy 1 0 96 (AB Tryz.f49 0) AD3 AD2 v:=by
 rintro⟨a0,a1,a2,a3,a4,a5,⟨⟩⟩
 kernel_rfl
theorem AV2:AD (AB Tryz.f49 0) 1=[]:=by kernel_rfl
theorem AV3:Aa Tryz.prog 0 (.loop (AB Tryz.f49 0)) (Zy.loop 0):=AX Ma (AHA) (AA AV2 trivial)
theorem AQn:∀ v,Ho v=AR Tryz.prog RH Zy Tryz.f49 Zx Zw Zv v:=by
 rintro⟨a0,⟨⟩⟩
 kernel_rfl
theorem AaC:AD (AW Tryz.f49) 0=[(0,AB Tryz.f49 0)]:=by kernel_rfl
theorem AME:AU Tryz.prog 49 (AG 1 Zx Zw Zv FV):=AK Ma Tryz.func49 (by kernel_rfl) (by kernel_rfl) rfl (fun v=>(JS v).trans (AQn v)) (AA AaC ⟨AV3,trivial⟩)
def RI:Env:=RH.ext 49 true true (AG 1 Zx Zw Zv FV)
theorem Mb:Ac Tryz.prog RI:=Env.Ad Ma AME (fun _=>AP rfl rfl) (fun _=>AL rfl rfl)
abbrev Z8:Hints:={ loop:=fun n=>match n with|0=>Ab 0 26 AD7 AD6 FX|_=>fun _ _ _=>none }
theorem AHP:∀ v,FX v=roundOf Tryz.prog RI Z8 1 0 26 (AB Tryz.f52 0) AD7 AD6 v:=by
 rintro⟨a0,a1,a2,a3,⟨⟩⟩
 kernel_rfl
theorem AWH:AD (AB Tryz.f52 0) 1=[]:=by kernel_rfl
theorem AWI:Aa Tryz.prog 0 (.loop (AB Tryz.f52 0)) (Z8.loop 0):=AX Mb (AHP) (AA AWH trivial)
theorem AQx:∀ v,QB v=AR Tryz.prog RI Z8 Tryz.f52 Z7 Z6 Z5 v:=by
 rintro⟨a0,⟨⟩⟩
 kernel_rfl
theorem AaI:AD (AW Tryz.f52) 0=[(0,AB Tryz.f52 0)]:=by kernel_rfl
theorem AMP:AU Tryz.prog 52 (AG 1 Z7 Z6 Z5 Z9):=AK Mb Tryz.func52 (by kernel_rfl) (by kernel_rfl) rfl (fun v=>(AD8 v).trans (AQx v)) (AA AaI ⟨AWI,trivial⟩)
def Jp:Env:=RI.ext 52 true true (AG 1 Z7 Z6 Z5 Z9)
theorem Gf:Ac Tryz.prog Jp:=Env.Ad Mb AMP (fun _=>AP rfl rfl) (fun _=>AL rfl rfl)
abbrev DS:Hints:={ loop:=fun n=>match n with|0=>Ab 0 83 Qs Qp Cu|1=>Ab 0 83 Qr Qo Di|2=>Ab 0 83 Qq Qn Ct|_=>fun _ _ _=>none,fp:=fun n=>match n with|14=>[[],[],[0],[0],[],[],[0],[0],[],[]]|13=>[[],[],[],[],[],[],[],[],[],[],[],[],[],[],[],[],[],[],[],[0],[0],[],[],[0],[0],[],[]]|12=>[[],[],[],[],[],[],[],[],[],[],[],[]]|_=>[] }
theorem WZ:∀ v,Ct v=roundOf Tryz.prog Jp DS 3 0 83 (AB Tryz.f68 2) Qq Qn v:=by
 rintro⟨a0,a1,a2,a3,a4,⟨⟩⟩
 kernel_rfl
theorem AIT:AD (AB Tryz.f68 2) 3=[]:=by kernel_rfl
theorem AIW:Aa Tryz.prog 0 (.loop (AB Tryz.f68 2)) (DS.loop 2):=AX Gf (WZ) (AA AIT trivial)
theorem Wa:∀ v,Di v=roundOf Tryz.prog Jp DS 2 0 83 (AB Tryz.f68 1) Qr Qo v:=by
 rintro⟨a0,a1,a2,a3,⟨⟩⟩
 kernel_rfl
theorem AIU:AD (AB Tryz.f68 1) 2=[(2,AB Tryz.f68 2)]:=by kernel_rfl
theorem AIX:Aa Tryz.prog 0 (.loop (AB Tryz.f68 1)) (DS.loop 1):=AX Gf (Wa) (AA AIU ⟨AIW,trivial⟩)
theorem Wb:∀ v,Cu v=roundOf Tryz.prog Jp DS 1 0 83 (AB Tryz.f68 0) Qs Qp v:=by
 rintro⟨a0,a1,a2,a3,⟨⟩⟩
 kernel_rfl
theorem AIV:AD (AB Tryz.f68 0) 1=[]:=by kernel_rfl
theorem AIY:Aa Tryz.prog 0 (.loop (AB Tryz.f68 0)) (DS.loop 0):=AX Gf (Wb) (AA AIV trivial)
theorem AC2:∀ v,Iu v=AR Tryz.prog Jp DS Tryz.f68 MP MO MN v:=by
 rintro⟨a0,a1,⟨⟩⟩
 kernel_rfl
theorem ANb:AD (AW Tryz.f68) 0=[(0,AB Tryz.f68 0),(1,AB Tryz.f68 1)]:=by kernel_rfl
theorem ABC:AU Tryz.prog 68 (AG 2 MP MO MN Ft):=AK Gf Tryz.func68 (by kernel_rfl) (by kernel_rfl) rfl (fun v=>(Qt v).trans (AC2 v)) (AA ANb ⟨AIY,AIX,trivial⟩)
def I4:Env:=Jp.ext 68 true true (AG 2 MP MO MN Ft)
theorem IV:Ac Tryz.prog I4:=Env.Ad Gf ABC (fun _=>AP rfl rfl) (fun _=>AL rfl rfl)
abbrev AFH:Hints:={ loop:=fun n=>match n with|0=>Ab 0 20 AJg AJf Xr|_=>fun _ _ _=>none }
theorem AJe:∀ v,Xr v=roundOf Tryz.prog I4 AFH 1 0 20 (AB Tryz.f38 0) AJg AJf v:=by
 rintro⟨a0,a1,⟨⟩⟩
 kernel_rfl
theorem AXy:AD (AB Tryz.f38 0) 1=[]:=by kernel_rfl
theorem AXz:Aa Tryz.prog 0 (.loop (AB Tryz.f38 0)) (AFH.loop 0):=AX IV (AJe) (AA AXy trivial)
theorem AUW:∀ v,AFI v=AR Tryz.prog I4 AFH Tryz.f38 AFG AFF AFE v:=by
 rintro⟨a0,⟨⟩⟩
 kernel_rfl
theorem Abo:AD (AW Tryz.f38) 0=[(0,AB Tryz.f38 0)]:=by kernel_rfl
theorem AOL:AU Tryz.prog 38 (AG 1 AFG AFF AFE LL):=AK IV Tryz.func38 (by kernel_rfl) (by kernel_rfl) rfl (fun v=>(AX0 v).trans (AUW v)) (AA Abo ⟨AXz,trivial⟩)
def Q1:Env:=I4.ext 38 true true (AG 1 AFG AFF AFE LL)
theorem Kf:Ac Tryz.prog Q1:=Env.Ad IV AOL (fun _=>AP rfl rfl) (fun _=>AL rfl rfl)
abbrev JL:Hints:={ loop:=fun n=>match n with|0=>Ab 0 138 YR YP Cm|1=>Ab 0 138 YQ YO DI|_=>fun _ _ _=>none,fp:=fun n=>match n with|10=>[[],[],[],[0],[0],[],[],[],[],[],[4],[4],[],[],[0],[0],[],[],[],[],[],[4],[4],[],[],[0],[0],[],[],[],[],[],[4],[4],[],[],[],[]]|8=>[[4],[4],[],[],[4],[4],[4],[4],[],[],[],[4],[4],[0],[0],[],[],[],[4],[4],[],[],[],[4],[4],[0],[0],[],[],[]]|_=>[] }
theorem ACC:∀ v,DI v=roundOf Tryz.prog Q1 JL 2 0 138 (AB Tryz.f50 1) YQ YO v:=by
 rintro⟨a0,a1,a2,a3,a4,a5,⟨⟩⟩
 kernel_rfl
theorem AOr:AD (AB Tryz.f50 1) 2=[]:=by kernel_rfl
theorem AOt:Aa Tryz.prog 0 (.loop (AB Tryz.f50 1)) (JL.loop 1):=AX Kf (ACC) (AA AOr trivial)
theorem ACD:∀ v,Cm v=roundOf Tryz.prog Q1 JL 1 0 138 (AB Tryz.f50 0) YR YP v:=by
 rintro⟨a0,a1,a2,a3,⟨⟩⟩
 kernel_rfl
theorem AOs:AD (AB Tryz.f50 0) 1=[]:=by kernel_rfl
theorem AOu:Aa Tryz.prog 0 (.loop (AB Tryz.f50 0)) (JL.loop 0):=AX Kf (ACD) (AA AOs trivial)
theorem AKM:∀ v,EU v=AR Tryz.prog Q1 JL Tryz.f50 Rr Rq Rp v:=by
 rintro⟨a0,⟨⟩⟩
 kernel_rfl
theorem AUt:AD (AW Tryz.f50) 0=[(0,AB Tryz.f50 0),(1,AB Tryz.f50 1)]:=by kernel_rfl
theorem AFp:AU Tryz.prog 50 (AG 1 Rr Rq Rp Cn):=AK Kf Tryz.func50 (by kernel_rfl) (by kernel_rfl) rfl (fun v=>(FL v).trans (AKM v)) (AA AUt ⟨AOu,AOt,trivial⟩)
def NY:Env:=Q1.ext 50 true true (AG 1 Rr Rq Rp Cn)
theorem Kk:Ac Tryz.prog NY:=Env.Ad Kf AFp (fun _=>AP rfl rfl) (fun _=>AL rfl rfl)
abbrev TK:Hints:={ loop:=fun n=>match n with|0=>Ab 0 32 AAq AAp EG|_=>fun _ _ _=>none,fp:=fun n=>match n with|7=>[[],[0],[0],[],[],[],[],[0],[0],[],[],[],[],[],[],[3,4],[]]|_=>[] }
theorem ACq:∀ v,EG v=roundOf Tryz.prog NY TK 1 0 32 (AB Tryz.f36 0) AAq AAp v:=by
 rintro⟨a0,a1,a2,a3,⟨⟩⟩
 kernel_rfl
theorem ARp:AD (AB Tryz.f36 0) 1=[]:=by kernel_rfl
theorem ARq:Aa Tryz.prog 0 (.loop (AB Tryz.f36 0)) (TK.loop 0):=AX Kk (ACq) (AA ARp trivial)
theorem ANM:∀ v,NK v=AR Tryz.prog NY TK Tryz.f36 TJ TH TG v:=by
 rintro⟨a0,⟨⟩⟩
 kernel_rfl
theorem AXC:AD (AW Tryz.f36) 0=[(0,AB Tryz.f36 0)]:=by kernel_rfl
theorem AID:AU Tryz.prog 36 (AG 1 TJ TH TG Qe):=AK Kk Tryz.func36 (by kernel_rfl) (by kernel_rfl) rfl (fun v=>(AAr v).trans (ANM v)) (AA AXC ⟨ARq,trivial⟩)
def Nb:Env:=NY.ext 36 true true (AG 1 TJ TH TG Qe)
theorem Ks:Ac Tryz.prog Nb:=Env.Ad Kk AID (fun _=>AP rfl rfl) (fun _=>AL rfl rfl)
abbrev YC:Hints:={ loop:=fun n=>match n with|0=>Ab 0 26 ADc ADb FK|_=>fun _ _ _=>none,fp:=fun n=>match n with|6=>[[],[],[],[],[],[],[],[],[]]|_=>[] }
theorem AFo:∀ v,FK v=roundOf Tryz.prog Nb YC 1 0 26 (AB Tryz.f19 0) ADc ADb v:=by
 rintro⟨a0,a1,a2,⟨⟩⟩
 kernel_rfl
theorem AUo:AD (AB Tryz.f19 0) 1=[]:=by kernel_rfl
theorem AUp:Aa Tryz.prog 0 (.loop (AB Tryz.f19 0)) (YC.loop 0):=AX Ks (AFo) (AA AUo trivial)
theorem AOk:∀ v,PV v=AR Tryz.prog Nb YC Tryz.f19 YB YA X9 v:=by
 rintro⟨a0,a1,⟨⟩⟩
 kernel_rfl
theorem AYY:AD (AW Tryz.f19) 0=[(0,AB Tryz.f19 0)]:=by kernel_rfl
theorem AKB:AU Tryz.prog 19 (AG 2 YB YA X9 Ro):=AK Ks Tryz.func19 (by kernel_rfl) (by kernel_rfl) rfl (fun v=>(ADd v).trans (AOk v)) (AA AYY ⟨AUp,trivial⟩)
def ABh:Env:=Nb.ext 19 true true (AG 2 YB YA X9 Ro)
theorem Vm:Ac Tryz.prog ABh:=Env.Ad Ks AKB (fun _=>AP rfl rfl) (fun _=>AL rfl rfl)
abbrev Aek:Hints:={  }
theorem Abq:∀ v,ASo v=AR Tryz.prog ABh Aek Tryz.f126 AX4 AX3 AX2 v:=by
 rintro⟨a0,a1,⟨⟩⟩
 kernel_rfl
theorem Aej:AD (AW Tryz.f126) 0=[]:=by kernel_rfl
theorem AX1:AU Tryz.prog 126 (AG 2 AX4 AX3 AX2 tof):=AK Vm Tryz.func126 (by kernel_rfl) (by kernel_rfl) rfl (fun v=>(AX5 v).trans (Abq v)) (AA Aej trivial)
def AUB:Env:=ABh.ext 126 true true (AG 2 AX4 AX3 AX2 tof)
theorem ABe:Ac Tryz.prog AUB:=Env.Ad Vm AX1 (fun _=>AP rfl rfl) (fun _=>AL rfl rfl)
abbrev AAj:Hints:={ loop:=fun n=>match n with|0=>Ab 0 41 AES AER Fl|_=>fun _ _ _=>none }
theorem AH7:∀ v,Fl v=roundOf Tryz.prog AUB AAj 1 0 41 (AB Tryz.f35 0) AES AER v:=by
 rintro⟨a0,a1,a2,a3,a4,⟨⟩⟩
 kernel_rfl
theorem AW7:AD (AB Tryz.f35 0) 1=[]:=by kernel_rfl
theorem AW8:Aa Tryz.prog 0 (.loop (AB Tryz.f35 0)) (AAj.loop 0):=AX ABe (AH7) (AA AW7 trivial)
theorem ARi:∀ v,QZ v=AR Tryz.prog AUB AAj Tryz.f35 AAi AAh AAg v:=by
 rintro⟨a0,a1,a2,⟨⟩⟩
 kernel_rfl
theorem Aa4:AD (AW Tryz.f35) 0=[(0,AB Tryz.f35 0)]:=by kernel_rfl
theorem ANC:AU Tryz.prog 35 (AG 3 AAi AAh AAg AAk):=AK ABe Tryz.func35 (by kernel_rfl) (by kernel_rfl) rfl (fun v=>(AET v).trans (ARi v)) (AA Aa4 ⟨AW8,trivial⟩)
def RQ:Env:=AUB.ext 35 true true (AG 3 AAi AAh AAg AAk)
theorem Me:Ac Tryz.prog RQ:=Env.Ad ABe ANC (fun _=>AP rfl rfl) (fun _=>AL rfl rfl)
end
end Go.Pev
end
