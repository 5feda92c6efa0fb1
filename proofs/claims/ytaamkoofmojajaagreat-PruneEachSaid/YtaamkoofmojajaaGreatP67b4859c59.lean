/- A part of the proofs of this seat: KF KG KH U24a U24b U24c U24d U23a U23b U23c U23d U23e T24b U24f U24g U24h U24i U24j U24k U24l U24m U24n PlnD U21a U21b SIa SIb SIc SId SIe SIf U23f U23g PlnE U23h U23i U21c U21d U21e U23j U23k G24jP1 G24jP2 G24jP3 G24jP4. -/
import Derived.Test.YtaamkoofmojajaaGreatP8521a661fc
import Derived.KernelRfl
import Derived.Test.YtaamkoofmojajaaGreatProg
set_option linter.unusedVariables false
set_option linter.unusedSimpArgs false
set_option linter.unusedSectionVars false
set_option maxRecDepth 100000
section
section
namespace Go.Pev.Pl
theorem ATE{N:Nat}{ts:List Tie}(hN:N≤64){i:Nat}(h:LM N ts i):In (N:Int) (ed (ts.getD i zT)).1∧In (N:Int) (ed (ts.getD i zT)).2.1:=by
 obtain⟨q1,q2,q3,_⟩:=h
 exact⟨⟨by omega,by omega,q1,by show(ts.getD i zT).1<_;omega⟩,⟨by omega,by omega,by show 0≤(ts.getD i zT).2.1;omega,q3⟩⟩
theorem AN2{N:Nat}{ts:List Tie}(hN:N≤64)(h:oks N ts):∀ e∈trs ts ts.length,In (N:Int) e.1∧In (N:Int) e.2.1:=by
 intro e he
 obtain⟨i,hi,rfl⟩:=AbR ts e _ he
 exact ATE hN (h i (by simp[hi]))
theorem AeE{N:Nat}{ts:List Tie}(hN:N≤64)(h:oks N ts):∀ e∈ts.map ed,In (N:Int) e.1∧In (N:Int) e.2.1:=by
 intro e he
 obtain⟨t,ht,rfl⟩:=Ae6.1 he
 obtain⟨i,hi,rfl⟩:=Afm ht
 have:=ATE hN (h i (by simp[hi]))
 simpa [hi]using this
theorem AQf{N:Nat}(ts:List Tie)(hs:ts.length≤400)(h:oks N ts):Oh (((N:Int),(ts,())),(0:Int),())=some (trs ts ts.length,()):=by
 rw[Sq,MA]
 have e:=Cq (step:=Cl) (fun i (a:List Edge)=>((0:Int),a,ts,AM ts,(i:Int),())) (List.range ts.length) (fun i a=>.inl (if(ts.getD i zT).2.2.2.1=true then a++[ed (ts.getD i zT)]else a)) (fun a=>.inl (a,())) (fun i a=>a.length≤i) (by simp;omega)
  (fun i x a hi hx ha=>by
   refine⟨fun m' h' => ?_,fun r h'=>(by cases h')⟩
   cases h'
   have:=Cc hx
   subst this
   rw[AfG]at hi
   have hlv:=(h x (by simp[hi])).2.2.2.1
   constructor
   ·rw[Cl,AK,AI,Aej hi]
    simp only[CW zT hi,AK]
    have hfit:fits ((a.length:Int)+(([((ts.getD x zT).1,(ts.getD x zT).2.1,())]:List Edge).length:Int))=true:=BE (by simp;omega)
    rw[AG (by omega),Ap,Aej hlv]
    cases ht4:(ts.getD x zT).2.2.2.1
    ·simp
    ·simp only[hfit]
     simp[ed,A5]
   ·split
    ·rw[Aes];simp;omega
    ·omega)
  (fun a _=>by rw[Cl,AfG,AK,AI,Aei (by omega)]) [] (Aew _)
 have e':AR Cl many ((0:Int),[],ts,AM ts,(0:Int),())=_:=e
 simp only[e']
 rw[BL (fun i a=>if(ts.getD i zT).2.2.2.1=true then a++[ed (ts.getD i zT)]else a)]
 rfl
def cnt(out:List Int)(N:Nat):Nat:=((List.range N).filter fun k=>decide (out.getD k 0=(k:Int))).length
theorem AKN{N:Nat}{rings:List (List Int)}{l:List Edge}{out:List Int}(h:FC (N:Int) rings l)(hc:LO (N:Int) l out):rings.length=cnt out N:=by
 have hsz:=h.fr.sz
 have hp:(rings.map hd).Perm (((List.range N).filter fun k=>decide (out.getD k 0=(k:Int))).map fun(k:Nat)=>(k:Int)):=by
  rw[AhO]
  ·intro a
   simp only[Ae6,AfW,Afj,Aem]
   constructor
   ·rintro⟨A,hA,rfl⟩
    have gA:=h.fr.rg A hA
    have ih:In (N:Int) (hd A):=Nk gA
    have hh:=S9 gA.2.1
    have:=AMl h hc hA ih hh
    obtain⟨_,_,a1,a2⟩:=ih
    refine⟨(hd A).toNat,⟨by omega,?_⟩,by omega⟩
    rw[show out.getD (hd A).toNat 0=cl out (hd A)from rfl,← this]
    omega
   ·rintro⟨k,⟨hk,ho⟩,rfl⟩
    have ik:In (N:Int) (k:Int):=⟨hsz.1,hsz.2,by omega,by omega⟩
    obtain⟨A,hA,hm⟩:=h.fr.cov _ ik
    refine⟨A,hA,?_⟩
    rw[AMl h hc hA ik hm]
    unfold cl
    rw[Afe];exact ho
  ·exact(AgD.2 h.fr.up).imp (fun h=>by omega)
  ·refine List.Pairwise.map _ (S:=fun a b=>a≠b) (R:=fun a b=>a≠b) (fun a b h h'=>h (by omega)) ?_
   exact(Ahq).filter _
 have:=hp.length_eq
 rw[AfV,AfV]at this
 exact this
theorem N0(N:Nat)(hN:N≤64)(p:List Tie)(q:List Edge)(out:List Int)(ho:out.length=N):AR DU many ((N:Int),p,q,out,(0:Int),(0:Int),())=some (.inl ((N:Int),p,q,(cnt out N:Int),())):=by
 have e:=Cq (step:=DU) (fun i (a:Nat)=>((N:Int),p,q,out,(a:Int),(i:Int),())) (List.range N) (fun k a=>.inl (if out.getD k 0=(k:Int)then a+1 else a)) (fun a=>.inl ((N:Int),p,q,(a:Int),())) (fun i a=>a≤i) (by simp;omega)
  (fun i x a hi hx ha=>by
   refine⟨fun m' h' => ?_,fun r h'=>(by cases h')⟩
   cases h'
   have:=Cc hx
   subst this
   rw[AfG]at hi
   constructor
   ·rw[DU,AI,Aej hi]
    simp only[CW 0 (show x<out.length by omega),Ea,Ak]
    rw[AG (by omega),AG (by omega)]
    by_cases h:out.getD x 0=(x:Int)
    ·rw[Aej h,Aez h]
    ·rw[Aei h,Aev h]
   ·split<;>omega)
  (fun a _=>by rw[DU,AfG,AI,Aei (by omega)]) 0 (Aew _)
 have e':AR DU many ((N:Int),p,q,out,(0:Int),(0:Int),())=_:=e
 rw[e',BL (fun k a=>if out.getD k 0=(k:Int)then a+1 else a)]
 have key:∀ (xs:List Nat) (a:Nat),xs.foldl (fun a k=>if out.getD k 0=(k:Int)then a+1 else a) a=a+(xs.filter fun k=>decide (out.getD k 0=(k:Int))).length:=by
  intro xs
  induction xs with
  |nil=>intro a;rfl
  |cons x xs ih=>
   intro a
   rw[Afg,ih,Af5]
   by_cases h:out.getD x 0=(x:Int)
   ·simp only[h,AfE,Aex,Aet];omega
   ·simp only[h,Ae0,Ae1,Aey]
 rw[key,Afu]
 rfl
theorem ABX(n:Int)(ts:List Tie)(hl:ts.length<4611686018427387904):∃ b:Bool,Ci ((n,(ts,())),())=some (b,())∧Fq ((n,(ts,())),())=some (b,())∧(b=true→∃ N:Nat,n=(N:Int)∧1≤N∧N≤64∧ts.length≤400∧oks N ts):=by
 by_cases hn:¬ (1≤n∧n≤64)
 ·refine⟨false,?_,?_,fun h=>by cases h⟩
  ·rw[Ff,Em,Am,Am]
   by_cases h:n<1
   ·simp only[Aej h]
   ·simp only[Aei h,Aej (show 64<n by omega)]
  ·rw[JZ,Hv]
   simp only[Sr,MD,Ap]
   by_cases h:1≤n
   ·simp only[Aej h,Aei (show ¬ n≤64 by omega),AfC]
   ·simp only[Aei h,AfC]
 have hn:=Agz.1 hn
 obtain⟨N,rfl⟩:=Aeu (show 0≤n by omega)
 have hsz:Ss ((N:Int),())=some (true,()):=by
  simp only[Sr,MD,Ap,Aej hn.1,Aej hn.2]
 by_cases h4:¬ ts.length≤400
 ·refine⟨false,?_,?_,fun h=>by cases h⟩
  ·rw[Ff,Em]
   simp only[Am,AK]
   rw[Aei (show ¬ (N:Int)<1 by omega),Aei (show ¬ 64<(N:Int) by omega),Aej (show 400<(ts.length:Int) by omega)]
  ·rw[JZ,Hv]
   simp only[hsz,Aer,Am,AK]
   rw[Aej (show 400<(ts.length:Int) by omega)]
 have h4:=Agz.1 h4
 have R:=Pk N (by omega) ts h4
 have L:=AMD N (by omega) ts h4
 by_cases ho:¬ oks N ts
 ·rw[Aev ho]at R L
  refine⟨false,?_,?_,fun h=>by cases h⟩
  ·rw[Ff,Em]
   simp only[Am,AK]
   rw[Aei (show ¬ (N:Int)<1 by omega),Aei (show ¬ 64<(N:Int) by omega),Aei (show ¬ 400<(ts.length:Int) by omega)]
   simp only[R]
  ·rw[JZ,Hv]
   simp only[hsz,Aer,Am,AK,Z3 N (by omega)]
   rw[Aei (show ¬ 400<(ts.length:Int) by omega)]
   rw[AK]at L
   simp only[L]
 have ho:=Agz.1 ho
 rw[Aez ho]at R L
 have hin:=AN2 (show N≤64 by omega) ho
 have hlen:=AFB ts ts.length
 obtain⟨out,hc,hcl⟩:=DF (N:Int) (trs ts ts.length) hn (by omega) hin
 rcases(ATg (N:Int) (trs ts ts.length) hn (by omega)).symm with⟨hno,_⟩|⟨_,rings,hf,hfc⟩
 ·exact absurd hin hno
 have hcount:=AKN hfc hcl
 have hol:out.length=N:=by have:=hcl.len;omega
 refine⟨decide ((cnt out N:Int)=(N:Int)-(trs ts ts.length).length),?_,?_,fun _=>⟨N,rfl,by omega,by omega,h4,ho⟩⟩
 ·rw[Ff,Em]
  simp only[Am,AK]
  rw[Aei (show ¬ (N:Int)<1 by omega),Aei (show ¬ 64<(N:Int) by omega),Aei (show ¬ 400<(ts.length:Int) by omega)]
  simp only[R,hc,N0 N (by omega) _ _ out hol,Ak]
  rw[Aj (by omega)]
 ·rw[JZ,Hv]
  simp only[hsz,Aer,Am,AK,Z3 N (by omega)]
  rw[Aei (show ¬ 400<(ts.length:Int) by omega)]
  rw[AK]at L
  simp only[L,AQf ts h4 ho,hf,Bs,Ak,hcount]
  rw[Aj (by omega)]
end Go.Pev.Pl
end
section
namespace Go.Pev.Pl
theorem LO.unique{N:Nat}{l:List Edge}{a b:List Int}(h1:1≤N)(h2:N≤64)(ha:LO (N:Int) l a)(hb:LO (N:Int) l b):a=b:=by
 have la:=ha.len
 have lb:=hb.len
 refine FJ (0:Int) (by omega) fun k hk => ?_
 have ik:In (N:Int) (k:Int):=⟨by omega,by omega,by omega,by omega⟩
 have e1:=ha.least _ _ ik (hb.isin _ ik) (hb.con _ ik)
 have e2:=hb.least _ _ ik (ha.isin _ ik) (ha.con _ ik)
 unfold cl at e1 e2
 rw[Afe]at e1 e2
 omega
theorem AEY(xs:List Tie)(a:List Edge):xs.foldl (fun a x=>a++[ed x]) a=a++xs.map ed:=AWo ed xs a
theorem AQv(n:Int)(ts:List Tie)(hs:ts.length≤400)(h:Fq ((n,(ts,())),())=some (true,())):AAL ((n,(ts,())),())=some (ts.map ed,()):=by
 rw[AEI,QL]
 simp only[h,Aer]
 have e:=Cq (step:=Ft) (fun i (a:List Edge)=>(a,ts,AM ts,(i:Int),())) ts (fun x a=>.inl (a++[ed x])) (fun a=>.inl (a,())) (fun i a=>a.length≤i) (by omega)
  (fun i x a hi hx ha=>by
   refine⟨fun m' h' => ?_,fun r h'=>(by cases h')⟩
   cases h'
   constructor
   ·rw[Ft]
    simp only[AK]
    rw[AI,Aej hi]
    simp only[Ab hx]
    rw[BE (by simp;omega),AG (by omega)]
    rfl
   ·rw[Aes];simp;omega)
  (fun a _=>by rw[Ft,AK,AI,Aei (by omega)]) [] (Aew _)
 have e':AR Ft many ([],ts,AM ts,(0:Int),())=_:=e
 simp only[e']
 rw[BL (fun x a=>a++[ed x]),AEY]
 rfl
theorem VU(n:Int)(ts:List Tie)(hs:ts.length≤400)(h:Ci ((n,(ts,())),())=some (true,())):NY ((n,(ts,())),())=some (ts.map ed,()):=by
 rw[AAw,NX]
 simp only[h,Aer]
 have e:=Cq (step:=EZ) (fun i (a:List Edge)=>(n,ts,a,(i:Int),())) ts (fun x a=>.inl (a++[ed x])) (fun a=>.inl (a,())) (fun i a=>a.length≤i) (by omega)
  (fun i x a hi hx ha=>by
   refine⟨fun m' h' => ?_,fun r h'=>(by cases h')⟩
   cases h'
   constructor
   ·rw[EZ]
    simp only[AK]
    rw[AI,Aej hi]
    simp only[Ab hx]
    rw[BE (by simp;omega),AG (by omega)]
    rfl
   ·rw[Aes];simp;omega)
  (fun a _=>by rw[EZ,AK,AI,Aei (by omega)]) [] (Aew _)
 have e':AR EZ many (n,ts,[],(0:Int),())=_:=e
 simp only[e']
 rw[BL (fun x a=>a++[ed x]),AEY]
 rfl
def InV(N:Nat)(x:Int):Prop:=0≤x∧x<(N:Int)
instance (N:Nat)(x:Int):Decidable (InV N x):=inferInstanceAs (Decidable (_∧_))
theorem Aa3{N:Nat}{out:List Int}(ho:out.length=N){u:Int}(h:InV N u):idx out u=some (cl out u):=by
 obtain⟨U,rfl⟩:=Aeu h.1
 have:=h.2
 rw[CW 0 (by omega)]
 unfold cl;rw[Afe]
end Go.Pev.Pl
end
section
namespace Go.Pev.Pl
end Go.Pev.Pl
end
section
namespace Go.Pev.Pl
theorem AET(l:List Edge)(u v:Int)(hs:l.length<1073741824):AMm (l,(u,(v,())),())=some (decide (((u,(v,())):Edge)∈l),()):=by
 rw[AaT,AHu]
 have e:=Fb (step:=MO) (fun i=>(l,u,v,(i:Int),())) l (fun x=>decide (x=(u,v,()))) (fun _=>.inl (true,())) (.inr (.inl ())) (by omega)
  (fun i x hi hx=>by
   rw[MO,AK,AI,Aej hi]
   simp only[Ab hx,Ak]
   rw[AG (by omega)]
   obtain⟨a,b,⟨⟩⟩:=x
   by_cases h1:a=u
   ·by_cases h2:b=v
    ·simp[h1,h2]
    ·simp[h1,h2]
   ·simp[h1])
  (by rw[MO,AK,AI,Aei (by omega)])
 have e':AR MO many (l,u,v,(0:Int),())=_:=e
 simp only[e']
 have hany:(l.any fun x=>decide (x=(u,v,())))=decide (((u,(v,())):Edge)∈l):=by
  rw[Afp]
  simp
 rw[hany]
 generalize decide (((u,(v,())):Edge)∈l)=b
 cases b<;>rfl
def Wc(l:List Edge)(u v:Int):Prop:=((u,(v,())):Edge)∈l∨((v,(u,())):Edge)∈l
instance (l:List Edge)(u v:Int):Decidable (Wc l u v):=inferInstanceAs (Decidable (_∨_))
def WO(N:Nat)(l:List Edge)(u:Nat):List Edge:=((List.range (N-(u+1))).filter fun i=>decide (Wc l (u:Int) ((u+1+i:Nat):Int))).map fun(i:Nat)=>((u:Int),((u+1+i:Nat):Int),())
def JC(N:Nat)(l:List Edge):List Edge:=(List.range N).flatMap fun u=>WO N l u
theorem KZ{α β:Type}(P:β→Prop)[DecidablePred P](g:β→α):∀ (xs:List β) (a:List α),xs.foldl (fun a x=>if P x then a++[g x]else a) a=a++(xs.filter fun x=>decide (P x)).map g:=by
 intro xs
 induction xs with
 |nil=>intro a;simp
 |cons x xs ih=>
  intro a
  rw[Afg,ih,Af5]
  by_cases h:P x
  ·simp[h]
  ·simp[h]
theorem AKZ(N:Nat)(hN:N≤64)(l:List Edge)(hs:l.length<1073741824)(u:Nat)(hu:u<N)(a:List Edge)(ha:a.length≤64*u):
  AR Fj many ((N:Int),l,a,(u:Int),((u+1:Nat):Int),())=some (.inl ((N:Int),l,a++WO N l u,(u:Int),())):=by
 have e:=Cq (step:=Fj) (fun i (a:List Edge)=>((N:Int),l,a,(u:Int),((u+1+i:Nat):Int),())) (List.range (N-(u+1))) (fun i a=>.inl (if Wc l (u:Int) ((u+1+i:Nat):Int)then a++[((u:Int),((u+1+i:Nat):Int),())]else a)) (fun a=>.inl ((N:Int),l,a,(u:Int),())) (fun i a=>a.length≤64*u+i) (by simp;omega)
  (fun i x a hi hx ha=>by
   refine⟨fun m' h' => ?_,fun r h'=>(by cases h')⟩
   cases h'
   have:=Cc hx
   subst this
   rw[AfG]at hi
   constructor
   ·rw[Fj,AI,Aej (show u+1+x<N by omega)]
    simp only[AET l _ _ hs,AK]
    have hfit:fits ((a.length:Int)+(([((u:Int),((u+1+x:Nat):Int),())]:List Edge).length:Int))=true:=BE (by simp;omega)
    rw[hfit,AG (by omega)]
    by_cases q1:(((u:Int),(((u+1+x:Nat):Int),())):Edge)∈l
    ·rw[Aej q1,Aez (show Wc l (u:Int) ((u+1+x:Nat):Int)from .inl q1)]
     rfl
    ·rw[Aei q1]
     by_cases q2:(((((u+1+x:Nat):Int),((u:Int),()))):Edge)∈l
     ·rw[Aej q2,Aez (show Wc l (u:Int) ((u+1+x:Nat):Int)from .inr q2)]
      rfl
     ·rw[Aei q2,Aev (show ¬ Wc l (u:Int) ((u+1+x:Nat):Int)from fun h=>by rcases h with h|h;exact q1 h;exact q2 h)]
      rfl
   ·split
    ·rw[Aes];simp;omega
    ·omega)
  (fun a _=>by rw[Fj,AfG,AI,Aei (by omega)]) a (by omega)
 have e':AR Fj many ((N:Int),l,a,(u:Int),((u+1:Nat):Int),())=_:=e
 rw[e',BL (fun i a=>if Wc l (u:Int) ((u+1+i:Nat):Int)then a++[((u:Int),((u+1+i:Nat):Int),())]else a),KZ (fun i:Nat=>Wc l (u:Int) ((u+1+i:Nat):Int)) (fun i:Nat=>((u:Int),((u+1+i:Nat):Int),()))]
 rfl
theorem AKL(N:Nat)(hN:N≤64)(l:List Edge)(u:Nat):(WO N l u).length≤64:=by
 unfold WO
 rw[AfV]
 have:=AgY (fun i=>decide (Wc l (u:Int) ((u+1+i:Nat):Int))) (List.range (N-(u+1)))
 rw[AfG]at this
 omega
theorem AKY(N:Nat)(hN:N≤64)(l:List Edge)(hs:l.length<1073741824):AGM ((N:Int),l,())=some (JC N l,()):=by
 rw[APO,R8]
 have e:=Cq (step:=Hl) (fun i (a:List Edge)=>((N:Int),l,a,(i:Int),())) (List.range N) (fun u a=>.inl (a++WO N l u)) (fun a=>.inl (a,())) (fun i a=>a.length≤64*i) (by simp;omega)
  (fun i x a hi hx ha=>by
   refine⟨fun m' h' => ?_,fun r h'=>(by cases h')⟩
   cases h'
   have:=Cc hx
   subst this
   rw[AfG]at hi
   have hrow:=AKL N hN l x
   constructor
   ·rw[Hl,AI,Aej hi,AG (by omega)]
    simp only[AKZ N hN l hs x hi a ha]
    rw[AG (by omega)]
   ·rw[Aes];omega)
  (fun a _=>by rw[Hl,AfG,AI,Aei (by omega)]) [] (Aew _)
 have e':AR Hl many ((N:Int),l,[],(0:Int),())=_:=e
 simp only[e']
 rw[BL (fun u a=>a++WO N l u)]
 have key:∀ (xs:List Nat) (a:List Edge),xs.foldl (fun a u=>a++WO N l u) a=a++xs.flatMap fun u=>WO N l u:=by
  intro xs
  induction xs with
  |nil=>intro a;simp
  |cons x xs ih=>intro a;rw[Afg,ih];simp
 rw[key]
 rfl
end Go.Pev.Pl
end
section
namespace Go.Pev.Pl
theorem Yw(N:Nat)(hN:N≤64)(l:List Edge):(JC N l).length≤4096:=by
 have key:∀ M,((List.range M).flatMap fun u=>WO N l u).length≤64*M:=by
  intro M
  induction M with
  |zero=>simp
  |succ M ih=>
   rw[Af4,Ag7,Aes]
   have:=AKL N hN l M
   simp only[AgB,List.flatMap_nil,Af0]
   omega
 have:=key N
 unfold JC
 omega
def Jt(N:Nat)(ts:List Tie)(l:List Edge):List Edge:=(JC N l).filter fun x => !decide (x∈ts.map ed)
def Yn(l:List Tie)(t:Tie):List Tie:=l.take (l.findIdx fun x => !decide (ahead x t))++t::l.drop (l.findIdx fun x => !decide (ahead x t))
end Go.Pev.Pl
end
section
namespace Go.Pev.Pl
def valid(N:Nat)(t:Tie):Prop:=0≤t.1∧t.1<t.2.1∧t.2.1<(N:Int)∧0≤t.2.2.1∧t.2.2.1≤Hd N
theorem ahead.trans{a b c:Tie}(h:ahead a b)(h':ahead b c):ahead a c:=by
 unfold ahead at *
 omega
theorem KI(N:Nat)(ts:List Tie):oks N ts↔(∀ t∈ts,valid N t)∧ts.Pairwise ahead:=by
 constructor
 ·intro h
  have hv:∀ i,i<ts.length→LM N ts i:=fun i hi=>h i (by simpa using hi)
  refine⟨fun t ht => ?_,?_⟩
  ·obtain⟨i,hi,rfl⟩:=Afm ht
   obtain⟨q1,q2,q3,q4,q5,_⟩:=hv i hi
   simp only[Ael,Aeo hi,AfK]at q1 q2 q3 q4 q5
   exact⟨q1,q2,q3,q4,q5⟩
  ·have key:∀ (d i:Nat),i+d+1<ts.length→ahead (ts.getD i zT) (ts.getD (i+d+1) zT):=by
    intro d
    induction d with
    |zero=>
     intro i hi
     obtain⟨_,_,_,_,_,q⟩:=hv (i+0+1) hi
     rcases q with q|q
     ·omega
     ·simpa using q
    |succ d ih=>
     intro i hi
     have h1:=ih i (by omega)
     obtain⟨_,_,_,_,_,q⟩:=hv (i+(d+1)+1) hi
     rcases q with q|q
     ·omega
     ·rw[show i+(d+1)+1-1=i+d+1 by omega]at q
      exact h1.trans q
   rw[Afk]
   intro i j hi hj hij
   have:=key (j-i-1) i (by omega)
   rw[show i+(j-i-1)+1=j by omega]at this
   simpa only[Ael,Aeo hi,Aeo hj,AfK]using this
 ·rintro⟨h1,h2⟩ i hi
  have hi:i<ts.length:=by simpa using hi
  have e:∀ j (hj:j<ts.length),ts.getD j zT=ts[j]:=fun j hj=>by
   simp only[Ael,Aeo hj,AfK]
  obtain⟨q1,q2,q3,q4,q5⟩:=h1 ts[i] (Afr hi)
  unfold LM
  rw[e i hi]
  refine⟨q1,q2,q3,q4,q5,?_⟩
  by_cases h0:i=0
  ·exact .inl h0
  ·right
   rw[e (i-1) (by omega)]
   exact(Afk.1 h2) (i-1) i (by omega) hi (by omega)
theorem ADu(l:List Tie)(t:Tie):(Yn l t).Perm (t::l):=by
 unfold Yn
 refine List.perm_middle.trans ?_
 rw[Afb]
theorem AUv{l:List Tie}{t:Tie}(h:l.Pairwise ahead)(hn:∀ x∈l,¬ (x.1=t.1∧x.2.1=t.2.1)):(Yn l t).Pairwise ahead:=by
 induction l with
 |nil=>simp[Yn]
 |cons a l ih=>
  rw[AfZ]at h
  have hna:=hn a (by simp)
  have hnl:∀ x∈l,¬ (x.1=t.1∧x.2.1=t.2.1):=fun x hx=>hn x (by simp[hx])
  by_cases ha:ahead a t
  ·have e:Yn (a::l) t=a::Yn l t:=by
    unfold Yn
    rw[AhF]
    simp[ha]
   rw[e,AfZ]
   refine⟨fun x hx => ?_,ih h.2 hnl⟩
   rcases Aeq.1 ((ADu l t).mem_iff.1 hx)with rfl|hx
   ·exact ha
   ·exact h.1 x hx
  ·have e:Yn (a::l) t=t::a::l:=by
    unfold Yn
    rw[AhF]
    simp[ha]
   have hta:ahead t a:=by unfold ahead at *;omega
   rw[e,AfZ,AfZ]
   refine⟨fun x hx => ?_,h.1,h.2⟩
   rcases Aeq.1 hx with rfl|hx
   ·exact hta
   ·exact hta.trans (h.1 x hx)
end Go.Pev.Pl
end
section
namespace Go.Pev.Pl
theorem Of(N:Nat)(l:List Edge)(x:Edge):x∈JC N l↔0≤x.1∧x.1<x.2.1∧x.2.1<(N:Int)∧Wc l x.1 x.2.1:=by
 unfold JC WO
 simp only[Ahp,Ae6,AfW,Afj,Aem]
 constructor
 ·rintro⟨u,hu,i,⟨hi,he⟩,rfl⟩
  exact⟨by show(0:Int)≤(u:Int);omega,by show(u:Int)<((u+1+i:Nat):Int);omega,by show((u+1+i:Nat):Int)<(N:Int);omega,he⟩
 ·obtain⟨a,b,⟨⟩⟩:=x
  rintro⟨h1,h2,h3,h4⟩
  simp only at h1 h2 h3 h4
  obtain⟨u,rfl⟩:=Aeu h1
  obtain⟨v,rfl⟩:=Aeu (show 0≤b by omega)
  refine⟨u,by omega,v-(u+1),⟨by omega,?_⟩,?_⟩
  ·rw[show u+1+(v-(u+1))=v by omega];exact h4
  ·rw[show u+1+(v-(u+1))=v by omega]
def De(p x:Edge):Prop:=p.1<x.1∨(p.1=x.1∧p.2.1<x.2.1)
theorem UE(N:Nat)(l:List Edge):(JC N l).Pairwise De:=by
 unfold JC
 rw[List.pairwise_flatMap]
 refine⟨fun u _ => ?_,?_⟩
 ·unfold WO
  rw[AgD]
  refine Ag1 _ ?_
  refine List.pairwise_lt_range.imp fun h => ?_
  exact .inr ⟨rfl,by show((u+1+_:Nat):Int)<((u+1+_:Nat):Int);omega⟩
 ·refine List.pairwise_lt_range.imp fun h x hx y hy => ?_
  unfold WO at hx hy
  simp only[Ae6]at hx hy
  obtain⟨i,_,rfl⟩:=hx
  obtain⟨j,_,rfl⟩:=hy
  exact .inl (by simp only;omega)
theorem Sd(N:Nat)(ts:List Tie)(l:List Edge)(x:Edge):x∈Jt N ts l↔(0≤x.1∧x.1<x.2.1∧x.2.1<(N:Int)∧Wc l x.1 x.2.1)∧¬ x∈ts.map ed:=by
 unfold Jt
 rw[AfW,Of]
 simp
theorem AR3(N:Nat)(ts:List Tie)(l:List Edge):(Jt N ts l).Pairwise De:=(UE N l).filter _
end Go.Pev.Pl
end
section
namespace Go.Pev.Pl
open Tok
instance (n v:Int):Decidable (In n v):=inferInstanceAs (Decidable (_∧_))
instance (n:Int):Decidable (Sz n):=inferInstanceAs (Decidable (_∧_))
theorem Jd(n v:Int):AMT (n,v,())=some (decide (In n v),()):=by
 rw[Acl,ARH]
 simp only[Ap,Am]
 by_cases h1:1≤n<;>by_cases h2:n≤64<;>by_cases h3:0≤v<;>simp[In,h1,h2,h3]
theorem AEn(n u v:Int):ANh (n,u,v,())=some (D6 n u v,()):=by
 rw[AbC,AIs]
 simp only[Jd,D6,Ak]
 by_cases h1:In n u
 ·by_cases h2:In n v
  ·by_cases h3:u=v
   ·simp[h1,h2,h3]
   ·obtain⟨a1,a2,a3,a4⟩:=h1
    obtain⟨b1,b2,b3,b4⟩:=h2
    have hb:=Fm a1 a2 a3 (by omega)
    have e1:u*n=n*u:=Int.mul_comm _ _
    have e2:n*(u+1)=n*u+n:=by rw[Ahg,Ahh]
    rw[e1,Aj (n:=n*u) (by omega),Aj (n:=n+n*u) (by omega),Aj (n:=n+n*u+v) (by omega),e2]
    have e3:n+n*u+v=n*u+n+v:=by omega
    simp[In,a1,a2,a3,a4,b3,b4,h3,e3]
  ·simp[h1,h2]
 ·simp[h1]
theorem T6(n t:Int)(ht:-9223372036854775808≤t∧t≤9223372036854775807):Ww (n,t,())=some (Nt (B9 n t)):=by
 rw[AOB,Ro]
 simp only[Jd,Am,Ap]
 by_cases hi:In n t
 ·simp only[hi,Aex,B9,AfE,Nt]
 ·simp only[hi,Ae1]
  by_cases h1:n<1
  ·have hs:¬ Sz n:=fun h=>by have:=h.1;omega
   simp only[h1,Aex,B9,hi,Ae0,hs,AgJ,Nt]
  ·simp only[h1,Ae1]
   by_cases h2:64<n
   ·have hs:¬ Sz n:=fun h=>by have:=h.2;omega
    simp only[h2,Aex,B9,hi,Ae0,hs,AgJ,Nt]
   ·have a1:1≤n:=by omega
    have a2:n≤64:=by omega
    have hb:=Fm (u:=n) a1 a2 (by omega) (by omega)
    have e3:n*(n+1)=n*n+n:=by rw[Ahg,Ahh]
    rw[Aj (n:=n*n) (by omega),Aj (n:=n+n*n) (by omega)]
    simp only[h2,Ae1]
    by_cases h3:t<n
    ·have:¬ n≤t:=by omega
     simp only[h3,Aex,B9,hi,Ae0,this,AgJ,and_false,Nt]
    ·simp only[h3,Ae1]
     by_cases h4:n+n*n≤t
     ·have:¬ t<n*(n+1):=by omega
      simp only[h4,Aex,B9,hi,Ae0,this,AgJ,and_false,Nt]
     ·obtain⟨d1,d2,d3⟩:=AIK (t:=t) ⟨a1,a2⟩ (by omega) (by omega)
      have q1:=d1.2.2.1
      have q2:=d1.2.2.2
      rw[Aj (n:=t-n) (by omega)]
      have hq:(t-n).tdiv n=t/n-1:=by
       rw[Agi (by omega)]
       have:=Int.add_mul_ediv_right t (-1) (show n≠0 by omega)
       rw[show t-n=t + -1*n by omega,this];omega
      have hm:(t-n).tmod n=t % n:=by
       rw[Int.tmod_eq_emod_of_nonneg (by omega)]
       have:=Int.add_mul_emod_self_right t (-1) n
       rw[show t-n=t + -1*n by omega,this]
      simp only[h4,Ae1,R6,Pp,AGA,WR]
      rw[Aev (by omega),Aev (by omega),hq,hm,Aj (n:=t/n-1) (by omega)]
      simp only[]
      rw[Ak,B9,Aev hi]
      by_cases h5:t/n-1=t % n
      ·rw[Aev (by intro h;exact h.2.2.2 h5),Aej h5];rfl
      ·rw[Aez ⟨⟨a1,a2⟩,by omega,by omega,h5⟩,Aei h5];rfl
theorem AMF(xs ys:List (List Int))(hs:xs.length<9223372036854775808)(hi:∀ x∈xs,x.length<9223372036854775808):AHO (xs,ys,())=some (decide (xs=ys),()):=by
 rw[AQo,Sv,QY]
 by_cases hl:xs.length=ys.length
 ·rw[Aej hl]
  simp only[Aer]
  rcases YF (step:=Fs) (fun i=>(xs,ys,((i:Nat):Int),())) xs.length (fun i => !decide (xs.getD i []=ys.getD i [])) (fun _=>.inl (false,())) (.inr (.inl ())) hs (fun i hii=>by
   have hm:(xs.getD i []).length<9223372036854775808:=hi _ (by simp[hii])
   rw[Fs,AK,AI,Aej hii]
   simp (disch:=first|omega|exact hm) only[CW ([]:List Int),AG,AQ3]
   by_cases h:xs.getD i []=ys.getD i []
   ·rw[Aej h];simp
   ·rw[Aei h];simp) (by rw[Fs,AK,AI,Aei (by omega)])with⟨k,hk,hP,_,e⟩|⟨h,e⟩
  ·have e':AR Fs many (xs,ys,(0:Int),())=_:=e
   rw[e']
   have:xs≠ys:=VJ ([]:List Int) (j:=k) (by simpa using hP)
   simp[this]
  ·have e':AR Fs many (xs,ys,(0:Int),())=_:=e
   rw[e']
   have:xs=ys:=FJ ([]:List Int) hl fun j hj=>by simpa using h j hj
   simp[this]
 ·rw[Aei hl]
  have:xs≠ys:=fun e=>hl (by rw[e])
  simp[this]
theorem AL8(N:Nat)(hN:N≤64)(c:Int):∀ (k i n:Nat),i+k=N→k<n→AP JY n ((N:Int),c,(N:Int),BJ i,(i:Int),())=some (.inl (c,(N:Int),BJ N,())):=by
 intro k
 induction k with
 |zero=>
  intro i n hi hn
  obtain⟨n,rfl⟩:∃ k,n=k+1:=⟨n-1,by omega⟩
  have:i=N:=by omega
  subst this
  rw[AP,JY,AI,Aei (by omega)]
 |succ k ih=>
  intro i n hi hn
  obtain⟨n,rfl⟩:∃ k,n=k+1:=⟨n-1,by omega⟩
  rw[AP,JY,AI,Aej (by omega)]
  simp only[AK,UB,Aet,Ae4]
  rw[BE (by omega),AG (by omega)]
  simp only[Co,← Pe]
  exact ih (i+1) n (by omega) (by omega)
theorem AQe(n:Int):AHJ (n,())=some (G6 n):=by
 have hm:4294967296<many:=by simp only[many];omega
 rw[AVo,Zy,G6]
 simp only[Am]
 by_cases h1:n<1
 ·have:¬ Sz n:=fun h=>by have:=h.1;omega
  simp[h1,this]
 ·by_cases h2:64<n
  ·have:¬ Sz n:=fun h=>by have:=h.2;omega
   simp[h1,h2,this]
  ·obtain⟨N,rfl⟩:=Aeu (show 0≤n by omega)
   have hS:Sz (N:Int):=⟨by omega,by omega⟩
   have e:=AL8 N (by omega) 0 N 0 many (by omega) (by omega)
   have e':AP JY many ((N:Int),0,(N:Int),[],(0:Int),())=_:=e
   simp[h1,h2,hS,Aa,e']
end Go.Pev.Pl
end
section
namespace Go.Pev.Pl
theorem Ll(xs:List Int)(t:Int)(hs:xs.length<9223372036854775808):M4 (xs,t,())=some (pos xs t,()):=by
 rw[APU,SB]
 have e:=Fb (step:=Ho) (fun i=>(xs,t,(i:Int),())) xs (fun x=>decide (x=t)) (fun i=>.inl ((i:Int),())) (.inr (.inl ())) hs
  (fun i x hi hx=>by
   rw[Ho,AK,AI,Aej hi]
   simp only[Ab hx,Ak]
   by_cases h:x=t
   ·simp[h]
   ·simp only[h,Ae1];rw[AG (by omega)];simp)
  (by rw[Ho,AK,AI,Aei (by omega)])
 have e':AR Ho many (xs,t,(0:Int),())=_:=e
 rw[e',AIt,pos]
 by_cases h:t∈xs<;>simp[h]
instance (xs:List Int):Decidable (Rt xs):=inferInstanceAs (Decidable (_∧_∧_))
theorem Ld(xs:List Int):Pm (xs,())=some (decide (Rt xs),()):=by
 rw[AOu,R5,AK,Am]
 by_cases hl:xs.length≤1000
 ·rw[Aei (by omega)]
  simp only[]
  rcases YF (step:=Fg) (fun i=>(xs,((i:Nat):Int),())) xs.length (fun i=>decide (xs.getD i 0<0)||decide (10000<xs.getD i 0)||decide (xs.getD i 0∈xs.take i)) (fun _=>.inl (false,())) (.inr (.inl ())) (by omega) (fun i hi=>by
   rw[Fg,AK,AI,Aej hi]
   have hpl:M4 (xs.take i,xs.getD i 0,())=some (pos (xs.take i) (xs.getD i 0),()):=Ll _ _ (by simp;omega)
   simp (disch:=omega) only[CW (0:Int),J5,hpl,AG,Am,Ap]
   by_cases h1:xs.getD i 0<0
   ·simp only[h1,Aex];simp
   ·by_cases h2:10000<xs.getD i 0
    ·simp only[h1,h2,Aex,Ae1];simp
    ·by_cases h3:xs.getD i 0∈xs.take i
     ·obtain⟨k,e,_⟩:=AGK h3
      rw[e]
      simp only[h1,h2,h3,Aex,Ae1];simp
     ·rw[Pv h3]
      simp only[h1,h2,h3,Ae1];simp) (by rw[Fg,AK,AI,Aei (by omega)])with⟨k,hk,hP,_,e⟩|⟨h,e⟩
  ·have e':AR Fg many (xs,(0:Int),())=_:=e
   rw[e']
   have:¬ Rt xs:=by
    rintro⟨_,h1,h2⟩
    have hm:xs.getD k 0∈xs:=by
     rw[Ael,Aeo hk,AfK];exact Afr hk
    have:=h1 _ hm
    have h3:=(QF xs).1 h2 k hk
    have c1:¬ xs.getD k 0<0:=by omega
    have c2:¬ 10000<xs.getD k 0:=by omega
    rw[Aei c1,Aei c2,Aei h3]at hP
    cases hP
   simp[this]
  ·have e':AR Fg many (xs,(0:Int),())=_:=e
   rw[e']
   have:Rt xs:=by
    have key:∀ j,j<xs.length→¬ xs.getD j 0<0∧¬ 10000<xs.getD j 0∧xs.getD j 0∉xs.take j:=fun j hj=>by
     have:=h j hj
     rw[Ag0,Ag0,AfY,AfY,AfY]at this
     exact⟨this.1.1,this.1.2,this.2⟩
    refine⟨hl,fun x hx => ?_,(QF xs).2 fun j hj=>(key j hj).2.2⟩
    obtain⟨j,hj,rfl⟩:=Afm hx
    obtain⟨k1,k2,_⟩:=key j hj
    rw[Ael,Aeo hj,AfK]at k1 k2
    omega
   simp[this]
 ·rw[Aej (by omega)]
  have:¬ Rt xs:=fun h=>hl h.1
  simp[this]
theorem O0(xs:List Int)(t:Int)(hs:xs.length<9223372036854775808):AAl (xs,t,())=some (Iv xs t):=by
 rw[AWn,AAk,Iv]
 simp only[Ll xs t hs,Ld]
 by_cases hr:Rt xs
 ·have hl:=hr.1
  simp only[hr,Aex,Aer,AgU]
  by_cases h:t∈xs
  ·have hk:xs.findIdx (fun x=>decide (x=t))<xs.length:=Af9.2 ⟨t,h,by simp⟩
   rw[pos,Aez h,Aez h,A6,rot]
   generalize xs.findIdx (fun x=>decide (x=t))=k at *
   rw[Am,Aei (by omega)]
   simp only[D7 (Agr hk),J5 (Agr hk)]
   rw[BE (by simp only[AK,Ae4,AfI];omega)]
   simp only[]
   rw[BE (by simp only[AK,Co,AfM,Ae3,AfI];omega)]
   simp only[Co,AfM]
  ·rw[Pv h,Aev h,Am]
   simp
 ·simp[hr]
theorem UG(xs:List Int):W8 (xs,())=some (plain xs,()):=by
 rw[APP,R9,plain]
 simp only[Ld]
 by_cases hr:Rt xs
 ·have hl:=hr.1
  simp only[hr,Aex,Aer,AgU]
  cases xs with
  |nil=>simp[AK,D4]
  |cons x xs=>
   rw[AK,Ak,Aei (by simp only[Aet];omega)]
   have i0:idx (x::xs) (0:Int)=some x:=by rw[FA];rfl
   simp only[i0]
   have e:=Cq (step:=Hm) (fun i (a:Int)=>(x::xs,a,(i:Int),())) (x::xs) (fun y a=>.inl (By a y)) (fun a=>.inl (x::xs,a,())) (fun _ _=>True) (by omega)
    (fun i y a hi hy _=>by
     refine⟨fun m' h' => ?_,fun r h'=>by cases h'⟩
     cases h'
     rw[Hm,AK,AI,Aej hi]
     simp only[Ab hy]
     rw[AG (by omega)]
     exact⟨rfl,trivial⟩)
    (fun a _=>by rw[Hm,AK,AI,Aei (by omega)]) x trivial
   have e':AR Hm many (x::xs,x,(0:Int),())=_:=e
   rw[e',BL]
   have hmin:(x::xs).foldl (fun a y=>By a y) x=Gg (x::xs):=by
    rw[Afg,Gg]
    have:By x x=x:=by rw[By];split<;>rfl
    rw[this]
   rw[hmin]
   have hm:=(Et (xs:=x::xs) (by simp)).1
   simp only[O0 (x::xs) _ (by omega),Iv,hr,hm,AhX,AfE]
   simp
 ·simp[hr]
end Go.Pev.Pl
end
section
namespace Go.Pev.Pl
open Tok
noncomputable instance (n:Int) (xs:List Int):Decidable (TI n xs):=Classical.propDecidable _
end Go.Pev.Pl
end
section
namespace Go.Pev.Pl
open Tok
theorem AFb(n t u:Int)(ht:-9223372036854775808≤t∧t≤9223372036854775807):X3 (n,t,u,())=some (J6 n t u,()):=by
 rw[AJp,OM,J6]
 simp only[T6 n t ht,Ak]
 cases B9 n t with
 |none=>rfl
 |some x=>cases x with
  |ver v=>
   by_cases h:v=u<;>simp[Nt,st,h]
  |arc p q=>
   by_cases h:q=u<;>simp[Nt,st,h]
end Go.Pev.Pl
end
section
namespace Go.Pev.Pl
open Tok
theorem AbS(n:Int)(l:List Int)(i:Nat)(hi:i<l.length)(hl:l.length<1073741824)(d5 d6 d7 d8:Bool)(d9 d10:Int)(d11:Bool)(d12 d13 d14 d15 d16:Int)(d17:Bool)(d18 d19 d20 d21 d22 d23 d24 d25 d26:Int)(d27:Bool):
  ∀ (m k cnt:Nat) (acc:List Int),k+m=l.length→acc.length≤k→m<cnt →
  AP JM cnt (n,l,(i:Int),acc,(k:Int),d5,d6,d7,d8,d9,d10,d11,d12,d13,d14,d15,d16,d17,d18,d19,d20,d21,d22,d23,d24,d25,d26,d27,()) =
   some (.inl (n,(i:Int),acc++(List.range' k m).map (fun k=>l.getD ((i+k) % l.length) 0),d5,d6,d7,d8,d9,d10,d11,d12,d13,d14,d15,d16,d17,d18,l,d19,d20,d21,d22,d23,d24,d25,d26,d27,())):=by
 intro m
 induction m with
 |zero=>
  intro k cnt acc hk ha hc
  obtain⟨cnt,rfl⟩:∃ c,cnt=c+1:=⟨cnt-1,by omega⟩
  rw[AP,JM,AK,AI,Aei (by omega)]
  simp
 |succ m ih=>
  intro k cnt acc hk ha hc
  obtain⟨cnt,rfl⟩:∃ c,cnt=c+1:=⟨cnt-1,by omega⟩
  have hm:(i+k) % l.length<l.length:=Nat.mod_lt _ (by omega)
  rw[AP,JM,AK,AI,Aej (by omega)]
  simp only[]
  rw[wrap_add (by omega),W7 (by omega)]
  simp only[CW (0:Int) hm,Ea]
  rw[BE (by simp only[AK,Aet,Ae4];omega),AG (by omega)]
  simp only[Co]
  rw[ih (k+1) cnt _ (by omega) (by simp;omega) (by omega)]
  simp[Aho]
theorem AN6(n:Int)(l:List Int)(i:Nat)(hi:i<l.length)(h1:1<l.length)(hl:l.length<1073741824)(hr:∀ x∈l, -9223372036854775808≤x∧x≤9223372036854775807):
  Di (n,l,false,(i:Int),())=if KQ n l i then some (.inl (n,Fh l i,true,((i+1:Nat):Int),()))else some (.inl (n,l,false,((i+1:Nat):Int),())):=by
 have hmany:4294967296<many:=by simp only[many];omega
 have m1:(i+1) % l.length<l.length:=Nat.mod_lt _ (by omega)
 have m2:(i+2) % l.length<l.length:=Nat.mod_lt _ (by omega)
 have m0:(i+l.length-1) % l.length<l.length:=Nat.mod_lt _ (by omega)
 have hin:∀ {k:Nat},k<l.length→l.getD k 0∈l:=fun {k} hk=>by
  rw[Ael,Aeo hk,AfK];exact Afr hk
 have w2:IntKind.wrap .i64 ((i:Int)+2)=((i+2:Nat):Int):=by rw[Aj (by omega)];omega
 have w3:IntKind.wrap .i64 ((i:Int)+(l.length:Int))=((i+l.length:Nat):Int):=wrap_add (by omega)
 have w4:IntKind.wrap .i64 (((i+l.length:Nat):Int)-1)=((i+l.length-1:Nat):Int):=Ao (by omega)
 have f4:ile (4:Int) (l.length:Int)=decide (4≤l.length):=by
  rw[Ap]
  by_cases h:4≤l.length
  ·rw[Aej h,Aej (by omega)]
  ·rw[Aei h,Aei (by omega)]
 rw[Di,AK,AI,Aej hi]
 simp only[AfC,CW (0:Int) hi]
 rw[AG (by omega),w2,W7 (by omega),W7 (by omega)]
 simp only[CW (0:Int) m1,CW (0:Int) m2,Ea,T6 n _ (hr _ (hin hi)),f4,KQ]
 by_cases h4:4≤l.length
 ·simp only[h4,Aex,Ag9]
  cases ht:B9 n (l.getD i 0)with
  |none=>rfl
  |some t=>
   cases t with
   |ver v=>rfl
   |arc u v=>
    simp only[Nt,Ak,AEn]
    by_cases c1:l.getD ((i+1) % l.length) 0=v
    ·simp only[c1,Aex,Ag9]
     by_cases c2:l.getD ((i+2) % l.length) 0=D6 n v u
     ·simp only[c2,Aex,Ag9,w3,w4]
      rw[W7 (by omega)]
      simp only[CW (0:Int) m0,Ea,AFb n _ u (hr _ (hin m0))]
      cases J6 n (l.getD ((i+l.length-1) % l.length) 0) u
      ·rfl
      ·simp only[AfE,Aa]
       have e:=AbS n l i hi hl false true true true v v true (D6 n v u) n v u (D6 n v u) true n (i:Int) (l.length:Int) ((i+l.length:Nat):Int) ((i+l.length-1:Nat):Int) (l.length:Int) (((i+l.length-1) % l.length:Nat):Int) (l.getD ((i+l.length-1) % l.length) 0) u true (l.length-3) 3 many [] (by omega) (by simp) (by omega)
       have e':AP JM many (n,l,(i:Int),[],(3:Int),_)=_:=e
       simp only[e',AG (show i+1<9223372036854775808 by omega)]
       rfl
     ·simp only[c2,Ae1,AgF,Aey,Ae0]
    ·simp only[c1,Ae1,AgF,Aey,Ae0]
 ·simp only[h4,Ae1,AgF,Aey,Ae0]
theorem AbT(n:Int)(l:List Int)(h1:1<l.length)(hl:l.length<1073741824)(hr:∀ x∈l, -9223372036854775808≤x∧x≤9223372036854775807):
  ∀ (m i cnt:Nat),i+m=l.length→m+1<cnt →
  (∃ k,k<l.length∧KQ n l k=true∧AP Di cnt (n,l,false,(i:Int),())=some (.inl (n,Fh l k,true,()))) ∨
  ((∀ k,i≤k→k<l.length→KQ n l k=false)∧AP Di cnt (n,l,false,(i:Int),())=some (.inl (n,l,false,()))):=by
 intro m
 induction m with
 |zero=>
  intro i cnt hi hc
  obtain⟨cnt,rfl⟩:∃ c,cnt=c+1:=⟨cnt-1,by omega⟩
  right
  refine⟨fun k q1 q2=>by omega,?_⟩
  rw[AP,Di,AK,AI,Aei (by omega)]
 |succ m ih=>
  intro i cnt hi hc
  obtain⟨cnt,rfl⟩:∃ c,cnt=c+1:=⟨cnt-1,by omega⟩
  rw[AP,AN6 n l i (by omega) h1 hl hr]
  cases hlf:KQ n l i
  ·simp only[Aey,Ae0]
   rcases ih (i+1) cnt (by omega) (by omega)with h|⟨h,e⟩
   ·exact .inl h
   ·refine .inr ⟨fun k q1 q2 => ?_,e⟩
    by_cases ek:k=i
    ·rw[ek];exact hlf
    ·exact h k (by omega) q2
  ·simp only[AfE]
   obtain⟨cnt,rfl⟩:∃ c,cnt=c+1:=⟨cnt-1,by omega⟩
   refine .inl ⟨i,by omega,hlf,?_⟩
   rw[AP,Di]
   cases ilt ((i+1:Nat):Int) (AM (Fh l i))<;>rfl
theorem AbU(n:Int):∀ (m:Nat) (l:List Int) (cnt:Nat),l.length=m→l.length<1073741824→(∀ x∈l, -9223372036854775808≤x∧x≤9223372036854775807)→l.Nodup→m<cnt →
  (¬ TI n l∧AP Mw cnt (n,l,())=some (.inl (false,()))) ∨
  ∃ l',AP Mw cnt (n,l,())=some (.inr (.inl (n,l',())))∧l'.length≤1∧(TI n l↔TI n l'):=by
 intro m
 induction m using Nat.strongRecOn with
 |_ m ih=>
 intro l cnt hm hl hr hn hc
 have hmany:4294967296<many:=by simp only[many];omega
 obtain⟨cnt,rfl⟩:∃ c,cnt=c+1:=⟨cnt-1,by omega⟩
 rw[AP,Mw,AK,Am]
 by_cases h1:1<l.length
 ·rw[Aej (by omega)]
  simp only[Aa]
  rcases AbT n l h1 hl hr l.length 0 many (by omega) (by omega)with⟨k,k1,k2,e⟩|⟨k1,e⟩
  ·have e':AP Di many (n,l,false,(0:Int),())=_:=e
   simp only[e',Aer]
   have hred:=AQx k1 k2
   have hiff:=Adh hred hn
   have hlen:(Fh l k).length=l.length-3:=by simp[Fh]
   rcases ih (l.length-3) (by omega) (Fh l k) cnt hlen (by omega) (fun x hx=>hr x (AO6 k1 x hx)) (AUu hred hn) (by omega)with⟨q1,q2⟩|⟨l',q1,q2,q3⟩
   ·exact .inl ⟨fun h=>q1 (hiff.1 h),q2⟩
   ·exact .inr ⟨l',q1,q2,hiff.trans q3⟩
  ·have e':AP Di many (n,l,false,(0:Int),())=_:=e
   simp only[e',AfC]
   refine .inl ⟨fun h => ?_,by trivial⟩
   obtain⟨l',hl'⟩:=AeJ h h1
   obtain⟨i,i1,i2⟩:=APA hl'
   rw[k1 i (by omega) i1]at i2
   cases i2
 ·rw[Aei (by omega)]
  exact .inr ⟨l,rfl,by omega,Iff.rfl⟩
theorem AN7(n:Int)(l:List Int)(hl:l.length<1073741824)(hr:∀ x∈l, -9223372036854775808≤x∧x≤9223372036854775807)(hn:l.Nodup):AN8 (n,l,())=some (decide (TI n l),()):=by
 have hmany:4294967296<many:=by simp only[many];omega
 rw[AUH,Xv,BE (by simp only[AK,Ae4];omega)]
 simp only[Co,AfM,Aa]
 rcases AbU n l.length l many rfl hl hr hn (by omega)with⟨q1,q2⟩|⟨l',q1,q2,q3⟩
 ·rw[q2,Aei q1]
 ·rw[q1]
  simp only[AK,Ak]
  match l',q2,q3 with
  |[],_,q3=>
   have:¬ TI n l:=fun h=>AbK n (q3.1 h)
   simp[this]
  |[t],_,q3=>
   rw[AbJ]at q3
   have i0:idx [t] (0:Int)=some t:=by rw[FA];rfl
   have d0:AL [t] 0 (0:Int)=t:=rfl
   rw[Aej (by simp)]
   simp only[i0,d0,Jd]
   by_cases h:In n t
   ·rw[Aej h,Aej (q3.2 h)]
   ·rw[Aei h,Aei (fun h2=>h (q3.1 h2))]
end Go.Pev.Pl
end
section
namespace Go.Pev.Pl
open Tok
noncomputable instance (n:Int) (rings:List (List Int)):Decidable (RF n rings):=Classical.propDecidable _
noncomputable instance (n:Int) (xs:List Int):Decidable (RG n xs):=Classical.propDecidable _
end Go.Pev.Pl
end
end
section
section
namespace Go.Pev.Pl
open Tok
theorem ACO(N:Nat)(hN:N≤64)(l:List Int)(hl:l.length<1073741824)(h0:∀ t∈l,0≤t)(d1:List (List Int))(d3 d5:Int)(d8:List Int)(d9:Int)(d10:Bool)(d11:Int)(d12:List Int)(d13 d14:Bool)(d15 d16:List Int)(d17:List (List Int))(d18:List Int)(d19:List (List Int))(d20 d21:Bool)(d22:List Int)(d23 d24:Int)(d25:Bool):
  ∀ (m k cnt:Nat) (met:List Bool) (seen:List Int),k+m=l.length→MB N met seen→(l.drop k).Nodup→seen.length+m<4611686018427387904→m<cnt →
  ((∀ t∈l.drop k,t<(N:Int)→t∉seen)∧∃ met',AP EU cnt ((N:Int),d1,met,d3,(seen.length:Int),d5,l,(k:Int),d8,d9,d10,d11,d12,d13,d14,d15,d16,d17,d18,d19,d20,d21,d22,d23,d24,d25,()) =
    some (.inr (.inl ((N:Int),d1,met',d3,((seen++(l.drop k).filter (fun t=>decide (t<(N:Int)))).length:Int),d5,d8,d9,d10,d11,d12,d13,d14,d15,d16,d17,d18,d19,d20,d21,d22,d23,d24,d25,())))∧MB N met' (seen++(l.drop k).filter (fun t=>decide (t<(N:Int))))) ∨
  (¬ (∀ t∈l.drop k,t<(N:Int)→t∉seen)∧AP EU cnt ((N:Int),d1,met,d3,(seen.length:Int),d5,l,(k:Int),d8,d9,d10,d11,d12,d13,d14,d15,d16,d17,d18,d19,d20,d21,d22,d23,d24,d25,())=some (.inl (false,()))):=by
 intro m
 induction m with
 |zero=>
  intro k cnt met seen hk hm hn hsl hc
  obtain⟨cnt,rfl⟩:∃ c,cnt=c+1:=⟨cnt-1,by omega⟩
  have e:l.drop k=[]:=Afz (by omega)
  rw[e]
  refine .inl ⟨by simp,met,?_,by simpa using hm⟩
  rw[AP,EU,AK,AI,Aei (by omega)]
  simp
 |succ m ih=>
  intro k cnt met seen hk hm hn hsl hc
  obtain⟨cnt,rfl⟩:∃ c,cnt=c+1:=⟨cnt-1,by omega⟩
  have hk':k<l.length:=by omega
  have e:l.drop k=l.getD k 0::l.drop (k+1):=by
   rw[AfR hk',Ael,Aeo hk',AfK]
  have hpos:0≤l.getD k 0:=h0 _ (by rw[Ael,Aeo hk',AfK];exact Afr hk')
  rw[AP,EU,AK,AI,Aej hk']
  simp only[CW (0:Int) hk']
  rw[e]at hn ⊢
  generalize l.getD k 0=t at *
  rw[AfJ]at hn
  rw[AG (show k+1<9223372036854775808 by omega),Am]
  by_cases ht:t<(N:Int)
  ·rw[Aej ht]
   obtain⟨q,rfl⟩:=Aeu hpos
   have hq:q<met.length:=by rw[hm.1];omega
   have hmq:=hm.2 q (by omega)
   simp only[CW false hq,Ea,AAy,hmq]
   by_cases hs:(q:Int)∈seen
   ·rw[Aej hs]
    exact .inr ⟨fun h=>h (q:Int) (by simp) ht hs,rfl⟩
   ·rw[Aei hs]
    simp only[]
    have hm':MB N (met.set q true) (seen++[(q:Int)]):=by
     refine⟨by simp[hm.1],fun y hy => ?_⟩
     by_cases e2:y=q
     ·subst e2
      simp[Ael,hq]
     ·have h3:=hm.2 y hy
      have e3:¬ (y:Int)=(q:Int):=by omega
      rw[Ael,Afh (Aff e2),← Ael,h3]
      simp[e3]
    have hlen:(((seen.length:Nat):Int))=((seen.length:Nat):Int):=rfl
    have hw:IntKind.wrap .i64 ((seen.length:Int)+1)=((seen++[(q:Int)]).length:Int):=by
     rw[Aj (by omega)];simp
    rw[hw]
    have hiff:(∀ y∈(q:Int)::l.drop (k+1),y<(N:Int)→y∉seen)↔∀ y∈l.drop (k+1),y<(N:Int)→y∉seen++[(q:Int)]:=by
     constructor
     ·intro h y hy hyn hm2
      simp only[Aen,AfB]at hm2
      rcases hm2 with h2|rfl
      ·exact h y (AfA _ hy) hyn h2
      ·exact hn.1 hy
     ·intro h y hy hyn hm2
      rcases Aeq.1 hy with rfl|hy
      ·exact hs hm2
      ·exact h y hy hyn (by simp[hm2])
    rcases ih (k+1) cnt _ _ (by omega) hm' hn.2 (by simp;omega) (by omega)with⟨q1,met',q2,q3⟩|⟨q1,q2⟩
    ·refine .inl ⟨hiff.2 q1,met',?_,?_⟩
     ·rw[Ahd (by simpa using ht)]
      rw[q2,AfQ]
      rfl
     ·rw[Ahd (by simpa using ht)]
      simpa using q3
    ·exact .inr ⟨fun h=>q1 (hiff.1 h),q2⟩
  ·rw[Aei ht]
   simp only[]
   have hiff:(∀ y∈t::l.drop (k+1),y<(N:Int)→y∉seen)↔∀ y∈l.drop (k+1),y<(N:Int)→y∉seen:=by
    constructor
    ·intro h y hy;exact h y (AfA _ hy)
    ·intro h y hy hyn
     rcases Aeq.1 hy with rfl|hy
     ·exact absurd hyn ht
     ·exact h y hy hyn
   rcases ih (k+1) cnt _ _ (by omega) hm hn.2 (by omega) (by omega)with⟨q1,met',q2,q3⟩|⟨q1,q2⟩
   ·refine .inl ⟨hiff.2 q1,met',?_,?_⟩
    ·rw[Ahe (by simpa using ht)]
     exact q2
    ·rw[Ahe (by simpa using ht)]
     exact q3
   ·exact .inr ⟨fun h=>q1 (hiff.1 h),q2⟩
theorem WQ(N:Nat)(hN1:1≤N)(hN:N≤64)(rings:List (List Int))(hlen:rings.length≤64)(hr:∀ l∈rings,l.length<9223372036854775808∧∀ x∈l, -9223372036854775808≤x∧x≤9223372036854775807):
  ∀ (ls:List (List Int)) (i cnt:Nat) (met:List Bool) (last:Int) (seen:List Int),rings.drop i=ls→i≤rings.length→MB N met seen→seen.length≤i*1073741824→ls.length<cnt →
  (okR (N:Int) seen last ls∧∃ met' seen',AP EV cnt ((N:Int),rings,met,last,(seen.length:Int),(i:Int),())=some (.inr (.inl ((N:Int),rings,(seen'.length:Int),())))∧MB N met' seen'∧seen'=seen++ls.flatten.filter (fun t=>decide (t<(N:Int)))) ∨
  (¬ okR (N:Int) seen last ls∧AP EV cnt ((N:Int),rings,met,last,(seen.length:Int),(i:Int),())=some (.inl (false,()))):=by
 have hmany:4294967296<many:=by simp only[many];omega
 intro ls
 induction ls with
 |nil=>
  intro i cnt met last seen hd hi hm hsl hc
  obtain⟨cnt,rfl⟩:∃ c,cnt=c+1:=⟨cnt-1,by simp at hc;omega⟩
  have:rings.length≤i:=by simpa using hd
  refine .inl ⟨trivial,met,seen,?_,hm,by simp⟩
  rw[AP,EV,AK,AI,Aei (by omega)]
 |cons l ls ih=>
  intro i cnt met last seen hd hi hm hsl hc
  simp only[Aet]at hc
  obtain⟨cnt,rfl⟩:∃ c,cnt=c+1:=⟨cnt-1,by omega⟩
  have hi':i<rings.length:=by
   refine AfS fun h => ?_
   rw[Afz (by omega)]at hd
   cases hd
  rw[AfR hi']at hd
  simp only[AfD]at hd
  obtain⟨hd1,hd2⟩:=hd
  have hx:rings[i]? = some l:=by rw[Aeo hi',hd1]
  have hmem:l∈rings:=Ae2 hx
  obtain⟨hl,hlr⟩:=hr l hmem
  rw[AP,EV,AK,AI,Aej hi',okR]
  simp only[Ab hx,Ld]
  by_cases c2:Rt l
  ·rw[Aej c2]
   have hl:l.length<1073741824:=by have:=c2.1;omega
   simp only[Aer]
   cases l with
   |nil=>
    rw[AK,Ak,Aej (by simp)]
    exact .inr ⟨fun h=>h.1.2.1 rfl,rfl⟩
   |cons x tl=>
    rw[AK,Ak,Aei (by simp only[Aet];omega)]
    simp only[AN7 (N:Int) (x::tl) hl hlr c2.2.2]
    by_cases c4:TI (N:Int) (x::tl)
    ·rw[Aej c4]
     simp only[Aer,UG]
     rw[AMF _ _ (by simp) (by
      intro y hy
      simp only[AfB]at hy
      subst hy
      obtain⟨a,b,q1,q2⟩:=Hk c2 (by simp)
      have:=AgE List.length q1
      rw[q2]
      simp only[Aet,Aes]at this hl ⊢
      omega)]
     have hps:=Yv c2 (by simp)
     have hps2:([plain (x::tl)]=[x::tl])↔Gg (x::tl)=x:=by simpa using hps
     by_cases c3:Gg (x::tl)=x
     ·rw[Aej (hps2.2 c3)]
      have i0:idx (x::tl) (0:Int)=some x:=by rw[FA];rfl
      simp only[Aer,i0,AhU,Ap]
      by_cases c1:x≤last
      ·rw[Aej c1]
       exact .inr ⟨fun h=>by omega,rfl⟩
      ·rw[Aei c1]
       simp only[Aa]
       have hRG:RG (N:Int) (x::tl):=⟨c2,by simp,c3,c4⟩
       rcases ACO N hN (x::tl) hl (fun t ht=>(c2.2.1 t ht).1) rings x (i:Int) (x::tl) ((x::tl).length:Int) false (N:Int) (x::tl) true false (x::tl) (plain (x::tl)) [plain (x::tl)] (x::tl) [x::tl] true false (x::tl) x last false (x::tl).length 0 many met seen (by omega) hm (by rw[Agl];exact c2.2.2) (by omega) (by omega)with⟨q1,met',q2,q3⟩|⟨q1,q2⟩
       ·rw[Agl]at q1 q3 q2
        have q2':AP EU many ((N:Int),rings,met,x,(seen.length:Int),(i:Int),x::tl,(0:Int),x::tl,((x::tl).length:Int),false,(N:Int),x::tl,true,false,x::tl,plain (x::tl),[plain (x::tl)],x::tl,[x::tl],true,false,x::tl,x,last,false,())=_:=q2
        simp only[q2',AG (show i+1<9223372036854775808 by omega)]
        have hfl:((x::tl).filter (fun t=>decide (t<(N:Int)))).length≤(x::tl).length:=AgY _ _
        rcases ih (i+1) cnt met' x (seen++(x::tl).filter (fun t=>decide (t<(N:Int)))) hd2 (by omega) q3 (by rw[Aes];omega) (by omega)with⟨p1,met2,seen2,p2,p3,p4⟩|⟨p1,p2⟩
        ·refine .inl ⟨⟨hRG,by omega,q1,p1⟩,met2,seen2,p2,p3,?_⟩
         rw[p4,AgQ,Af8,AfQ]
        ·exact .inr ⟨fun h=>p1 h.2.2.2,p2⟩
       ·rw[Agl]at q1
        have q2':AP EU many ((N:Int),rings,met,x,(seen.length:Int),(i:Int),x::tl,(0:Int),x::tl,((x::tl).length:Int),false,(N:Int),x::tl,true,false,x::tl,plain (x::tl),[plain (x::tl)],x::tl,[x::tl],true,false,x::tl,x,last,false,())=_:=q2
        simp only[q2']
        exact .inr ⟨fun h=>q1 h.2.2.1,by trivial⟩
     ·rw[Aei (fun h=>c3 (hps2.1 h))]
      exact .inr ⟨fun h=>c3 h.1.2.2.1,rfl⟩
    ·rw[Aei c4]
     exact .inr ⟨fun h=>c4 h.1.2.2.2,rfl⟩
  ·rw[Aei c2]
   exact .inr ⟨fun h=>c2 h.1.1,rfl⟩
theorem GX(n:Int)(rings:List (List Int))(hlen:rings.length<1073741824)(hr:∀ l∈rings,l.length<9223372036854775808∧∀ x∈l, -9223372036854775808≤x∧x≤9223372036854775807):
  W4 ((n,(rings,())),())=some (decide (RF n rings),()):=by
 have hmany:4294967296<many:=by simp only[many];omega
 rw[AOt,R4]
 simp only[Am,AK]
 by_cases h1:n<1
 ·rw[Aej h1,Aei (show ¬ RF n rings from fun h=>by have:=h.1.1;omega)]
 ·rw[Aei h1]
  simp only[]
  by_cases h2:64<n
  ·rw[Aej h2,Aei (show ¬ RF n rings from fun h=>by have:=h.1.2;omega)]
  ·rw[Aei h2]
   simp only[]
   by_cases h3:n<(rings.length:Int)
   ·rw[Aej h3,Aei (show ¬ RF n rings from fun h=>by
     have:=ATC (by omega) h.2.1 (by omega) (by omega)
     omega)]
   ·rw[Aei h3]
    obtain⟨N,rfl⟩:=Aeu (show 0≤n by omega)
    have f1:LH (N:Int)=true:=(Jl _).2 (by omega)
    have f2:ile (N:Int) (N:Int)=true:=by rw[Ap];simp
    simp only[f1,f2,Agv,AhP,Aa]
    have hMB:MB N (Jo (AE (N:Int)) false) []:=by
     refine⟨by simp[Jo,IF],fun k hk => ?_⟩
     simp[Jo,IF,hk]
    rcases WQ N (by omega) (by omega) rings (by omega) hr rings 0 many _ (-1) [] (by simp) (by omega) hMB (by simp) (by omega)with⟨p1,met,seen,p2,p3,p4⟩|⟨p1,p2⟩
    ·have p2':AP EV many ((N:Int),rings,Jo (AE (N:Int)) false, -1,(0:Int),(0:Int),())=_:=p2
     simp only[p2',Ak]
     obtain⟨q1,q2⟩:=AVW p1 (by simp)
     rw[← p4]at q1
     have hsub:∀ x∈seen,x∈(List.range N).map (fun(k:Nat)=>(k:Int)):=by
      intro x hx
      rw[p4]at hx
      simp only[AfM,AfW,Ahn,Aem]at hx
      obtain⟨⟨l,hl,hxl⟩,hxn⟩:=hx
      have:=((q2 l hl).1.2.1 x hxl).1
      rw[Ae6]
      exact⟨x.toNat,by rw[Afj];omega,by omega⟩
     have hv:∀ v,v∈seen↔(v<(N:Int)∧v∈rings.flatten):=fun v=>by rw[p4,AfM,AfW,Aem,and_comm]
     have hS:Sz (N:Int):=⟨by omega,by omega⟩
     by_cases hc:(seen.length:Int)=(N:Int)
     ·rw[Aej hc,Aej]
      refine⟨hS,p1,fun v v1 v2 => ?_⟩
      have:=QE q1 hsub (by simp;omega) v (by rw[Ae6];exact⟨v.toNat,by rw[Afj];omega,by omega⟩)
      exact((hv v).1 this).2
     ·rw[Aei hc,Aei]
      rintro⟨_,_,h⟩
      have a1:=DC q1 hsub
      have hrn:((List.range N).map (fun(k:Nat)=>(k:Int))).Nodup:=by
       rw[List.Nodup,AgD]
       exact List.nodup_range.imp fun h e=>h (by omega)
      have a2:=DC (a:=(List.range N).map (fun(k:Nat)=>(k:Int))) (b:=seen) hrn fun x hx=>by
       rw[Ae6]at hx
       obtain⟨k,hk,rfl⟩:=hx
       rw[Afj]at hk
       exact(hv _).2 ⟨by omega,h (k:Int) (by omega) (by omega)⟩
      simp only[AfV,AfG]at a1 a2
      omega
    ·have p2':AP EV many ((N:Int),rings,Jo (AE (N:Int)) false, -1,(0:Int),(0:Int),())=_:=p2
     simp only[p2']
     rw[Aei (fun h=>p1 h.2.1)]
end Go.Pev.Pl
end
section
namespace Go.Pev.Pl
open Tok
theorem UH(n:Int)(rings:List (List Int))(v:Int)(hlen:rings.length<1073741824)(hr:∀ l∈rings,l.length<9223372036854775808):M3 ((n,(rings,())),v,())=some (plc rings v,()):=by
 rw[APT,SA]
 have e:=Fb (step:=Hn) (fun i=>(v,n,rings,(i:Int),())) rings (fun l=>decide (v∈l)) (fun i=>.inl ((i:Int),())) (.inr (.inl ())) (by omega)
  (fun i l hi hx=>by
   have hl:=hr l (Ae2 hx)
   rw[Hn,AK,AI,Aej hi]
   simp only[Ab hx,Ll l v (by omega)]
   rw[AG (by omega),Ap]
   by_cases h:v∈l
   ·obtain⟨k,e,_⟩:=AGK h
    rw[e,Aej (by omega),Aej h];rfl
   ·rw[Pv h,Aei (by omega),Aei h];rfl)
  (by rw[Hn,AK,AI,Aei (by omega)])
 have e':AR Hn many (v,n,rings,(0:Int),())=_:=e
 simp only[e',plc]
 cases rings.any (fun l=>decide (v∈l))<;>rfl
end Go.Pev.Pl
end
section
namespace Go.Pev.Pl
open Tok
theorem AUw(rest:List (List Int))(r:List Int)(hlen:rest.length<1073741824)(hne:∀ l∈rest,l≠[])(hp:plain r≠[]):ASw (rest,r,())=some (Yo rest (plain r),()):=by
 rw[AYc,AGE]
 simp only[UG]
 generalize plain r=p at *
 have e:=Fb (step:=Le) (fun i=>(rest,p,(i:Int),())) rest (fun x => !decide (hd x<hd p)) (fun i=>.inl (rest,p,(i:Int),())) (.inl (rest,p,(rest.length:Int),())) (by omega)
  (fun i x hi hx=>by
   rw[Le,AK,AI,Aej hi]
   simp only[Ab hx,ATY (hne x (Ae2 hx)),ATY hp,Aaq,Am]
   rw[AG (by omega)]
   by_cases h:hd x<hd p
   ·rw[Aej h];rfl
   ·rw[Aei h];rfl)
  (by rw[Le,AK,AI,Aei (by omega)])
 have e':AR Le many (rest,p,(0:Int),())=_:=e
 have hk:(if rest.any (fun x => !decide (hd x<hd p))then(.inl (rest,p,((rest.findIdx fun x => !decide (hd x<hd p):Nat):Int),()):(List (List Int)×List Int×Int×Unit)⊕Unit)else .inl (rest,p,(rest.length:Int),())) = .inl (rest,p,((rest.findIdx fun x => !decide (hd x<hd p):Nat):Int),()):=by
  split
  ·rfl
  ·rename_i h
   rw[List.findIdx_eq_length.2 fun x hx=>by
    refine AfS fun hc=>h (Afq.2 ⟨x,hx,by simpa using hc⟩)]
 rw[e',hk]
 have hle:(rest.findIdx fun x => !decide (hd x<hd p))≤rest.length:=List.findIdx_le_length
 rw[Yo]
 generalize (rest.findIdx fun x => !decide (hd x<hd p))=k at *
 simp only[J5 hle,D7 hle]
 rw[BE (by simp only[AK,Ae4,Ae3];omega)]
 simp only[]
 rw[BE (by simp only[AK,Co,Aes,Aet,Ae4,Ae3];omega)]
 simp only[]
 rw[BE (by simp only[AK,Co,Aes,Aet,Ae4,Ae3,AfI];omega)]
 simp only[Co,AfM,AfQ,Af2]
theorem Ny(l:List (List Int))(i:Nat)(hi:i<l.length)(hlen:l.length<1073741824):HM (l,(i:Int),())=some (l.eraseIdx i,()):=by
 rw[AE3,LP]
 rw[AG (by omega)]
 simp only[J5 (Agr hi),D7 (show i+1≤l.length by omega)]
 rw[BE (by simp only[AK,Ae4,Ae3];omega)]
 simp only[]
 rw[BE (by simp only[AK,Co,Aes,Ae4,Ae3,AfI];omega)]
 simp only[Co,AfM,List.eraseIdx_eq_take_drop_succ]
end Go.Pev.Pl
end
section
namespace Go.Pev.Pl
open Tok
theorem AbX(n:Int)(rings:List (List Int))(v:Int)(hD:Dom rings):tof ((n,(rings,())),v,())=some (if RF n rings∧In n v then plc rings v else -1,()):=by
 rw[AXr,ASf]
 simp only[Wy,OI n rings hD.1 hD.2,Hb n rings v hD.1 (fun l hl=>(hD.2 l hl).1)]
 by_cases h1:In n v
 ·by_cases h2:RF n rings<;>simp[h1,h2]
 ·simp[h1]
end Go.Pev.Pl
end
section
namespace Go.Pev.Pl
open Go.RowKit Tok
end Go.Pev.Pl
end
section
namespace Go.Pev.Pl
open Tok
end Go.Pev.Pl
end
section
namespace Go.Pev.Pl
open Tok
theorem AMG{n:Int}{rings:List (List Int)}{u v:Int}(h:FR n rings)(iu:In n u)(iv:In n v)(hp:plc rings u=plc rings v):
  LV ((n,(rings,())),u,v,())=some (n,rings,5,())∧Sx ((n,(rings,())),u,v,())=some (n,rings,5,()):=by
 have hD:=h.dom
 have hRF:=Ko.2 h
 constructor
 ·rw[Hf,G5]
  simp only[HT n rings u v hD,hRF,iu,iv,AhX,AfE,Ak,Hb n rings _ hD.1 (fun l hl=>(hD.2 l hl).1),hp,Aex,Aer]
 ·rw[NQ,Ja]
  simp only[GX n rings hD.1 hD.2,hRF,Jd,iu,iv,Aex,Aer,UH n rings _ hD.1 (fun l hl=>(hD.2 l hl).1),Ak,hp]
theorem AZ0{n:Int}{rings:List (List Int)}{u v:Int}{i j:Nat}{A B:List Int}(h:FR n rings)(iu:In n u)(iv:In n v)(hi:rings[i]? = some A)(hj:rings[j]? = some B)(hu:u∈A)(hv:v∈B)(hij:i≠j):
  ∃ zs rest,LV ((n,(rings,())),u,v,())=some (n,zs,0,())∧Sx ((n,(rings,())),u,v,())=some (n,zs,0,())∧FR n zs∧rings.Perm (A::B::rest)∧zs.Perm (plain (A8 n A B u v)::rest)∧Dis n A B:=by
 have hD:=h.dom
 have hRF:=Ko.2 h
 have rA:=h.rg A (Ae2 hi)
 have rB:=h.rg B (Ae2 hj)
 have hil:=(AfH.1 hi).1
 have hjl:=(AfH.1 hj).1
 have pu:plc rings u=(i:Int):=h.Yu hi iu.2.2.2 hu
 have pv:plc rings v=(j:Int):=h.Yu hj iv.2.2.2 hv
 have hperm:rings.Perm (A::B::(rings.eraseIdx (max i j)).eraseIdx (min i j)):=by
  rcases AhZ hij with g|g
  ·rw[Ag5 (by omega),Afo (by omega)]
   exact Ix g hi hj
  ·rw[AhB (by omega),AhN (by omega)]
   exact(Ix g hj hi).trans (List.Perm.swap _ _ _)
 have hdis:Dis n A B:=by
  have:=Jp hperm h.dis
  rw[AfZ]at this
  exact this.1 B (by simp)
 obtain⟨l1,l2,l3,huv,ho⟩:=NP rA.2.2.2 rB.2.2.2 hu hv iu iv hdis
 obtain⟨hRG,hrot⟩:=ABd l1
 have hall:A8 n A B u v=u::D6 n u v::(A6 B v++D6 n v u::(A6 A u).tail):=rfl
 have lA:(A6 A u).length≤1000:=by rw[← (Cb hu).perm.length_eq];exact rA.1.1
 have lB:(A6 B v).length≤1000:=by rw[← (Cb hv).perm.length_eq];exact rB.1.1
 have hsub:((rings.eraseIdx (max i j)).eraseIdx (min i j)).Sublist rings:=(AhJ _ _).trans (AhJ _ _)
 have hw1:HM (rings,((max i j:Nat):Int),())=some (rings.eraseIdx (max i j),()):=Ny _ _ (by omega) hD.1
 have hel:(rings.eraseIdx (max i j)).length=rings.length-1:=by rw[List.length_eraseIdx];rw[Aez (by omega)]
 have hw2:HM (rings.eraseIdx (max i j),((min i j:Nat):Int),())=some ((rings.eraseIdx (max i j)).eraseIdx (min i j),()):=Ny _ _ (by omega) (by have:=hD.1;omega)
 have hdrop:Cn (fun k=>decide ((k:Int)∈[(i:Int),(j:Int)])) 0 rings=(rings.eraseIdx (max i j)).eraseIdx (min i j):=by
  rcases AhZ hij with g|g
  ·rw[Ag5 (by omega),Afo (by omega)]
   exact Ke _ i j g rings 0 (by omega) fun k _=>AgI.2 (by simp only[Aeq,Agk,AhL];omega)
  ·rw[AhB (by omega),AhN (by omega)]
   exact Ke _ j i g rings 0 (by omega) fun k _=>AgI.2 (by simp only[Aeq,Agk,AhL];omega)
 have hrl:((rings.eraseIdx (max i j)).eraseIdx (min i j)).length≤rings.length:=hsub.length_le
 generalize (rings.eraseIdx (max i j)).eraseIdx (min i j)=rest at *
 have hupr:rest.Pairwise (fun a b=>hd a<hd b):=h.up.sublist hsub
 have hner:∀ l∈rest,l≠[]:=fun l hl=>(h.rg l (hsub.subset hl)).2.1
 have hdd:=Jp hperm h.dis
 rw[AfZ,AfZ]at hdd
 have hheads:∀ x∈rest,hd x≠hd (plain (A8 n A B u v)):=by
  intro x hx e
  have g1:=Nk hRG
  have g2:=(l3 _ g1.2.2.2).1 (hrot.perm.mem_iff.2 (S9 hRG.2.1))
  have g3:hd (plain (A8 n A B u v))∈x:=e▸S9 (hner x hx)
  rcases g2 with g|g
  ·exact hdd.1 x (by simp[hx]) _ g g1.2.2.2 g3
  ·exact hdd.2.1 x hx _ g g1.2.2.2 g3
 have hup:=ASv hupr hheads
 have hpz:=ADv rest (plain (A8 n A B u v))
 refine⟨Yo rest (plain (A8 n A B u v)),rest,?_,?_,ATy h hperm hRG (fun t ht=>by rw[← hrot.perm.mem_iff];exact l3 t ht) hpz hup,hperm,hpz,hdis⟩
 ·obtain⟨ys,y1,y2,y3⟩:=ADM n rings [(i:Int),(j:Int)] [A8 n A B u v] hD.1 (by simp) (by simp) (fun l hl=>(h.rg l hl).2.1) (by simp;exact hRG.2.1)
  have hys:ys=Yo rest (plain (A8 n A B u v)):=by
   refine UA hup (y2.trans ?_) y3
   rw[hdrop]
   exact(AgL (l₁:=rest) (l₂:=[plain (A8 n A B u v)])).trans hpz.symm
  rw[hys]at y1
  rw[Hf,G5]
  have s1:B5 (A6 A u) (0:Int) (1:Int)=some [u]:=by
   have:=Rq (xs:=A6 A u) (l:=0) (h:=1) (by omega) (by rw[l2];simp)
   rw[l2]at this ⊢
   exact this
  have s2:B5 (A6 A u) (1:Int) (AM (A6 A u))=some (A6 A u).tail:=by
   have:=D7 (xs:=A6 A u) (l:=1) (by rw[l2];simp)
   rw[Agh]at this
   exact this
  have d1:Dc 0 (AE (AM [u])) (A6 A u)=[u]:=by rw[l2];rfl
  have d2:Dc 1 (AE (AM (A6 A u).tail)) (A6 A u)=(A6 A u).tail:=by
   rw[Dc,AK,IF,Agh,Afw]
  have hcat:Iz ([[u],[D6 n u v],A6 B v,[D6 n v u],(A6 A u).tail],())=some (A8 n A B u v,()):=by
   rw[Ma _ (by simp) (by simp;omega)]
   simp[A8]
  have ne:((i:Int))≠(j:Int):=by omega
  simp only[HT n rings u v hD,hRF,iu,iv,AhX,AfE,Ak,Hb n rings _ hD.1 (fun l hl=>(hD.2 l hl).1),pu,pv,ne,Aex,Ae1,Aer,Ab hi,Ab hj,ADr,Iv,rA.1,rB.1,hu,hv,s1,s2,AJo,d1,d2,hcat,y1]
 ·rw[NQ,Ja]
  have s2:B5 (A6 A u) (1:Int) (AM (A6 A u))=some (A6 A u).tail:=by
   have:=D7 (xs:=A6 A u) (l:=1) (by rw[l2];simp)
   rw[Agh]at this
   exact this
  have d2:Dc 1 (AE (AM (A6 A u).tail)) (A6 A u)=(A6 A u).tail:=by
   rw[Dc,AK,IF,Agh,Afw]
  have ne:((i:Int))≠(j:Int):=by omega
  have f1:fits (AM [u,D6 n u v]+AM (A6 B v))=true:=BE (by simp only[AK,Aet,Ae4];omega)
  have f2:fits (AM (A5 [u,D6 n u v] (A6 B v))+AM [D6 n v u])=true:=BE (by simp only[AK,Co,Aes,Aet,Ae4];omega)
  have f3:fits (AM (A5 (A5 [u,D6 n u v] (A6 B v)) [D6 n v u])+AM (A6 A u).tail)=true:=BE (by simp only[AK,Co,Aes,Aet,Ae4,List.length_tail];omega)
  have hcat:A5 (A5 (A5 [u,D6 n u v] (A6 B v)) [D6 n v u]) (A6 A u).tail=A8 n A B u v:=by simp[Co,A8]
  have hput:ASw (rest,A8 n A B u v,())=some (Yo rest (plain (A8 n A B u v)),()):=AUw rest _ (by have:=hD.1;omega) hner hRG.2.1
  simp only[GX n rings hD.1 hD.2,hRF,Jd,iu,iv,Aex,Aer,UH n rings _ hD.1 (fun l hl=>(hD.2 l hl).1),pu,pv,Ak,ne,Ae1,Ab hi,Ab hj,O0 A u (by have:=rA.1.1;omega),O0 B v (by have:=rB.1.1;omega),Iv,rA.1,rB.1,hu,hv,AhX,AfE,AEn,f1,f2,s2,d2,f3,AaG,AaF,hw1,hw2,hcat,hput]
theorem ACv{n:Int}{rings:List (List Int)}{u v:Int}(hD:Dom rings)(h:¬ (RF n rings∧In n u∧In n v)):
  ∃ e,e≠0∧(∃ b,e=b∧(b=1∨b=10))∧LV ((n,(rings,())),u,v,())=some (n,rings,e,())∧Sx ((n,(rings,())),u,v,())=some (n,rings,e,()):=by
 by_cases h1:RF n rings
 ·have h2:¬ (In n u∧In n v):=fun h2=>h ⟨h1,h2⟩
  refine⟨10,by omega,⟨10,rfl,.inr rfl⟩,?_,?_⟩
  ·rw[Hf,G5]
   simp only[HT n rings u v hD,h1,h2,AfE,Ae0,Ak]
   rfl
  ·rw[NQ,Ja]
   simp only[GX n rings hD.1 hD.2,h1,Jd,Aex,Aer]
   by_cases hu:In n u
   ·have hv:¬ In n v:=fun hv=>h2 ⟨hu,hv⟩
    simp[hu,hv]
   ·simp[hu]
 ·refine⟨1,by omega,⟨1,rfl,.inl rfl⟩,?_,?_⟩
  ·rw[Hf,G5]
   simp only[HT n rings u v hD,h1,Ae0,Ak]
   rfl
  ·rw[NQ,Ja]
   simp only[GX n rings hD.1 hD.2,h1,Ae1,AfC]
theorem ASH{n:Int}{rings:List (List Int)}(u v:Int)(hD:Dom rings):∃ zs e,LV ((n,(rings,())),u,v,())=some (n,zs,e,())∧Sx ((n,(rings,())),u,v,())=some (n,zs,e,())∧Dom zs:=by
 by_cases h:RF n rings∧In n u∧In n v
 ·obtain⟨h1,iu,iv⟩:=h
  have hF:=Ko.1 h1
  obtain⟨i,A,pu,hi,hu,_⟩:=Lj (hF.cov u iu)
  obtain⟨j,B,pv,hj,hv,_⟩:=Lj (hF.cov v iv)
  by_cases hij:i=j
  ·obtain⟨q1,q2⟩:=AMG hF iu iv (by rw[pu,pv,hij])
   exact⟨_,_,q1,q2,hD⟩
  ·obtain⟨zs,rest,q1,q2,q3,_⟩:=AZ0 hF iu iv hi hj hu hv hij
   exact⟨_,_,q1,q2,q3.dom⟩
 ·obtain⟨e,_,_,q1,q2⟩:=ACv hD h
  exact⟨_,_,q1,q2,hD⟩
end Go.Pev.Pl
end
section
namespace Go.Pev.Pl
open Tok
def sel(l:List Edge)(bs:List Bool):List Edge:=((l.zip bs).filter fun p=>p.2).map fun p=>p.1
end Go.Pev.Pl
end
section
namespace Go.Pev.Pl
open Tok
instance (n v:Int):Decidable (In n v):=inferInstanceAs (Decidable (_∧_))
instance (n:Int):Decidable (Sz n):=inferInstanceAs (Decidable (_∧_))
end Go.Pev.Pl
end
section
namespace Go.Pev.Pl
instance (xs:List Int):Decidable (Rt xs):=inferInstanceAs (Decidable (_∧_∧_))
end Go.Pev.Pl
end
section
namespace Go.Pev.Pl
open Tok
noncomputable instance (n:Int) (xs:List Int):Decidable (TI n xs):=Classical.propDecidable _
end Go.Pev.Pl
end
section
namespace Go.Pev.Pl
open Tok
noncomputable instance (n:Int) (rings:List (List Int)):Decidable (RF n rings):=Classical.propDecidable _
noncomputable instance (n:Int) (xs:List Int):Decidable (RG n xs):=Classical.propDecidable _
end Go.Pev.Pl
end
section
namespace Go.Pev.Pl
open Tok
theorem AJn(n:Int)(rings:List (List Int))(l:List (Int×Int×Unit))(hD:Dom rings)(hs:l.length<9223372036854775808):AFZ ((n,(rings,())),l,())=some (AIq n rings (l.all fun e=>decide (In n e.1)&&decide (In n e.2.1)),()):=by
 rw[AOF,Rp]
 simp only[GX n rings hD.1 hD.2,AIq]
 by_cases h:RF n rings
 ·simp only[h,Aex,Aer,AfE]
  have e:=Fb (step:=Hg) (fun i=>(l,n,rings,(i:Int),())) l (fun e => !(decide (In n e.1)&&decide (In n e.2.1))) (fun _=>.inl ((10:Int),())) (.inr (.inl ())) hs
   (fun i x hi hx=>by
    rw[Hg,AK,AI,Aej hi]
    simp only[Ab hx,Am,Ap]
    rw[AG (by omega)]
    have q1:=ASS (v:=x.1) h.1
    have q2:=ASS (v:=x.2.1) h.1
    by_cases c1:x.1<0
    ·rw[Aej c1,Bool.true_or]at q1
     have:decide (In n x.1)=false:=by simpa using q1.symm
     simp[c1,this]
    ·by_cases c2:n≤x.1
     ·rw[Aej c2,Bool.or_true]at q1
      have:decide (In n x.1)=false:=by simpa using q1.symm
      simp[c1,c2,this]
     ·rw[Aei c1,Aei c2]at q1
      have g1:decide (In n x.1)=true:=by simpa using q1.symm
      by_cases c3:x.2.1<0
      ·rw[Aej c3,Bool.true_or]at q2
       have:decide (In n x.2.1)=false:=by simpa using q2.symm
       simp[c1,c2,c3,this]
      ·by_cases c4:n≤x.2.1
       ·rw[Aej c4,Bool.or_true]at q2
        have:decide (In n x.2.1)=false:=by simpa using q2.symm
        simp[c1,c2,c3,c4,this]
       ·rw[Aei c3,Aei c4]at q2
        have g2:decide (In n x.2.1)=true:=by simpa using q2.symm
        simp[c1,c2,c3,c4,g1,g2])
   (by rw[Hg,AK,AI,Aei (by omega)])
  have e':AR Hg many (l,n,rings,(0:Int),())=_:=e
  rw[e',List.any_eq_not_all_not]
  simp only[Bool.not_not]
  cases l.all fun e=>decide (In n e.1)&&decide (In n e.2.1)<;>rfl
 ·simp[h]
end Go.Pev.Pl
end
section
namespace Go.Pev.Pl
open Tok
end Go.Pev.Pl
end
section
namespace Go.Pev.Pl
open Tok
end Go.Pev.Pl
end
section
namespace Go.Pev.Pl
open Tok
end Go.Pev.Pl
end
section
namespace Go.Pev.Pl
open Tok
theorem AKP{N:Nat}(h1:1≤N)(hN:N≤64){ts:List Tie}(hs:ts.length≤400)(ho:oks N ts){out:List Int}(hc:LO (N:Int) (trs ts ts.length) out):
  Ci (((N:Int),(ts,())),())=some (decide ((cnt out N:Int)=(N:Int)-(trs ts ts.length).length),()):=by
 have R:=Pk N hN ts hs
 rw[Aez ho]at R
 have hin:=AN2 hN ho
 have hlen:=AFB ts ts.length
 obtain⟨o2,e2,c2⟩:=DF (N:Int) (trs ts ts.length) ⟨by omega,by omega⟩ (by omega) hin
 have:=LO.unique h1 hN hc c2
 subst this
 have hol:out.length=N:=by have:=hc.len;omega
 rw[Ff,Em]
 simp only[Am,AK]
 rw[Aei (show ¬ (N:Int)<1 by omega),Aei (show ¬ 64<(N:Int) by omega),Aei (show ¬ 400<(ts.length:Int) by omega)]
 simp only[R,e2,N0 N hN _ _ out hol,Ak]
 rw[Aj (by omega)]
end Go.Pev.Pl
end
section
namespace Go.Pev.Pl
open Tok
theorem Con.perm{l l':List Edge}(h:∀ e,e∈l↔e∈l'){a b:Int}:Con l a b↔Con l' a b:=
 ⟨fun c=>c.mono fun e he=>⟨e,(h e).1 he,.inl ⟨rfl,rfl⟩⟩,fun c=>c.mono fun e he=>⟨e,(h e).2 he,.inl ⟨rfl,rfl⟩⟩⟩
theorem LO.congr{n:Int}{l l':List Edge}{out:List Int}(h:∀ a b,Con l a b↔Con l' a b)(hc:LO n l out):LO n l' out:=
 ⟨hc.len,fun a b ia ib=>(hc.same a b ia ib).trans (h a b),hc.isin,fun a ia=>(h a _).1 (hc.con a ia),fun a b ia ib c=>hc.least a b ia ib ((h a b).2 c)⟩
end Go.Pev.Pl
end
section
namespace Go.Pev.Pl
open Tok
def ADZ(x:Edge)(b:Bool):Tie:=(x.1,x.2.1,0,b,())
def Wt(ts:List Tie)(xs:List Edge)(bs:List Bool)(k:Nat):List Tie:=(List.range k).foldl (fun a i=>Yn a (ADZ (xs.getD i (0,0,())) (bs.getD i false))) ts
end Go.Pev.Pl
end
section
namespace Go.Pev.Pl
open Tok
def AQM(xs:List Edge)(bs:List Bool)(k:Nat):List Tie:=(List.range k).map fun i=>ADZ (xs.getD i (0,0,())) (bs.getD i false)
theorem AEp(ts:List Tie)(xs:List Edge)(bs:List Bool)(k:Nat):Wt ts xs bs (k+1)=Yn (Wt ts xs bs k) (ADZ (xs.getD k (0,0,())) (bs.getD k false)):=by
 unfold Wt
 rw[Af4,List.foldl_append]
 rfl
theorem Ti(ts:List Tie)(xs:List Edge)(bs:List Bool):∀ k,(Wt ts xs bs k).Perm (ts++AQM xs bs k):=by
 intro k
 induction k with
 |zero=>simp[Wt,AQM]
 |succ k ih=>
  rw[AEp]
  refine(ADu _ _).trans ?_
  unfold AQM at *
  rw[Af4,Af1,← AfQ]
  refine(List.Perm.cons _ ih).trans ?_
  exact(List.perm_append_singleton _ _).symm
end Go.Pev.Pl
end
section
namespace Go.Pev.Pl
open Tok
theorem AbF{N:Nat}{ts:List Tie}(h:oks N ts)(hv0:0≤Hd N){xs:List Edge}(bs:List Bool)(hp:xs.Pairwise De)(hx:∀ e∈xs,0≤e.1∧e.1<e.2.1∧e.2.1<(N:Int))(hn:∀ e∈xs,¬ e∈ts.map ed):oks N (Wt ts xs bs xs.length):=by
 rw[KI]at h ⊢
 obtain⟨h1,h2⟩:=h
 have hget:∀ i (hi:i<xs.length),xs.getD i (0,0,())=xs[i]:=fun i hi=>by
  simp only[Ael,Aeo hi,AfK]
 have hmem:∀ k,k≤xs.length→∀ t∈Wt ts xs bs k,t∈ts∨∃ i,i<k∧t=ADZ (xs.getD i (0,0,())) (bs.getD i false):=by
  intro k hk t ht
  rcases Aen.1 ((Ti ts xs bs k).mem_iff.1 ht)with h|h
  ·exact .inl h
  ·unfold AQM at h
   obtain⟨i,hi,rfl⟩:=Ae6.1 h
   exact .inr ⟨i,by simpa using hi,rfl⟩
 refine⟨fun t ht => ?_,?_⟩
 ·rcases hmem _ (Aew _) t ht with h|⟨i,hi,rfl⟩
  ·exact h1 t h
  ·rw[hget i hi]
   obtain⟨q1,q2,q3⟩:=hx xs[i] (Afr hi)
   exact⟨q1,q2,q3,by show(0:Int)≤0;omega,hv0⟩
 ·have key:∀ k,k≤xs.length→(Wt ts xs bs k).Pairwise ahead:=by
   intro k
   induction k with
   |zero=>intro _;exact h2
   |succ k ih=>
    intro hk
    rw[AEp]
    refine AUv (ih (by omega)) fun t ht => ?_
    rw[hget k (by omega)]
    rintro⟨e1,e2⟩
    rcases hmem k (by omega) t ht with h|⟨i,hi,rfl⟩
    ·refine hn xs[k] (Afr (by omega)) (Ae6.2 ⟨t,h,?_⟩)
     unfold ed
     rw[e1,e2]
     rfl
    ·rw[hget i (by omega)]at e1 e2
     have:=(Afk.1 hp) i k (by omega) (by omega) hi
     unfold De at this
     simp only[ADZ]at e1 e2
     omega
  exact key _ (Aew _)
end Go.Pev.Pl
end
section
namespace Go.Pev.Pl
open Tok
theorem AXe(ts:List Tie):∀ k,k≤ts.length→trs ts k=((ts.take k).filter fun t=>t.2.2.2.1).map ed:=by
 intro k
 induction k with
 |zero=>intro _;simp[trs]
 |succ k ih=>
  intro hk
  have hk':k<ts.length:=by omega
  rw[Xm,ih (by omega),Afc hk',Af8,Af1]
  simp only[Ael,Aeo hk',AfK]
  cases h:ts[k].2.2.2.1
  ·simp[h]
  ·simp[h]
theorem AFC(ts:List Tie):trs ts ts.length=(ts.filter fun t=>t.2.2.2.1).map ed:=by
 rw[AXe ts _ (Aew _),Afw]
end Go.Pev.Pl
end
section
namespace Go.Pev.Pl
open Tok
theorem AZo{xs:List Edge}{bs:List Bool}(h:bs.length=xs.length):AQM xs bs xs.length=(xs.zip bs).map fun p=>ADZ p.1 p.2:=by
 unfold AQM
 apply Ahl
 ·simp[h]
 ·intro i h1 h2
  have hi:i<xs.length:=by simpa using h1
  simp[hi,show i<bs.length by omega]
theorem AbE(ts:List Tie){xs:List Edge}{bs:List Bool}(h:bs.length=xs.length):(trs (Wt ts xs bs xs.length) (Wt ts xs bs xs.length).length).Perm (trs ts ts.length++sel xs bs):=by
 rw[AFC,AFC]
 refine(((Ti ts xs bs xs.length).filter _).map ed).trans ?_
 rw[Af8,Af1,AZo h,List.filter_map,List.map_map]
 exact List.Perm.refl _
theorem AbG(ts:List Tie)(xs:List Edge)(bs:List Bool):∀ k,(Wt ts xs bs k).length=ts.length+k:=by
 intro k
 rw[(Ti ts xs bs k).length_eq]
 simp[AQM]
end Go.Pev.Pl
end
end
section
section
namespace Go.Pev.Pl
open Tok
def AdT(N:Nat)(l:List Edge):Prop:=∀ e∈l,In (N:Int) e.1∧In (N:Int) e.2.1
theorem Aa0{N:Nat}(hN:N≤64)(ts:List Tie)(l:List Edge):∀ e∈Jt N ts l,In (N:Int) e.1∧In (N:Int) e.2.1:=by
 intro e he
 obtain⟨⟨a,b,c,_⟩,_⟩:=(Sd N ts l e).1 he
 exact⟨⟨by omega,by omega,a,by omega⟩,⟨by omega,by omega,by omega,c⟩⟩
end Go.Pev.Pl
end
section
namespace Go.Pev.Pl
open Tok
theorem AaD{N:Nat}(h1:1≤N)(hN:N≤64){a:Int}(h:0≤a∧a<(N:Int)):In (N:Int) a:=⟨by omega,by omega,h.1,h.2⟩
theorem AaE{N:Nat}{e:Edge}(h:In (N:Int) e.1∧In (N:Int) e.2.1):InE N e:=⟨⟨h.1.2.2.1,h.1.2.2.2⟩,⟨h.2.2.2.1,h.2.2.2.2⟩⟩
theorem AeG{N:Nat}(h1:1≤N)(hN:N≤64){l:List Edge}{out:List Int}(hc:LO (N:Int) l out):cnt out N=cc N l:=by
 unfold cnt cc
 rw[List.countP_eq_length_filter]
 congr 1
 refine Agx fun k hk => ?_
 have hk:k<N:=by simpa using hk
 have ik:=AaD h1 hN (a:=(k:Int)) ⟨by omega,by omega⟩
 have hg:out.getD k 0=cl out (k:Int):=by unfold cl;rw[Afe]
 rw[hg,Afp,AfP,Hw]
 constructor
 ·intro h j hj hcn
  have:=hc.least (k:Int) (j:Int) ik (AaD h1 hN ⟨by omega,by omega⟩) hcn.symm
  omega
 ·intro h
  have a1:=hc.isin _ ik
  have a2:=hc.con _ ik
  have a3:=hc.least (k:Int) (k:Int) ik ik (.refl _)
  obtain⟨m,hm⟩:=Aeu a1.2.2.1
  rw[hm]at a2 a3 ⊢
  by_cases hlt:m<k
  ·exact absurd a2.symm (h m hlt)
  ·omega
theorem FC.congr{n:Int}{rings:List (List Int)}{l l':List Edge}(h:FC n rings l)(hm:∀ e∈l,e∈l')(hc:∀ e∈l',Con l e.1 e.2.1):FC n rings l':=
 ⟨h.fr,fun a b ia ib=>(h.sam a b ia ib).trans ⟨fun c=>c.sub hm,fun c=>c.cut hc⟩,fun A hA u v ho hu=>by
  obtain⟨e,he,q⟩:=h.arcs A hA u v ho hu
  exact⟨e,hm e he,q⟩⟩
theorem AKO{N:Nat}(h1:1≤N)(hN:N≤64){ts:List Tie}(hs:ts.length≤400)(ho:oks N ts):Ci (((N:Int),(ts,())),())=some (true,())↔Fo N (trs ts ts.length):=by
 have hlen:=AFB ts ts.length
 obtain⟨o,_,c⟩:=DF (N:Int) (trs ts ts.length) ⟨by omega,by omega⟩ (by omega) (AN2 hN ho)
 rw[AKP h1 hN hs ho c,AeG h1 hN c]
 unfold Fo
 constructor
 ·intro h
  have:decide ((cc N (trs ts ts.length):Int)=(N:Int)-(trs ts ts.length).length)=true:=by injection h with h;injection h
  have:=Age this
  omega
 ·intro h
  rw[Aej (by omega)]
end Go.Pev.Pl
end
section
namespace Go.Pev.Pl
open Tok
end Go.Pev.Pl
end
section
namespace Go.Pev.Pl.SE
open Go.Sort
def ok(_:Int×Int×Unit):Prop:=True
def okz:Int×Int×Unit:=(0,0,())
theorem Zr:ok okz:=trivial
def lt(x y:Int×Int×Unit):Bool:=decide (x.1<y.1∨(x.1=y.1∧x.2.1<y.2.1))
theorem swo:SWO lt:=⟨fun x=>by simp[lt],fun x y z h1 h2=>by simp only[lt,Aem]at *;omega,fun x y z h1 h2=>by simp only[lt,AfY]at *;omega⟩
end Go.Pev.Pl.SE
end
section
namespace Go.Pev.Pl.ST
open Go.Sort
def ok(_:Int×Int×Int×Bool×Unit):Prop:=True
def okz:Int×Int×Int×Bool×Unit:=(0,0,0,false,())
theorem Zr:ok okz:=trivial
def lt(x y:Int×Int×Int×Bool×Unit):Bool:=decide (x.1<y.1∨(x.1=y.1∧x.2.1<y.2.1))
theorem swo:SWO lt:=⟨fun x=>by simp[lt],fun x y z h1 h2=>by simp only[lt,Aem]at *;omega,fun x y z h1 h2=>by simp only[lt,AfY]at *;omega⟩
end Go.Pev.Pl.ST
end
section
namespace Go.Pev.Pl
open Tok
section
variable {α β:Type} [DecidableEq α]
end
end Go.Pev.Pl
end
section
namespace Go.Pev.Pl
open Tok
theorem Abk:∀ (xs b:List Edge),sel xs (gfl b xs)=LN b xs:=by
 intro xs
 induction xs with
 |nil=>intro b;rfl
 |cons x xs ih=>
  intro b
  have:=ih (b++[x])
  unfold sel at *
  rw[gfl,LN,List.zip_cons_cons,Af5]
  by_cases h:ED b x.1 x.2.1=true
  ·simp[h,this]
  ·simp[h,this]
theorem AdL{N:Nat}{b xs:List Edge}(h:Fo N b)(hx:∀ e∈xs,InE N e):Fo N (b++LN b xs):=by
 have h1:=Nf xs b hx
 have h2:cc N (b++xs)=cc N (b++LN b xs):=ABM fun a c=>ABH xs b
 unfold Fo at *
 rw[Aes]
 omega
theorem T5{N:Nat}(hN:N≤64):0≤Hd N:=by
 have:((List.range 65).all fun k=>decide (0≤Hd k))=true:=by kernel_rfl
 exact Age (Ae9.1 this N (by simp;omega))
noncomputable def grown(N:Nat)(ts:List Tie)(l:List Edge):List Tie:=Wt ts (Jt N ts l) (gfl (trs ts ts.length) (Jt N ts l)) (Jt N ts l).length
theorem AWX(N:Nat)(ts:List Tie)(l:List Edge):(grown N ts l).length=ts.length+(Jt N ts l).length:=AbG ..
theorem AWV(N:Nat)(ts:List Tie)(l:List Edge):(trs (grown N ts l) (grown N ts l).length).Perm (trs ts ts.length++LN (trs ts ts.length) (Jt N ts l)):=by
 have:=AbE ts (xs:=Jt N ts l) (bs:=gfl (trs ts ts.length) (Jt N ts l)) (Ac0 _ _)
 rw[Abk]at this
 exact this
theorem AWW{N:Nat}(hN:N≤64){ts:List Tie}(ho:oks N ts)(l:List Edge):oks N (grown N ts l):=
 AbF ho (T5 hN) _ (AR3 N ts l) (fun e he=>by
  obtain⟨⟨a,b,c,_⟩,_⟩:=(Sd N ts l e).1 he
  exact⟨a,b,c⟩) (fun e he=>((Sd N ts l e).1 he).2)
theorem AW3{N:Nat}(hN:N≤64)(ts:List Tie)(l:List Edge):∀ e∈Jt N ts l,InE N e:=fun e he=>AaE (Aa0 hN ts l e he)
theorem AaU{N:Nat}(hN:N≤64){ts:List Tie}(h:Fo N (trs ts ts.length))(l:List Edge):Fo N (trs (grown N ts l) (grown N ts l).length):=
 (AdL h (AW3 hN ts l)).perm (AWV N ts l).symm
structure RG2(N:Nat)(ts:List Tie):Prop where
 h1:1≤N
 hN:N≤64
 ht:ts.length≤400
 oks:oks N ts
 fo:Fo N (trs ts ts.length)
theorem RG2.r21{N:Nat}{ts:List Tie}(h:RG2 N ts):Ci (((N:Int),(ts,())),())=some (true,()):=(AKO h.h1 h.hN h.ht h.oks).2 h.fo
theorem RG2.lr{N:Nat}{ts:List Tie}(h:RG2 N ts):Fq (((N:Int),(ts,())),())=some (true,()):=by
 obtain⟨b,h1,h2,_⟩:=ABX (N:Int) ts (by have:=h.ht;omega)
 rw[h.r21]at h1
 cases h1
 exact h2
theorem JS(n:Int)(ts:List Tie)(hl:ts.length<4611686018427387904):(Ci ((n,(ts,())),())=some (false,())∧Fq ((n,(ts,())),())=some (false,()))∨∃ N:Nat,n=(N:Int)∧RG2 N ts:=by
 obtain⟨b,h1,h2,h3⟩:=ABX n ts hl
 cases b
 ·exact .inl ⟨h1,h2⟩
 ·obtain⟨N,rfl,q1,q2,q3,q4⟩:=h3 rfl
  exact .inr ⟨N,rfl,q1,q2,q3,q4,(AKO q1 q2 q3 q4).1 h1⟩
theorem RG2.inE{N:Nat}{ts:List Tie}(h:RG2 N ts):∀ e∈ts.map ed,In (N:Int) e.1∧In (N:Int) e.2.1:=AeE h.hN h.oks
theorem RG2.grown{N:Nat}{ts:List Tie}(h:RG2 N ts){l:List Edge}(hf:ts.length+(Jt N ts l).length≤400):RG2 N (grown N ts l):=
 ⟨h.h1,h.hN,by rw[AWX];exact hf,AWW h.hN h.oks l,AaU h.hN h.fo l⟩
end Go.Pev.Pl
end
section
namespace Go.Pev.Pl
open Tok
def Bg(u v:Int)(t:Tie):Bool:=decide (t.1=min u v∧t.2.1=max u v)
theorem ARa{N:Nat}{ts:List Tie}(h:RG2 N ts)(u v:Int):ARb (((N:Int),(ts,())),u,v,())=some (if ts.any (Bg u v)then((ts.findIdx (Bg u v):Nat):Int)else -1,()):=by
 have ht:=h.ht
 rw[AWs,AAp]
 simp only[h.r21,Aer]
 have e:=Fb (step:=Jm) (fun i=>(u,v,(N:Int),ts,(i:Int),())) ts (Bg u v) (fun i=>.inl ((i:Int),())) (.inr (.inl ())) (by omega)
  (fun i x hi hx=>by
   rw[Jm,AK,AI,Aej hi]
   simp only[Ab hx,Im,QW,Ak]
   rw[AG (by omega)]
   unfold Bg
   by_cases h1:x.1=min u v
   ·by_cases h2:x.2.1=max u v
    ·rw[Aej h1,Aej h2,Aej (show x.1=min u v∧x.2.1=max u v from⟨h1,h2⟩)]
     rfl
    ·rw[Aej h1,Aei h2,Aei (fun h:x.1=min u v∧x.2.1=max u v=>h2 h.2)]
     rfl
   ·rw[Aei h1,Aei (fun h:x.1=min u v∧x.2.1=max u v=>h1 h.1)]
    rfl)
  (by rw[Jm,AK,AI,Aei (by omega)])
 have e':AR Jm many (u,v,(N:Int),ts,(0:Int),())=_:=e
 rw[e']
 by_cases ha:ts.any (Bg u v)=true
 ·rw[Aez ha,Aez ha]
 ·rw[Aev ha,Aev ha]
theorem Aak{N:Nat}{ts:List Tie}(ho:oks N ts){t:Tie}(hm:t∈ts):ts.any (Bg t.1 t.2.1)=true∧∃ k,ts.findIdx (Bg t.1 t.2.1)=k∧k<ts.length∧ts[k]? = some t:=by
 obtain⟨hv,hp⟩:=(KI N ts).1 ho
 obtain⟨_,hlt,_⟩:=hv t hm
 have hself:Bg t.1 t.2.1 t=true:=by
  unfold Bg
  rw[AhV (by omega),Ahr (by omega)]
  simp
 refine⟨Afq.2 ⟨t,hm,hself⟩,_,rfl,Af9.2 ⟨t,hm,hself⟩,?_⟩
 have hk:ts.findIdx (Bg t.1 t.2.1)<ts.length:=Af9.2 ⟨t,hm,hself⟩
 have hg:=AhM (xs:=ts) (p:=Bg t.1 t.2.1) (w:=hk)
 rw[Aeo hk]
 obtain⟨j,hj,rfl⟩:=Afm hm
 generalize ts.findIdx (Bg ts[j].1 ts[j].2.1)=k at hk hg
 unfold Bg at hg
 rw[AhV (by omega),Ahr (by omega),AfP]at hg
 rw[Afk]at hp
 unfold ahead at hp
 rcases Agy j k with h|h|h
 ·have:=hp j k hj hk h;omega
 ·subst h;rfl
 ·have:=hp k j hk hj h;omega
end Go.Pev.Pl
end
end
section
namespace Go.Pev.Pl
open Tok
theorem AXg(ts:List Tie)(t:Tie)(k:Int):trk (ts++[t]) k=trk ts k++if t.2.2.2.1=true∧k≤t.2.2.1 then [ed t]else []:=by
 rw[Be]
 congr 1
 unfold trk
 rw[Af5]
 by_cases h:t.2.2.2.1=true∧k≤t.2.2.1
 ·rw[Aez h,h.1,Aej h.2];rfl
 ·rw[Aev h,Aev]
  ·rfl
  ·rw[Aep,Aem];exact h
theorem AJa(k:Int):∀ (ts a:List Tie) (acc:List Edge),acc=trk a k→ts.foldl (fun acc t=>if t.2.2.2.1=true∧k≤t.2.2.1 then acc++[ed t]else acc) acc=trk (a++ts) k:=by
 intro ts
 induction ts with
 |nil=>intro a acc h;simpa using h
 |cons t ts ih=>
  intro a acc h
  rw[Afg,ih (a++[t])]
  ·simp
  ·rw[AXg,← h]
   split<;>simp
theorem ASe(ts:List Tie)(k:Int):(trk ts k).length≤ts.length:=by
 unfold trk
 rw[AfV]
 exact AgY _ _
theorem AFD(ts:List Tie)(k:Int):∀ e∈trk ts k,e∈ts.map ed:=by
 intro e he
 obtain⟨t,h1,_,_,rfl⟩:=C0.1 he
 exact Ae6.2 ⟨t,h1,rfl⟩
theorem AMA(n:Int)(ts:List Tie)(hs:ts.length≤400)(k:Int):Oh ((n,(ts,())),k,())=some (trk ts k,()):=by
 rw[Sq,MA]
 have e:=Cq (step:=Cl) (fun i (a:List Edge)=>(k,a,ts,AM ts,(i:Int),())) ts (fun t a=>.inl (if t.2.2.2.1=true∧k≤t.2.2.1 then a++[ed t]else a)) (fun a=>.inl (a,())) (fun i a=>a.length≤i) (by omega)
  (fun i x a hi hx ha=>by
   refine⟨fun m' h' => ?_,fun r h'=>(by cases h')⟩
   cases h'
   constructor
   ·rw[Cl,AK,AI,Aej hi]
    simp only[Ab hx,AK]
    rw[AG (by omega),Ap,BE (by simp only[Aet,Ae4];omega)]
    cases h4:x.2.2.2.1
    ·simp
    ·by_cases h5:k≤x.2.2.1
     ·simp[h5,ed,A5]
     ·simp[h5]
   ·split
    ·rw[Aes];simp;omega
    ·omega)
  (fun a _=>by rw[Cl,AK,AI,Aei (by omega)]) [] (Aew _)
 have e':AR Cl many (k,[],ts,AM ts,(0:Int),())=_:=e
 simp only[e']
 rw[BL (fun(t:Tie) (a:List Edge)=>if t.2.2.2.1=true∧k≤t.2.2.1 then a++[ed t]else a),AJa k ts [] [] rfl]
 rfl
theorem Mu(n:Int)(ts:List Tie)(hs:ts.length≤400)(k:Int):Ia ((n,(ts,())),k,())=some (trk ts k,()):=by
 rw[Xu,Mv]
 have e:=Cq (step:=EP) (fun i (a:List Edge)=>(k,n,ts,a,(i:Int),())) ts (fun t a=>.inl (if t.2.2.2.1=true∧k≤t.2.2.1 then a++[ed t]else a)) (fun a=>.inl (a,())) (fun i a=>a.length≤i) (by omega)
  (fun i x a hi hx ha=>by
   refine⟨fun m' h' => ?_,fun r h'=>(by cases h')⟩
   cases h'
   constructor
   ·rw[EP,AK,AI,Aej hi]
    simp only[Ab hx,AK]
    rw[AG (by omega),Ap,BE (by simp only[Aet,Ae4];omega)]
    cases h4:x.2.2.2.1
    ·simp
    ·by_cases h5:k≤x.2.2.1
     ·simp[h5,ed,A5]
     ·simp[h5]
   ·split
    ·rw[Aes];simp;omega
    ·omega)
  (fun a _=>by rw[EP,AK,AI,Aei (by omega)]) [] (Aew _)
 have e':AR EP many (k,n,ts,[],(0:Int),())=_:=e
 simp only[e']
 rw[BL (fun(t:Tie) (a:List Edge)=>if t.2.2.2.1=true∧k≤t.2.2.1 then a++[ed t]else a),AJa k ts [] [] rfl]
 rfl
theorem AJY{N:Nat}{ts:List Tie}(h:oks N ts):trs ts ts.length=trk ts 0:=by
 rw[AFC]
 unfold trk
 congr 1
 refine Agx fun t ht => ?_
 have:=((KI N ts).1 h).1 t ht
 rw[Aej this.2.2.2.1,AhP]
theorem RG2.fo0{N:Nat}{ts:List Tie}(h:RG2 N ts):Fo N (trk ts 0):=by rw[← AJY h.oks];exact h.fo
theorem RG2.inK{N:Nat}{ts:List Tie}(h:RG2 N ts)(k:Int):∀ e∈trk ts k,In (N:Int) e.1∧In (N:Int) e.2.1:=fun e he=>h.inE e (AFD ts k e he)
theorem RG2.Ad6{N:Nat}{ts:List Tie}(h:RG2 N ts)(k:Int):(trk ts k).length≤400:=Afs (ASe ts k) h.ht
theorem RG2.AeB{N:Nat}{ts:List Tie}(h:RG2 N ts)(k:Int):∃ zs,NR (((N:Int),(ts,())),k,())=some (((N:Int),(zs,())),0,())∧FC (N:Int) zs (trk ts k):=by
 have hl:=h.Ad6 k
 have h1:=h.h1
 have hN:=h.hN
 rcases(ATg (N:Int) (trk ts k) ⟨by omega,by omega⟩ (by omega)).symm with⟨hno,_⟩|⟨_,zs,e,hF⟩
 ·exact absurd (h.inK k) hno
 refine⟨zs,?_,hF⟩
 rw[Oi,Jb]
 simp only[h.lr,Aer,AMA (N:Int) ts h.ht k,e]
theorem RG2.ATm{N:Nat}{ts:List Tie}(h:RG2 N ts)(k:Int):∃ out,DG ((N:Int),trk ts k,())=some (out,())∧LO (N:Int) (trk ts k) out:=by
 have:=h.Ad6 k
 have h1:=h.h1
 have hN:=h.hN
 exact DF (N:Int) (trk ts k) ⟨by omega,by omega⟩ (by omega) (h.inK k)
end Go.Pev.Pl
end
section
namespace Go.Pev.Pl
open Tok
noncomputable def Ig(p:Prop):Bool:=@decide p (Classical.propDecidable _)
theorem Dn(p:Prop):Ig p=true↔p:=by
 unfold Ig
 exact @decide_eq_true_iff _ (Classical.propDecidable _)
theorem Pu{p:Prop}{b:Bool}(h:b=true↔p):b=Ig p:=by rw[Afp,Dn];exact h
def Vo(ts:List Tie):Prop:=∀ e∈ts.map ed,Con (trk ts 0) e.1 e.2.1
def AIy(ts:List Tie):Prop:=∀ t∈ts,t.2.2.2.1=false→Con (trk ts t.2.2.1) t.1 t.2.1
def Q7(N:Nat)(ts:List Tie):Prop:=∀ k:Nat,(k:Int)≤Hd N→∀ v:Nat,v<N→csz N (trk ts k) v≤max 1 (N/2 ^ k)
theorem AXA{N:Nat}(h1:1≤N)(hN:N≤64){l l':List Edge}{o o':List Int}(hc:LO (N:Int) l o)(hc':LO (N:Int) l' o')(hl:∀ e∈l,In (N:Int) e.1∧In (N:Int) e.2.1)(hl':∀ e∈l',In (N:Int) e.1∧In (N:Int) e.2.1):
  o=o'↔(∀ e∈l,Con l' e.1 e.2.1)∧(∀ e∈l',Con l e.1 e.2.1):=by
 constructor
 ·rintro rfl
  refine⟨fun e he => ?_,fun e he => ?_⟩
  ·obtain⟨i1,i2⟩:=hl e he
   exact(hc'.same _ _ i1 i2).1 ((hc.same _ _ i1 i2).2 (.edge e he))
  ·obtain⟨i1,i2⟩:=hl' e he
   exact(hc.same _ _ i1 i2).1 ((hc'.same _ _ i1 i2).2 (.edge e he))
 ·rintro⟨q1,q2⟩
  exact LO.unique h1 hN hc (LO.congr (fun a b=>⟨fun c=>c.cut q2,fun c=>c.cut q1⟩) hc')
noncomputable def AQI(ts:List Tie)(t:Tie):Bool := !t.2.2.2.1 && !ED (trk ts t.2.2.1) t.1 t.2.1
theorem AcH(ts:List Tie):(!ts.any (AQI ts))=Ig (AIy ts):=by
 refine Pu ?_
 rw[Afx,Agf]
 unfold AQI AIy
 constructor
 ·intro h t ht hf
  have:=h t ht
  rw[hf]at this
  rw[← BW]
  simpa using this
 ·intro h t ht
  cases hf:t.2.2.2.1
  ·have:=h t ht hf
   rw[← BW]at this
   simp[this]
  ·simp
theorem RG2.tie{N:Nat}{ts:List Tie}(h:RG2 N ts){t:Tie}(ht:t∈ts):In (N:Int) t.1∧In (N:Int) t.2.1∧t.1<t.2.1∧0≤t.2.2.1∧t.2.2.1≤Hd N:=by
 have h1:=((KI N ts).1 h.oks).1 t ht
 have h2:=h.inE (ed t) (Ae6.2 ⟨t,ht,rfl⟩)
 exact⟨h2.1,h2.2,h1.2.1,h1.2.2.2.1,h1.2.2.2.2⟩
end Go.Pev.Pl
end
section
namespace Go.Pev.Pl
open Tok
noncomputable def AIm(N:Nat)(ts:List Tie)(k:Nat):Bool:=(List.range N).any fun v=>decide (max 1 (N/2 ^ k)<csz N (trk ts k) (v:Int))
def Bf(N:Nat):Nat:=(Hd N).toNat
theorem EH{N:Nat}(hN:N≤64):Hd N=(Bf N:Int):=by
 have:=T5 hN
 unfold Bf
 omega
theorem AFL{N:Nat}(hN:N≤64):Bf N<64:=by
 have:((List.range 65).all fun k=>decide (Hd k<64))=true:=by kernel_rfl
 have h1:=Age (Ae9.1 this N (by simp;omega))
 have:=EH hN
 omega
theorem AbB{N:Nat}(hN:N≤64)(ts:List Tie):(!(List.range (Bf N+1)).any (AIm N ts))=Ig (Q7 N ts):=by
 refine Pu ?_
 rw[Afx,Agf]
 unfold AIm Q7
 constructor
 ·intro h k hk v hv
  have h1:=h k (by rw[Afj];have:=EH hN;omega)
  rw[Ahs,Agf]at h1
  have:=h1 v (by simpa using hv)
  rw[AfP]at this
  omega
 ·intro h k hk
  rw[Afj]at hk
  rw[Ahs,Agf]
  intro v hv
  have:=h k (by rw[EH hN];omega) v (by simpa using hv)
  rw[AfP]
  omega
theorem NZ(N:Nat)(l:List Edge)(v:Int):csz N l v≤N:=by
 unfold csz
 have:=List.countP_le_length (p:=fun(w:Nat)=>ED l v (w:Int)) (l:=List.range N)
 rw[AfG]at this
 exact this
theorem AXT(n:Nat)(h:n<18446744073709551616):IntKind.wrap .u64 (n:Int)=(n:Int):=IntWalk.u64_in _ (by omega)
theorem RG2.snd{N:Nat}{ts:List Tie}(h:RG2 N ts)(hs:Vo ts∧AIy ts∧Q7 N ts):Snd N (Bf N:Int) ts:=by
 refine⟨fun x hx => ?_,fun x hx=>AaE (h.inE _ (Ae6.2 ⟨x,hx,rfl⟩)),h.fo0,hs.2.1,fun k hk v hv=>hs.2.2 k (by rw[EH h.hN];exact hk) v hv⟩
 rw[← EH h.hN]
 exact(h.tie hx).2.2.2
theorem Snd.parts{N:Nat}{ts:List Tie}(h:RG2 N ts)(hs:Snd N (Bf N:Int) ts):Vo ts∧AIy ts∧Q7 N ts:=by
 refine⟨fun e he=>(hs.span _ _).1 (.edge e he),hs.lie,fun k hk v hv=>hs.halv k (by rw[← EH h.hN];exact hk) v hv⟩
end Go.Pev.Pl
end
section
namespace Go.Pev.Pl
open Tok
theorem AbV{N:Nat}(hN:N≤64):N/2 ^ Bf N≤1:=by
 have:((List.range 65).all fun k=>decide (k/2 ^ Bf k≤1))=true:=by kernel_rfl
 exact Age (Ae9.1 this N (by simp;omega))
theorem RG2.below{N:Nat}{ts:List Tie}(h:RG2 N ts)(hs:Snd N (Bf N:Int) ts){t:Tie}(ht:t∈ts):t.2.2.1<(Bf N:Int):=
 hs.below (AbV h.hN) ht (by have:=(h.tie ht).2.2.1;omega)
end Go.Pev.Pl
end
section
namespace Go.Pev.Pl
open Tok
noncomputable def EX(N:Nat)(l:List Edge)(v:Int):List Int:=((List.range N).filter fun(w:Nat)=>ED l v (w:Int)).map fun(w:Nat)=>(w:Int)
theorem Hu(N:Nat)(l:List Edge)(v:Int):(EX N l v).length=csz N l v:=by
 unfold EX csz
 rw[AfV,List.countP_eq_length_filter]
theorem Zv{N:Nat}{l:List Edge}{v x:Int}:x∈EX N l v↔(0≤x∧x<(N:Int))∧Con l v x:=by
 unfold EX
 simp only[Ae6,AfW,Afj,BW]
 constructor
 ·rintro⟨w,⟨h1,h2⟩,rfl⟩
  exact⟨by omega,h2⟩
 ·rintro⟨⟨h1,h2⟩,h3⟩
  obtain⟨w,rfl⟩:=Aeu h1
  exact⟨w,⟨by omega,h3⟩,rfl⟩
theorem EA{N:Nat}(h1:1≤N)(hN:N≤64)(ts:List Tie)(ht:ts.length≤400)(hin:∀ e∈ts.map ed,In (N:Int) e.1∧In (N:Int) e.2.1)(v:Nat)(hv:v<N)(k:Int):Fp (((N:Int),(ts,())),(v:Int),k,())=some (EX N (trk ts k) (v:Int),()):=by
 obtain⟨o,e1,c1⟩:=DF (N:Int) (trk ts k) ⟨by omega,by omega⟩ (by have:=ASe ts k;omega) (fun e he=>hin e (AFD ts k e he))
 have ho:o.length=N:=by have:=c1.len;omega
 have hi:∀ k:Nat,k<N→In (N:Int) (k:Int):=fun k hk=>AaD h1 hN ⟨by omega,by omega⟩
 have hg:∀ k:Nat,o.getD k 0=cl o (k:Int):=fun k=>by unfold cl;rw[Afe]
 rw[QI,Ik]
 simp only[Mu (N:Int) ts ht,e1]
 have e:=Cq (step:=Cz) (fun i (a:List Int)=>((v:Int),(N:Int),ts,o,a,(i:Int),())) (List.range N) (fun(w:Nat) a=>.inl (if ED (trk ts k) (v:Int) (w:Int)=true then a++[(w:Int)]else a)) (fun a=>.inl (a,())) (fun i a=>a.length≤i) (by simp;omega)
  (fun i x a hx0 hx ha=>by
   refine⟨fun m' h' => ?_,fun r h'=>(by cases h')⟩
   cases h'
   have:=Cc hx
   subst this
   rw[AfG]at hx0
   constructor
   ·rw[Cz,AI,Aej hx0]
    simp only[CW 0 (show x<o.length by omega),CW 0 (show v<o.length by omega),Ea,Ak]
    rw[BE (by simp only[AK,Aet,Ae4];omega),AG (by omega)]
    have:decide (o.getD x 0=o.getD v 0)=ED (trk ts k) (v:Int) (x:Int):=by
     rw[Afp,AfP,BW,hg,hg,c1.same _ _ (hi x hx0) (hi v hv)]
     exact⟨fun c=>c.symm,fun c=>c.symm⟩
    rw[this]
    cases ED (trk ts k) (v:Int) (x:Int)<;>simp[A5]
   ·split
    ·rw[Aes];simp;omega
    ·omega)
  (fun a _=>by rw[Cz,AfG,AI,Aei (by omega)]) [] (Aew _)
 have e':AR Cz many ((v:Int),(N:Int),ts,o,[],(0:Int),())=_:=e
 simp only[e']
 rw[BL (fun(w:Nat) (a:List Int)=>if ED (trk ts k) (v:Int) (w:Int)=true then a++[(w:Int)]else a),KZ (fun w:Nat=>ED (trk ts k) (v:Int) (w:Int)=true) (fun w:Nat=>(w:Int))]
 unfold EX
 simp
theorem NU(l:List Int)(x:Int)(hs:l.length<1073741824):MN (l,x,())=some (decide (x∈l),()):=by
 rw[AaS,AHt]
 have e:=Fb (step:=MM) (fun i=>(l,x,(i:Int),())) l (fun y=>decide (y=x)) (fun _=>.inl (true,())) (.inr (.inl ())) (by omega)
  (fun i y hi hy=>by
   rw[MM,AK,AI,Aej hi]
   simp only[Ab hy,Ak]
   rw[AG (by omega)]
   by_cases h:y=x<;>simp[h])
  (by rw[MM,AK,AI,Aei (by omega)])
 have e':AR MM many (l,x,(0:Int),())=_:=e
 simp only[e']
 rw[AIt]
 by_cases h:x∈l
 ·simp[h]
 ·simp[h]
theorem QT(n:Int)(ts:List Tie)(v:Int):AMS ((n,(ts,())),v,())=some (decide (0≤v∧v<n),()):=by
 rw[Ack,ARG,Ap]
 by_cases h:0≤v
 ·rw[Aej h,Am]
  by_cases h2:v<n
  ·rw[Aej h2,Aej (show 0≤v∧v<n from⟨h,h2⟩)]
  ·rw[Aei h2,Aei (fun q:0≤v∧v<n=>h2 q.2)]
 ·rw[Aei h,Aei (fun q:0≤v∧v<n=>h q.1)]
noncomputable def BO(N:Nat)(ts:List Tie)(u v k:Int):List Int:=
 if Ig (RG2 N ts)=true then
  if ED (trk ts k) u v=true then []else
  if csz N (trk ts k) u<csz N (trk ts k) v∨(csz N (trk ts k) u=csz N (trk ts k) v∧(EX N (trk ts k) u).headD 0<(EX N (trk ts k) v).headD 0)then EX N (trk ts k) u else EX N (trk ts k) v
 else []
theorem ADg(N:Nat)(ts:List Tie)(u v k:Int):(BO N ts u v k).length≤N:=by
 unfold BO
 have h1:=NZ N (trk ts k) u
 have h2:=NZ N (trk ts k) v
 split
 ·split
  ·simp
  ·split
   ·rw[Hu];exact h1
   ·rw[Hu];exact h2
 ·simp
theorem NI{N:Nat}{l:List Edge}{v:Nat}(hv:v<N):idx (EX N l (v:Int)) (0:Int)=some ((EX N l (v:Int)).headD 0):=by
 have:(v:Int)∈EX N l (v:Int):=Zv.2 ⟨⟨by omega,by omega⟩,.refl _⟩
 cases hm:EX N l (v:Int)with
 |nil=>rw[hm]at this;cases this
 |cons a b=>rw[FA];rfl
theorem YD{N:Nat}(hN:N≤64)(ts:List Tie)(ht:ts.length≤400)(u v:Nat)(hu:u<N)(hv:v<N)(k:Int):∃ e,AFs (((N:Int),(ts,())),(u:Int),(v:Int),k,())=some (BO N ts u v k,e,()):=by
 rw[Rw,LY]
 rcases JS (N:Int) ts (by omega)with⟨r,_⟩|⟨N',hn,h⟩
 ·have:Ig (RG2 N ts)=false:=by
   rw[← Ahs,Dn]
   intro h
   rw[h.r21]at r;cases r
  refine⟨1,?_⟩
  unfold BO
  rw[this]
  simp only[r,AfC]
  rfl
 ·have:N'=N:=by omega
  subst this
  have hu1:=EA h.h1 h.hN ts ht h.inE u hu k
  have hv1:=EA h.h1 h.hN ts ht h.inE v hv k
  have l1:=Hu N' (trk ts k) (u:Int)
  have l2:=Hu N' (trk ts k) (v:Int)
  have b1:=NZ N' (trk ts k) (u:Int)
  have hh:=NU (EX N' (trk ts k) (u:Int)) (v:Int) (by omega)
  have hd:decide ((v:Int)∈EX N' (trk ts k) (u:Int))=ED (trk ts k) (u:Int) (v:Int):=by
   rw[Afp,AfP,BW,Zv]
   exact⟨fun q=>q.2,fun q=>⟨⟨by omega,by omega⟩,q⟩⟩
  rw[hd]at hh
  unfold BO
  rw[(Dn _).2 h,Aez rfl]
  simp only[h.r21,Aer,QT,hu1,hv1,hh]
  rw[Aej (show 0≤(u:Int)∧(u:Int)<(N':Int) by omega),Aej (show 0≤(v:Int)∧(v:Int)<(N':Int) by omega)]
  simp only[Aer]
  cases hc:ED (trk ts k) (u:Int) (v:Int)
  ·simp only[Aey,Ae0,AK,l1,l2,AI,QX]
   by_cases q1:csz N' (trk ts k) (u:Int)<csz N' (trk ts k) (v:Int)
   ·rw[Aej q1,Aez (.inl q1)]
    exact⟨0,rfl⟩
   ·rw[Aei q1]
    by_cases q2:csz N' (trk ts k) (u:Int)=csz N' (trk ts k) (v:Int)
    ·rw[Aej q2]
     have hg:∀ l:List Int,AL l 0 0=l.headD 0:=fun l=>by cases l<;>rfl
     simp only[NI hu,NI hv,hg,Am]
     by_cases q3:(EX N' (trk ts k) (u:Int)).headD 0<(EX N' (trk ts k) (v:Int)).headD 0
     ·rw[Aej q3,Aez (.inr ⟨q2,q3⟩)]
      exact⟨0,rfl⟩
     ·rw[Aei q3,Aev (fun q=>by rcases q with q|q;exact q1 q;exact q3 q.2)]
      exact⟨0,rfl⟩
    ·rw[Aei q2,Aev (fun q=>by rcases q with q|q;exact q1 q;exact q2 q.1)]
     exact⟨0,rfl⟩
  ·simp only[AfE]
   exact⟨5,rfl⟩
end Go.Pev.Pl
end
section
namespace Go.Pev.Pl
open Tok
abbrev W23:=Int×Bool×Bool×Int×Int×Int×Int×Int×Int×Bool
theorem PW{α:Type}{A R:List α}{x:α}{i:Nat}(h:A.length=i):(A++x::R)[i]? = some x:=by
 rw[Afa (by omega),h,Aga];rfl
theorem J1{α:Type}{A R:List α}{x y:α}{i:Nat}(h:A.length=i):An (A++x::R) (AE (i:Int)) y=A++y::R:=by
 rw[AAy,List.set_append_right _ _ (by omega),h,Aga];rfl
noncomputable def AX(s:List Int)(w:Int):Bool:=decide (w∈s)
def FY(S:Int→Bool)(i:Int)(ts:List Tie):Nat:=ts.countP fun t=>t.2.2.2.1&&(decide (t.2.2.1=i)&&both S t)
theorem ALw(w:W23)(wt wf:Bool)(bu bv top:Int)(i:Nat)(hi:i<64)(s:List Int)(hs:s.length≤64)(n:Int)(b:Bool)(O:List Tie)(hO:O.length≤400)(r:Nat)(hr:r<1073741824):
  AR JW many (w.1,w.2.1,w.2.2.1,w.2.2.2.1,w.2.2.2.2.1,w.2.2.2.2.2.1,w.2.2.2.2.2.2.1,w.2.2.2.2.2.2.2.1,w.2.2.2.2.2.2.2.2.1,w.2.2.2.2.2.2.2.2.2,n,O,wt,wf,bu,bv,(r:Int),top,(i:Int),s,(0:Int),b,()) =
  some (.inl (w.1,w.2.1,w.2.2.1,w.2.2.2.1,w.2.2.2.2.1,w.2.2.2.2.2.1,w.2.2.2.2.2.2.1,w.2.2.2.2.2.2.2.1,w.2.2.2.2.2.2.2.2.1,w.2.2.2.2.2.2.2.2.2,n,O.map (rT (AX s) top i),wt,wf,bu,bv,((r+FY (AX s) i O:Nat):Int),top,(i:Int),s,b,())):=by
 obtain⟨w0,w1,w2,w3,w4,w5,w6,w7,w8,w9⟩:=w
 simp only
 have key:∀ (R A:List Tie) (j cnt q:Nat),A.length=j→A.length+R.length=O.length→R.length<cnt→q+R.length<2147483648 →
   AP JW cnt (w0,w1,w2,w3,w4,w5,w6,w7,w8,w9,n,A++R,wt,wf,bu,bv,(q:Int),top,(i:Int),s,(j:Int),b,()) =
   some (.inl (w0,w1,w2,w3,w4,w5,w6,w7,w8,w9,n,A++R.map (rT (AX s) top i),wt,wf,bu,bv,((q+FY (AX s) i R:Nat):Int),top,(i:Int),s,b,())):=by
  intro R
  induction R with
  |nil=>
   intro A j cnt q hA hl hc hq
   obtain⟨cnt,rfl⟩:∃ c,cnt=c+1:=⟨cnt-1,by omega⟩
   rw[AP,JW,AK,AI,Aei (by simp;omega)]
   simp[FY]
  |cons x R ih=>
   intro A j cnt q hA hl hc hq
   obtain⟨cnt,rfl⟩:∃ c,cnt=c+1:=⟨cnt-1,by omega⟩
   rw[Aet]at hl hc hq
   have hg:=PW (R:=R) (x:=x) hA
   have next:∀ (y:Tie) (q':Nat),q'+R.length<2147483648→rT (AX s) top i x=y→q'+FY (AX s) i R=q+FY (AX s) i (x::R) →
     AP JW cnt (w0,w1,w2,w3,w4,w5,w6,w7,w8,w9,n,A++y::R,wt,wf,bu,bv,(q':Int),top,(i:Int),s,((j+1:Nat):Int),b,()) =
     some (.inl (w0,w1,w2,w3,w4,w5,w6,w7,w8,w9,n,A++(x::R).map (rT (AX s) top i),wt,wf,bu,bv,((q+FY (AX s) i (x::R):Nat):Int),top,(i:Int),s,b,())):=by
    intro y q' hq' hy hcnt
    have:=ih (A++[y]) (j+1) cnt q' (by simp[hA]) (by simp;omega) (by omega) hq'
    rw[AfQ]at this
    rw[Af2]at this
    rw[this,hcnt,Ae7,hy,AfQ]
    rfl
   have hcc:FY (AX s) i (x::R)=FY (AX s) i R+if(x.2.2.2.1&&(decide (x.2.2.1=(i:Int))&&both (AX s) x))=true then 1 else 0:=by
    unfold FY
    rw[Agt]
   rw[AP,JW,AK,AI,Aej (by simp;omega)]
   simp only[Ab hg,CH hg]
   rw[AG (show j+1<9223372036854775808 by omega),AG (show q+1<9223372036854775808 by omega),Ak]
   simp only[NU s _ (show s.length<1073741824 by omega)]
   cases h4:x.2.2.2.1
   ·simp only[]
    refine next x q (by omega) ?_ ?_
    ·exact En h4
    ·rw[hcc,h4];simp
   ·by_cases h3:x.2.2.1=(i:Int)
    ·rw[Aej h3]
     simp only[]
     by_cases h1:x.1∈s
     ·rw[Aej h1]
      simp only[]
      by_cases h2:x.2.1∈s
      ·rw[Aej h2]
       simp only[]
       have hb:both (AX s) x=true:=by unfold both AX;rw[Aej h1,Aej h2];rfl
       rw[J1 hA,Im,AG (show i+1<9223372036854775808 by omega)]
       refine next _ (q+1) (by omega) ?_ ?_
       ·unfold rT
        rw[Aez ⟨h4,h3,hb⟩]
        unfold E3
        rw[h3,h4]
        rfl
       ·rw[hcc,h4,Aej h3,hb];simp;omega
      ·rw[Aei h2]
       simp only[]
       have hb:both (AX s) x=false:=by unfold both AX;rw[Aei h2,Ag3]
       refine next x q (by omega) ?_ ?_
       ·unfold rT
        rw[Aev (fun hh=>by rw[hb]at hh;exact absurd hh.2.2 (by simp))]
       ·rw[hcc,hb];simp
     ·rw[Aei h1]
      simp only[]
      have hb:both (AX s) x=false:=by unfold both AX;rw[Aei h1,AgF]
      refine next x q (by omega) ?_ ?_
      ·unfold rT
       rw[Aev (fun hh=>by rw[hb]at hh;exact absurd hh.2.2 (by simp))]
      ·rw[hcc,hb];simp
    ·rw[Aei h3]
     simp only[]
     refine next x q (by omega) ?_ ?_
     ·unfold rT
      rw[Aev (fun hh=>h3 hh.2.1)]
     ·rw[hcc,Aei h3];simp
 have:=key O [] 0 many r rfl (by simp) (by simp only[many];omega) (by omega)
 rw[Aa]
 exact this
theorem AG2(w:W23)(wt wf:Bool)(bu bv top:Int)(i:Nat)(hi:i<64)(s:List Int)(hs:s.length≤64)(n:Int)(b:Bool)(O:List Tie)(hO:O.length≤400)(r:Nat)(hr:r<1073741824):
  AR JV many (w.1,w.2.1,w.2.2.1,w.2.2.2.1,w.2.2.2.2.1,w.2.2.2.2.2.1,w.2.2.2.2.2.2.1,w.2.2.2.2.2.2.2.1,w.2.2.2.2.2.2.2.2.1,w.2.2.2.2.2.2.2.2.2,n,O,wt,wf,bu,bv,(r:Int),top,(i:Int),s,(0:Int),b,()) =
  some (match(Aq (AX s) top i O).2.2 with
   |some e=>.inl (n,(Aq (AX s) top i O).1,wt,true,e.1,e.2.1,((r+(Aq (AX s) top i O).2.1:Nat):Int),(0:Int),())
   |none=>.inr (.inl (w.1,w.2.1,w.2.2.1,w.2.2.2.1,w.2.2.2.2.1,w.2.2.2.2.2.1,w.2.2.2.2.2.2.1,w.2.2.2.2.2.2.2.1,w.2.2.2.2.2.2.2.2.1,w.2.2.2.2.2.2.2.2.2,n,(Aq (AX s) top i O).1,wt,wf,bu,bv,((r+(Aq (AX s) top i O).2.1:Nat):Int),top,(i:Int),b,()))):=by
 obtain⟨w0,w1,w2,w3,w4,w5,w6,w7,w8,w9⟩:=w
 simp only
 have key:∀ (R A:List Tie) (j cnt q:Nat),A.length=j→A.length+R.length=O.length→R.length<cnt→q+R.length<2147483648 →
   AP JV cnt (w0,w1,w2,w3,w4,w5,w6,w7,w8,w9,n,A++R,wt,wf,bu,bv,(q:Int),top,(i:Int),s,(j:Int),b,()) =
   some (match(Aq (AX s) top i R).2.2 with
    |some e=>.inl (n,A++(Aq (AX s) top i R).1,wt,true,e.1,e.2.1,((q+(Aq (AX s) top i R).2.1:Nat):Int),(0:Int),())
    |none=>.inr (.inl (w0,w1,w2,w3,w4,w5,w6,w7,w8,w9,n,A++(Aq (AX s) top i R).1,wt,wf,bu,bv,((q+(Aq (AX s) top i R).2.1:Nat):Int),top,(i:Int),b,()))):=by
  intro R
  induction R with
  |nil=>
   intro A j cnt q hA hl hc hq
   obtain⟨cnt,rfl⟩:∃ c,cnt=c+1:=⟨cnt-1,by omega⟩
   rw[AP,JV,AK,AI,Aei (by simp;omega)]
   rfl
  |cons x R ih=>
   intro A j cnt q hA hl hc hq
   obtain⟨cnt,rfl⟩:∃ c,cnt=c+1:=⟨cnt-1,by omega⟩
   rw[Aet]at hl hc hq
   have hg:=PW (R:=R) (x:=x) hA
   have next:∀ (y:Tie) (q':Nat),q'+R.length<2147483648→Aq (AX s) top i (x::R)=(y::(Aq (AX s) top i R).1,(Aq (AX s) top i R).2.1+(q'-q),(Aq (AX s) top i R).2.2)→q≤q' →
     AP JV cnt (w0,w1,w2,w3,w4,w5,w6,w7,w8,w9,n,A++y::R,wt,wf,bu,bv,(q':Int),top,(i:Int),s,((j+1:Nat):Int),b,()) =
     some (match(Aq (AX s) top i (x::R)).2.2 with
     |some e=>.inl (n,A++(Aq (AX s) top i (x::R)).1,wt,true,e.1,e.2.1,((q+(Aq (AX s) top i (x::R)).2.1:Nat):Int),(0:Int),())
     |none=>.inr (.inl (w0,w1,w2,w3,w4,w5,w6,w7,w8,w9,n,A++(Aq (AX s) top i (x::R)).1,wt,wf,bu,bv,((q+(Aq (AX s) top i (x::R)).2.1:Nat):Int),top,(i:Int),b,()))):=by
    intro y q' hq' hy hqq
    have:=ih (A++[y]) (j+1) cnt q' (by simp[hA]) (by simp;omega) (by omega) hq'
    rw[AfQ,Af2]at this
    rw[this,hy]
    have e1:A++[y]++(Aq (AX s) top i R).1=A++y::(Aq (AX s) top i R).1:=by simp
    have e2:q'+(Aq (AX s) top i R).2.1=q+((Aq (AX s) top i R).2.1+(q'-q)):=by omega
    rw[e1,e2]
   rw[AP,JV,AK,AI,Aej (by simp;omega)]
   simp only[Ab hg,CH hg]
   rw[AG (show j+1<9223372036854775808 by omega),AG (show q+1<9223372036854775808 by omega),Ak]
   simp only[NU s _ (show s.length<1073741824 by omega)]
   have skip:(x.2.2.2.1=true∨x.2.2.1≠(i:Int))→Aq (AX s) top i (x::R)=(x::(Aq (AX s) top i R).1,(Aq (AX s) top i R).2.1+(q-q),(Aq (AX s) top i R).2.2):=fun h=>by
    rw[Aq,Aez h,Aga];rfl
   cases h4:x.2.2.2.1
   ·simp only[]
    by_cases h3:x.2.2.1=(i:Int)
    ·rw[Aej h3]
     simp only[Aer]
     have hn:¬ (x.2.2.2.1=true∨x.2.2.1≠(i:Int)):=by rw[h4];simp[h3]
     have found:∀ (hne:DZ (AX s) x) (hnb:both (AX s) x=false),Aq (AX s) top i (x::R)=(Cg x::R,0,some (ed x)):=fun hne hnb=>by
      rw[Aq,Aev hn,Aev (by rw[hnb];simp),Aez hne]
     by_cases h1:x.1∈s
     ·rw[Aej h1]
      simp only[]
      by_cases h2:x.2.1∈s
      ·rw[Aej h2]
       simp only[]
       have hb:both (AX s) x=true:=by unfold both AX;rw[Aej h1,Aej h2];rfl
       rw[J1 hA,Im,AG (show i+1<9223372036854775808 by omega)]
       refine next _ (q+1) (by omega) ?_ (by omega)
       rw[Aq,Aev hn,Aez hb]
       unfold E3
       rw[h3,h4,show q+1-q=1 by omega]
       rfl
      ·rw[Aei h2]
       simp only[]
       have hb:both (AX s) x=false:=by unfold both AX;rw[Aei h2,Ag3]
       have hne:DZ (AX s) x:=by unfold DZ AX;rw[Aej h1,Aei h2];simp
       rw[J1 hA,found hne hb]
       simp only[]
       unfold Cg ed
       rfl
     ·rw[Aei h1]
      simp only[]
      by_cases h2:x.2.1∈s
      ·rw[Aej h2]
       simp only[]
       have hb:both (AX s) x=false:=by unfold both AX;rw[Aei h1,AgF]
       have hne:DZ (AX s) x:=by unfold DZ AX;rw[Aei h1,Aej h2];simp
       rw[J1 hA,found hne hb]
       simp only[]
       unfold Cg ed
       rfl
      ·rw[Aei h2]
       simp only[]
       refine next x q (by omega) ?_ (Aew _)
       have hb:both (AX s) x=false:=by unfold both AX;rw[Aei h1,AgF]
       have hne:¬ DZ (AX s) x:=by unfold DZ AX;rw[Aei h1,Aei h2];simp
       rw[Aq,Aev hn,Aev (by rw[hb];simp),Aev hne,Aga]
       rfl
    ·rw[Aei h3]
     simp only[AfC]
     exact next x q (by omega) (skip (.inr h3)) (Aew _)
   ·simp only[]
    exact next x q (by omega) (skip (.inl h4)) (Aew _)
 have:=key O [] 0 many r rfl (by simp) (by simp only[many];omega) (by omega)
 rw[Aa]
 exact this
end Go.Pev.Pl
end
section
namespace Go.Pev.Pl
open Tok
noncomputable def Gq(N u v:Nat)(top:Int):Nat→List Tie→Nat→List Tie×Option Edge×Nat
 |0,O,r=>(O,none,r)
 |i+1,O,r=>match(Aq (AX (BO N O u v i)) top i (O.map (rT (AX (BO N O u v i)) top i))).2.2 with
  |some e=>((Aq (AX (BO N O u v i)) top i (O.map (rT (AX (BO N O u v i)) top i))).1,some e,r+FY (AX (BO N O u v i)) i O+(Aq (AX (BO N O u v i)) top i (O.map (rT (AX (BO N O u v i)) top i))).2.1)
  |none=>Gq N u v top i (Aq (AX (BO N O u v i)) top i (O.map (rT (AX (BO N O u v i)) top i))).1 (r+FY (AX (BO N O u v i)) i O+(Aq (AX (BO N O u v i)) top i (O.map (rT (AX (BO N O u v i)) top i))).2.1)
theorem M7(S:Int→Bool)(top i:Int):∀ ts:List Tie,(Aq S top i ts).1.length=ts.length∧(Aq S top i ts).2.1≤ts.length:=by
 intro ts
 induction ts with
 |nil=>exact⟨rfl,Aew _⟩
 |cons t ts ih=>
  rw[Aq]
  split
  ·exact⟨by simp[ih.1],by have:=ih.2;simp;omega⟩
  ·split
   ·exact⟨by simp[ih.1],by have:=ih.2;simp;omega⟩
   ·split
    ·exact⟨by simp,by simp⟩
    ·exact⟨by simp[ih.1],by have:=ih.2;simp;omega⟩
theorem AZC(S:Int→Bool)(top i:Int):∀ ts:List Tie,(Aq S top i ts).1.map ed=ts.map ed:=by
 intro ts
 induction ts with
 |nil=>rfl
 |cons t ts ih=>
  rw[Aq]
  split
  ·rw[Ae7,Ae7,ih]
  ·split
   ·rw[Ae7,Ae7,ih];rfl
   ·split
    ·rw[Ae7,Ae7];rfl
    ·rw[Ae7,Ae7,ih]
theorem AIQ(S:Int→Bool)(i:Int)(ts:List Tie):FY S i ts≤ts.length:=List.countP_le_length
theorem AG1{N:Nat}(hN:N≤64)(u v:Nat)(hu:u<N)(hv:v<N)(top w8:Int):
  ∀ (m:Nat) (O:List Tie) (r cnt:Nat),m≤64→O.length≤400→r+1000*m<1073741824→m<cnt →
  AP Ht cnt ((0:Int),false,false,(0:Int),(0:Int),(0:Int),(u:Int),(v:Int),w8,true,(N:Int),O,true,false,(0:Int),(0:Int),(r:Int),top,(m:Int)-1,()) =
  some (match(Gq N u v top m O r).2.1 with
   |some e=>.inl ((N:Int),(Gq N u v top m O r).1,true,true,e.1,e.2.1,((Gq N u v top m O r).2.2:Int),(0:Int),())
   |none=>.inr (.inl ((0:Int),false,false,(0:Int),(0:Int),(0:Int),(N:Int),(Gq N u v top m O r).1,true,false,(0:Int),(0:Int),((Gq N u v top m O r).2.2:Int),()))):=by
 intro m
 induction m with
 |zero=>
  intro O r cnt hm hO hr hc
  obtain⟨cnt,rfl⟩:∃ c,cnt=c+1:=⟨cnt-1,by omega⟩
  rw[AP,Ht,Ap,Aei (by omega)]
  rfl
 |succ m ih=>
  intro O r cnt hm hO hr hc
  obtain⟨cnt,rfl⟩:∃ c,cnt=c+1:=⟨cnt-1,by omega⟩
  have em:((m+1:Nat):Int)-1=(m:Int):=by omega
  obtain⟨e,hs⟩:=YD hN O hO u v hu hv (m:Int)
  have hsl:=ADg N O u v (m:Int)
  rw[em,AP,Ht,Ap,Aej (show(0:Int)≤(m:Int) by omega)]
  simp only[hs]
  have ht:=ALw ((0:Int),false,false,(0:Int),(0:Int),(0:Int),(u:Int),(v:Int),w8,true) true false 0 0 top m (by omega) (BO N O u v m) (by omega) (N:Int) true O hO r (by omega)
  simp only at ht
  rw[Gq]
  generalize hS:BO N O u v (m:Int)=s at *
  have hcl:=AIQ (AX s) (m:Int) O
  have hml:(O.map (rT (AX s) top m)).length≤400:=by rw[AfV];exact hO
  have ho:=AG2 ((0:Int),false,false,(0:Int),(0:Int),(0:Int),(u:Int),(v:Int),w8,true) true false 0 0 top m (by omega) s (by omega) (N:Int) true (O.map (rT (AX s) top m)) hml (r+FY (AX s) m O) (by omega)
  simp only at ho
  simp only[ht,ho]
  have hpl:=M7 (AX s) top m (O.map (rT (AX s) top m))
  cases hp:(Aq (AX s) top m (O.map (rT (AX s) top m))).2.2 with
  |some e=>rfl
  |none=>
   simp only[]
   rw[Aj (by omega)]
   exact ih _ _ cnt (by omega) (by omega) (by omega) (by omega)
def Xa(tree:Bool)(f:Option Edge)(r:Nat):Bool×Bool×Edge×Int×Unit:=(tree,f.isSome,((f.getD (0,0,())).1,((f.getD (0,0,())).2.1,())),(r:Int),())
def AJI:Bool×Bool×Edge×Int×Unit:=(false,(false,(((0:Int),((0:Int),())),((0:Int),()))))
noncomputable def B0(N:Nat)(ts:List Tie)(p:Nat)(t:Tie):List Tie×Option Edge×Nat:=
 if t.2.2.2.1=true then Gq N t.1.toNat t.2.1.toNat (Bf N:Int) (t.2.2.1.toNat+1) (ts.take p++ts.drop (p+1)) 0 else(ts.take p++ts.drop (p+1),none,0)
theorem NF{N:Nat}{ts:List Tie}(h:RG2 N ts)(u v:Int):
  (¬ ((0≤u∧u<(N:Int))∧(0≤v∧v<(N:Int)))∧Zq (((N:Int),(ts,())),u,v,())=some ((N:Int),ts,AJI,10,())) ∨
  (((0≤u∧u<(N:Int))∧(0≤v∧v<(N:Int)))∧ts.any (Bg u v)=false∧Zq (((N:Int),(ts,())),u,v,())=some ((N:Int),ts,AJI,6,())) ∨
  (((0≤u∧u<(N:Int))∧(0≤v∧v<(N:Int)))∧ts.any (Bg u v)=true∧∃ t,ts[ts.findIdx (Bg u v)]? = some t ∧
   Zq (((N:Int),(ts,())),u,v,())=some ((N:Int),(B0 N ts (ts.findIdx (Bg u v)) t).1,Xa t.2.2.2.1 (B0 N ts (ts.findIdx (Bg u v)) t).2.1 (B0 N ts (ts.findIdx (Bg u v)) t).2.2,0,())):=by
 have ht:=h.ht
 have hN:=h.hN
 rw[ALx,XD]
 simp only[h.r21,Aer,QT]
 by_cases hu:0≤u∧u<(N:Int)
 ·rw[Aej hu]
  by_cases hv:0≤v∧v<(N:Int)
  ·right
   rw[Aej hv]
   simp only[Aer,ARa h]
   cases ha:ts.any (Bg u v)
   ·left
    refine⟨⟨hu,hv⟩,rfl,?_⟩
    simp only[Aey,Ae0,Am]
    rw[Aej (by omega)]
    rfl
   ·right
    have hk:ts.findIdx (Bg u v)<ts.length:=Af9.2 (Afq.1 ha)
    have hx:ts[ts.findIdx (Bg u v)]? = some ts[ts.findIdx (Bg u v)]:=Aeo hk
    refine⟨⟨hu,hv⟩,rfl,_,hx,?_⟩
    have hm:ts[ts.findIdx (Bg u v)]∈ts:=Afr hk
    generalize ts[ts.findIdx (Bg u v)]=t at *
    generalize ts.findIdx (Bg u v)=p at *
    obtain⟨i1,i2,hlt,l1,l2⟩:=h.tie hm
    obtain⟨a,ha'⟩:=Aeu i1.2.2.1
    obtain⟨b,hb'⟩:=Aeu i2.2.2.1
    obtain⟨lv,hlv⟩:=Aeu l1
    have haN:a<N:=by have:=i1.2.2.2;omega
    have hbN:b<N:=by have:=i2.2.2.2;omega
    have hT:=EH hN
    have hT64:=AFL hN
    have s1:B5 ts (0:Int) (p:Int)=some (ts.take p):=J5 (by omega)
    have s2:B5 ts ((p+1:Nat):Int) (ts.length:Int)=some (ts.drop (p+1)):=D7 (by omega)
    have hfit1:fits (AM ([]:List Tie)+AM (ts.take p))=true:=BE (by simp only[AK,Ae4,Ae3];omega)
    have hfit2:fits (AM (ts.take p)+AM (ts.drop (p+1)))=true:=BE (by simp only[AK,Ae3,AfI];omega)
    have hd0:A5 ([]:List Tie) (ts.take p)=ts.take p:=by simp[A5]
    simp only[AfE,Am]
    rw[Aei (show ¬ (p:Int)<0 by omega)]
    simp only[Ab hx,s1,hfit1,hd0]
    rw[AG (by omega)]
    simp only[AK]at hfit2
    simp only[AK,s2,hfit2,Mx N hN,hT,Co]
    unfold B0
    cases h4:t.2.2.2.1
    ·obtain⟨m,hmany⟩:∃ m,many=m+1:=⟨many-1,by simp only[many]⟩
     have:AR Ht many ((0:Int),false,false,(0:Int),(0:Int),(0:Int),t.1,t.2.1,t.2.2.1,false,(N:Int),ts.take p++ts.drop (p+1),false,false,(0:Int),(0:Int),(0:Int),(Bf N:Int),t.2.2.1,()) =
       some (.inr (.inl ((0:Int),false,false,(0:Int),(0:Int),(0:Int),(N:Int),ts.take p++ts.drop (p+1),false,false,(0:Int),(0:Int),(0:Int),()))):=by
      rw[Aa,hmany,AP,Ht]
      cases ile (0:Int) t.2.2.1<;>rfl
     simp only[this]
     rfl
    ·simp only[AfE]
     have hlen:(ts.take p++ts.drop (p+1)).length≤400:=by rw[Aes,Ae3,AfI];omega
     have hs:=AG1 hN a b haN hbN (Bf N:Int) t.2.2.1 (lv+1) (ts.take p++ts.drop (p+1)) 0 many (by omega) hlen (by omega) (by simp only[many];omega)
     rw[← ha',← hb',show((lv+1:Nat):Int)-1=t.2.2.1 by omega]at hs
     have e2:t.1.toNat=a:=by omega
     have e3:t.2.1.toNat=b:=by omega
     have e4:t.2.2.1.toNat+1=lv+1:=by omega
     rw[e2,e3,e4]
     rw[← Aa]at hs
     have hs':AR Ht many ((0:Int),false,false,(0:Int),(0:Int),(0:Int),t.1,t.2.1,t.2.2.1,true,(N:Int),ts.take p++ts.drop (p+1),true,false,(0:Int),(0:Int),(0:Int),(Bf N:Int),t.2.2.1,())=_:=hs
     simp only[hs']
     cases (Gq N a b (Bf N:Int) (lv+1) (ts.take p++ts.drop (p+1)) 0).2.1 with
     |some e=>rfl
     |none=>rfl
  ·left
   rw[Aei hv]
   exact⟨fun q=>hv q.2,rfl⟩
 ·left
  rw[Aei hu]
  exact⟨fun q=>hu q.1,rfl⟩
end Go.Pev.Pl
end
section
namespace Go.Pev.Pl
open Tok
theorem AYQ{N:Nat}(h1:1≤N)(hN:N≤64){O:List Tie}(ht:O.length≤400)(hE:(O.map ed).Pairwise De)(hlt:∀ e∈O.map ed,e.1<e.2.1)(hin:∀ x∈O,InE N (ed x))(hl:∀ x∈O,0≤x.2.2.1∧x.2.2.1≤(Bf N:Int))(hfo:Fo N (trk O 0)):RG2 N O:=by
 have ho:oks N O:=by
  rw[KI]
  refine⟨fun t ht => ?_,?_⟩
  ·have a:=hlt (ed t) (Ae6.2 ⟨t,ht,rfl⟩)
   obtain⟨⟨b1,b2⟩,c1,c2⟩:=hin t ht
   have d:=hl t ht
   rw[← EH hN]at d
   exact⟨b1,a,c2,d.1,d.2⟩
  ·rw[AgD]at hE
   exact hE
 exact⟨h1,hN,ht,ho,by rw[AJY ho];exact hfo⟩
theorem RG2.edP{N:Nat}{ts:List Tie}(h:RG2 N ts):(ts.map ed).Pairwise De:=by
 rw[AgD]
 exact((KI N ts).1 h.oks).2
theorem RG2.AeY{N:Nat}{ts:List Tie}(h:RG2 N ts):∀ e∈ts.map ed,e.1<e.2.1:=by
 intro e he
 obtain⟨t,ht,rfl⟩:=Ae6.1 he
 exact(h.tie ht).2.2.1
theorem AFr{N:Nat}{O:List Tie}(h:RG2 N O){u v i:Nat}(hu:u<N)(hv:v<N)(hn:¬ Con (trk O i) (u:Int) (v:Int)):∃ c,Mk N ((u:Int),((v:Int),())) i O (AX (BO N O u v i)) c:=by
 unfold BO
 rw[(Dn _).2 h,Aez rfl,Aev (by rw[BW];exact hn)]
 have key:∀ c:Nat,c<N→∀ w:Nat,w<N→(AX (EX N (trk O i) (c:Int)) (w:Int)=true↔Con (trk O i) (c:Int) (w:Int)):=by
  intro c hc w hw
  unfold AX
  rw[AfP,Zv]
  exact⟨fun q=>q.2,fun q=>⟨⟨by omega,by omega⟩,q⟩⟩
 split
 ·rename_i q
  exact⟨u,hu,.inl rfl,key u hu,by show 2*_≤csz N (trk O i) (u:Int)+csz N (trk O i) (v:Int);omega⟩
 ·rename_i q
  exact⟨v,hv,.inr rfl,key v hv,by show 2*_≤csz N (trk O i) (u:Int)+csz N (trk O i) (v:Int);omega⟩
theorem AX5{N:Nat}(h1:1≤N)(hN:N≤64){u v:Nat}(hu:u<N)(hv:v<N):∀ (m:Nat) (O:List Tie) (r:Nat),m≤Bf N+1→O.length≤400→(O.map ed).Pairwise De→(∀ e∈O.map ed,e.1<e.2.1)→I3 N (Bf N:Int) ((u:Int),((v:Int),())) (m:Int) O →
  (Gq N u v (Bf N:Int) m O r).1.map ed=O.map ed∧Snd N (Bf N:Int) (Gq N u v (Bf N:Int) m O r).1 ∧
  ((Gq N u v (Bf N:Int) m O r).2.1=none→¬ Con (trk (Gq N u v (Bf N:Int) m O r).1 0) (u:Int) (v:Int)) ∧
  ((Gq N u v (Bf N:Int) m O r).2.1≠none→Con (trk (Gq N u v (Bf N:Int) m O r).1 0) (u:Int) (v:Int)):=by
 intro m
 induction m with
 |zero=>
  intro O r _ _ _ _ hG
  obtain⟨q1,q2⟩:=hG.end
  exact⟨rfl,q1,fun _=>q2,fun h=>absurd rfl h⟩
 |succ i ih=>
  intro O r hm hO hE hlt hG
  have hG':I3 N (Bf N:Int) ((u:Int),((v:Int),())) ((i:Int)+1) O:=hG
  have hit:(i:Int)≤(Bf N:Int):=by omega
  have hR:RG2 N O:=AYQ h1 hN hO hE hlt hG.ins hG.lvl (hG.fo.front (Pb hG.ins 0) (fun e he=>by rw[AfB]at he;subst he;exact hG.it))
  obtain⟨c,hL⟩:=AFr hR hu hv (i:=i) (hG'.apart i)
  rw[Gq]
  generalize AX (BO N O u v (i:Int))=S at *
  have hme:((O.map (rT S (Bf N:Int) i)).map ed)=O.map ed:=by
   rw[List.map_map]
   exact List.map_congr_left fun t _=>Ym S _ _ t
  have hpe:=AZC S (Bf N:Int) i (O.map (rT S (Bf N:Int) i))
  have hpl:=M7 S (Bf N:Int) i (O.map (rT S (Bf N:Int) i))
  rw[hme]at hpe
  cases hp:(Aq S (Bf N:Int) i (O.map (rT S (Bf N:Int) i))).2.2 with
  |none=>
   obtain⟨q1,q2⟩:=APp S (Bf N:Int) i _ hp
   have hN':=hG'.next hit hL q2
   rw[← q1]at hN'
   simp only[]
   have:=ih (Aq S (Bf N:Int) i (O.map (rT S (Bf N:Int) i))).1 (r+FY S i O+(Aq S (Bf N:Int) i (O.map (rT S (Bf N:Int) i))).2.1) (by omega) (by rw[hpl.1,AfV];exact hO) (by rw[hpe];exact hE) (by rw[hpe];exact hlt) hN'
   rw[hpe]at this
   exact this
  |some e=>
   obtain⟨A,x,B,e1,e2,e3,e4,e5,e6⟩:=APo S (Bf N:Int) i e _ hp
   obtain⟨q1,q2⟩:=hG'.found hit hL e1 e3 e4 e5
   rw[← e2]at q1 q2
   simp only[]
   exact⟨hpe,q1,fun h=>(by cases h),fun _=>q2⟩
theorem AWe{N:Nat}{ts:List Tie}(h:RG2 N ts)(hs:Snd N (Bf N:Int) ts){p:Nat}{t:Tie}(hp:ts[p]? = some t):
  RG2 N (B0 N ts p t).1∧Snd N (Bf N:Int) (B0 N ts p t).1∧(B0 N ts p t).1.map ed=(ts.take p++ts.drop (p+1)).map ed ∧
  (t.2.2.2.1=true→((B0 N ts p t).2.1≠none↔Con ((ts.take p++ts.drop (p+1)).map ed) t.1 t.2.1))∧(t.2.2.2.1=false→(B0 N ts p t).2.1=none∧(B0 N ts p t).2.2=0):=by
 have hpl:p<ts.length:=(AfH.1 hp).1
 have hpe:ts[p]=t:=(AfH.1 hp).2
 have hsp:ts=ts.take p++t::ts.drop (p+1):=by
  conv=>lhs;rw[← Afb p ts,AfR hpl,hpe]
 have hm:t∈ts:=hpe▸Afr hpl
 obtain⟨i1,i2,hlt,l1,l2⟩:=h.tie hm
 have hT:=EH h.hN
 have hsub:((ts.take p++ts.drop (p+1)).map ed).Sublist (ts.map ed):=by
  conv=>rhs;rw[hsp]
  exact(List.Sublist.append_left (List.sublist_cons_self _ _) _).map ed
 have hlen:(ts.take p++ts.drop (p+1)).length≤400:=by
  have:=h.ht
  rw[Aes,Ae3,AfI];omega
 have hE:=h.edP.sublist hsub
 have hL:∀ e∈(ts.take p++ts.drop (p+1)).map ed,e.1<e.2.1:=fun e he=>h.AeY e (hsub.subset he)
 have fin:∀ O':List Tie,O'.map ed=(ts.take p++ts.drop (p+1)).map ed→Snd N (Bf N:Int) O'→RG2 N O':=fun O' he hO=>AYQ h.h1 h.hN (by
   have:=AgE List.length he
   rw[AfV,AfV]at this
   omega) (by rw[he];exact hE) (by rw[he];exact hL) hO.ins hO.lvl hO.fo
 unfold B0
 cases h4:t.2.2.2.1
 ·simp only[Aey,Ae0]
  have hO:Snd N (Bf N:Int) (ts.take p++ts.drop (p+1)):=by
   rw[hsp]at hs
   exact hs.other h4
  exact⟨fin _ rfl hO,hO,trivial,fun q=>q.elim,fun _=>⟨trivial,trivial⟩⟩
 ·simp only[AfE]
  obtain⟨a,ha⟩:=Aeu i1.2.2.1
  obtain⟨b,hb⟩:=Aeu i2.2.2.1
  obtain⟨lv,hlv⟩:=Aeu l1
  have haN:a<N:=by have:=i1.2.2.2;omega
  have hbN:b<N:=by have:=i2.2.2.2;omega
  have hst:I3 N (Bf N:Int) ((a:Int),((b:Int),())) ((lv+1:Nat):Int) (ts.take p++ts.drop (p+1)):=by
   have hs':=hs
   rw[hsp]at hs'
   have:=hs'.AeR h4
   have e1:ed t=((a:Int),((b:Int),())):=by unfold ed;rw[ha,hb]
   rw[e1,hlv]at this
   exact this
  have e2:t.1.toNat=a:=by omega
  have e3:t.2.1.toNat=b:=by omega
  have e4:t.2.2.1.toNat+1=lv+1:=by omega
  rw[e2,e3,e4]
  obtain⟨q1,q2,q3,q4⟩:=AX5 h.h1 h.hN haN hbN (lv+1) (ts.take p++ts.drop (p+1)) 0 (by omega) hlen hE hL hst
  refine⟨fin _ q1 q2,q2,q1,fun _ => ?_,fun q=>by cases q⟩
  rw[← q1,q2.span,ha,hb]
  constructor
  ·exact q4
  ·intro hc hn
   exact q3 hn hc
noncomputable def Jg(N:Nat)(ts:List Tie)(l:List Edge):List Edge:=(JC N l).filter fun x=>decide (x∈ts.map ed)
theorem AAe{N:Nat}{ts:List Tie}(h:RG2 N ts)(l:List Edge)(hs:l.length<1073741824):
  AH3 (((N:Int),(ts,())),l,())=some (if ∀ e∈l,In (N:Int) e.1∧In (N:Int) e.2.1 then(Jg N ts l,0,())else([],10,())):=by
 have ht:=h.ht
 have h1:=h.h1
 have hN:=h.hN
 rw[AEV,Qi]
 simp only[h.r21,Aer]
 have e:=Fb (step:=Ji) (fun i=>(l,(N:Int),ts,(i:Int),())) l (fun x => !decide (In (N:Int) x.1∧In (N:Int) x.2.1)) (fun _=>.inl (10,())) (.inr (.inl (l,(N:Int),ts,()))) (by omega)
  (fun i x hi hx=>by
   rw[Ji,AK,AI,Aej hi]
   simp only[Ab hx,QT]
   rw[AG (by omega)]
   have d1:decide (0≤x.1∧x.1<(N:Int))=decide (In (N:Int) x.1):=AgI.2 ⟨fun q=>⟨by omega,by omega,q.1,q.2⟩,fun q=>⟨q.2.2.1,q.2.2.2⟩⟩
   have d2:decide (0≤x.2.1∧x.2.1<(N:Int))=decide (In (N:Int) x.2.1):=AgI.2 ⟨fun q=>⟨by omega,by omega,q.1,q.2⟩,fun q=>⟨q.2.2.1,q.2.2.2⟩⟩
   rw[d1,d2,Bool.decide_and]
   cases decide (In (N:Int) x.1)<;>cases decide (In (N:Int) x.2.1)<;>simp)
  (by rw[Ji,AK,AI,Aei (by omega)])
 have e':AR Ji many (l,(N:Int),ts,(0:Int),())=_:=e
 rw[e']
 by_cases hall:∀ e∈l,In (N:Int) e.1∧In (N:Int) e.2.1
 ·have:(l.any fun x => !decide (In (N:Int) x.1∧In (N:Int) x.2.1))=false:=by
   rw[Agf]
   intro x hx
   simp[hall x hx]
  rw[this,Aez hall]
  simp only[Aey,Ae0,VU (N:Int) ts h.ht h.r21,AKY N hN l hs]
  have hpl:=Yw N hN l
  unfold Jg
  generalize JC N l=p at hpl
  have e2:=Cq (step:=Jh) (fun i (a:List Edge)=>(ts.map ed,p,a,(i:Int),())) p (fun x a=>.inl (if x∈ts.map ed then a++[x]else a)) (fun a=>.inl (a,())) (fun i a=>a.length≤i) (by omega)
   (fun i x a hi hx ha=>by
    refine⟨fun m' h' => ?_,fun r h'=>(by cases h')⟩
    cases h'
    constructor
    ·rw[Jh,AK,AI,Aej hi]
     obtain⟨u,v,⟨⟩⟩:=x
     simp only[Ab hx,CH hx,AET (ts.map ed) u v (by rw[AfV];omega),AK]
     have hfit:fits ((a.length:Int)+(([(u,v,())]:List Edge).length:Int))=true:=BE (by simp;omega)
     rw[hfit,AG (by omega)]
     by_cases q:((u,v,()):Edge)∈ts.map ed
     ·rw[Aej q,Aez q]
      rfl
     ·rw[Aei q,Aev q]
    ·split
     ·rw[Aes];simp;omega
     ·omega)
   (fun a _=>by rw[Jh,AK,AI,Aei (by omega)]) [] (Aew _)
  have e2':AR Jh many (ts.map ed,p,[],(0:Int),())=_:=e2
  simp only[e2']
  rw[BL (fun(x:Edge) (a:List Edge)=>if x∈ts.map ed then a++[x]else a),KZ (fun x:Edge=>x∈ts.map ed) (fun x=>x)]
  simp
 ·have:(l.any fun x => !decide (In (N:Int) x.1∧In (N:Int) x.2.1))=true:=by
   rw[Afq]
   refine AfS fun hn=>hall fun e he => ?_
   refine AfS fun hne=>hn ⟨e,he,by rw[Aei hne];rfl⟩
  rw[this,Aev hall]
  rfl
end Go.Pev.Pl
end
section
namespace Go.Pev.Pl
open Tok
noncomputable def ALz(ts:List Tie)(k:Nat):Bool:=ts.any fun t => !t.2.2.2.1&&(decide (t.2.2.1=(k:Int)) && !ED (trk ts k) t.1 t.2.1)
theorem AJr{N:Nat}{ts:List Tie}(h:RG2 N ts)(s:Int)(k:Nat){o:List Int}(hc:LO (N:Int) (trk ts k) o):
  AR DP many ((N:Int),ts,s,(k:Int),o,(0:Int),())=some (if ALz ts k then .inl (false,())else .inr (.inl ((N:Int),ts,s,(k:Int),()))):=by
 have ht:=h.ht
 have ho:o.length=N:=by have:=hc.len;omega
 have e:=Fb (step:=DP) (fun i=>((N:Int),ts,s,(k:Int),o,(i:Int),())) ts (fun t => !t.2.2.2.1&&(decide (t.2.2.1=(k:Int)) && !ED (trk ts k) t.1 t.2.1)) (fun _=>.inl (false,())) (.inr (.inl ((N:Int),ts,s,(k:Int),()))) (by omega)
  (fun i x hi hx=>by
   obtain⟨i1,i2,_,l1,l2⟩:=h.tie (Ae2 hx)
   rw[DP,AK,AI,Aej hi]
   simp only[Ab hx,Aa3 ho (show InV N x.1 from⟨i1.2.2.1,i1.2.2.2⟩),Aa3 ho (show InV N x.2.1 from⟨i2.2.2.1,i2.2.2.2⟩)]
   have hd:∀ w:Int,AL o (AE w) 0=cl o w:=fun _=>rfl
   rw[AG (by omega),hd,hd,Ak,Ak]
   have:decide (cl o x.1=cl o x.2.1)=ED (trk ts k) x.1 x.2.1:=by
    rw[Afp,AfP,BW]
    exact hc.same _ _ i1 i2
   rw[this]
   generalize ED (trk ts (k:Int)) x.1 x.2.1=c
   generalize decide (x.2.2.1=(k:Int))=d
   generalize x.2.2.2.1=f
   cases f<;>cases d<;>cases c<;>rfl)
  (by rw[DP,AK,AI,Aei (by omega)])
 have e':AR DP many ((N:Int),ts,s,(k:Int),o,(0:Int),())=_:=e
 rw[e']
 rfl
theorem AJs{N:Nat}{ts:List Tie}(h:RG2 N ts)(k:Nat):
  AR DO many ((N:Int),ts,((N/2 ^ k:Nat):Int),(k:Int),(0:Int),())=some (if AIm N ts k then .inl (false,())else .inr (.inl ((N:Int),ts,((N/2 ^ k:Nat):Int),(k:Int),()))):=by
 have hN:=h.hN
 have e:=Fb (step:=DO) (fun i=>((N:Int),ts,((N/2 ^ k:Nat):Int),(k:Int),(i:Int),())) (List.range N) (fun v=>decide (max 1 (N/2 ^ k)<csz N (trk ts k) (v:Int))) (fun _=>.inl (false,())) (.inr (.inl ((N:Int),ts,((N/2 ^ k:Nat):Int),(k:Int),()))) (by simp;omega)
  (fun i x hi hx=>by
   have:=Cc hx
   subst this
   rw[AfG]at hi
   have hle:=NZ N (trk ts k) (x:Int)
   have hdl:N/2 ^ k≤N:=Nat.div_le_self _ _
   rw[DO,AI,Aej hi]
   simp only[EA h.h1 h.hN ts h.ht h.inE x hi,AK,Hu,QW]
   rw[AG (by omega),Am]
   have:decide (max (1:Int) ((N/2 ^ k:Nat):Int)<(csz N (trk ts k) (x:Int):Int))=decide (max 1 (N/2 ^ k)<csz N (trk ts k) (x:Int)):=AgI.2 (by omega)
   rw[this]
   cases decide (max 1 (N/2 ^ k)<csz N (trk ts k) (x:Int))<;>simp)
  (by rw[DO,AfG,AI,Aei (by omega)])
 have e':AR DO many ((N:Int),ts,((N/2 ^ k:Nat):Int),(k:Int),(0:Int),())=_:=e
 rw[e']
 rfl
theorem AcI{N:Nat}{ts:List Tie}(h:RG2 N ts):((List.range (Bf N+1)).any fun k=>ALz ts k)=ts.any (AQI ts):=by
 rw[Afp,Afq,Afq]
 constructor
 ·rintro⟨k,_,hk⟩
  unfold ALz at hk
  rw[Afq]at hk
  obtain⟨t,ht,q⟩:=hk
  simp only[Aep,Aem]at q
  refine⟨t,ht,?_⟩
  unfold AQI
  rw[q.2.1,Aep]
  exact⟨q.1,q.2.2⟩
 ·rintro⟨t,ht,q⟩
  unfold AQI at q
  rw[Aep]at q
  obtain⟨_,_,_,l1,l2⟩:=h.tie ht
  obtain⟨k,hk⟩:=Aeu l1
  have hT:=EH h.hN
  refine⟨k,by rw[Afj];omega,?_⟩
  unfold ALz
  rw[Afq]
  refine⟨t,ht,?_⟩
  rw[hk]at q
  simp only[Aep,Aem]
  exact⟨q.1,hk,q.2⟩
theorem T9{N:Nat}{ts:List Tie}(h:RG2 N ts):J7 (((N:Int),(ts,())),())=some (Ig (Vo ts∧AIy ts∧Q7 N ts),()):=by
 have ht:=h.ht
 have h1:=h.h1
 have hN:=h.hN
 have hT:=AFL h.hN
 have hTe:=EH h.hN
 obtain⟨o1,e1,c1⟩:=DF (N:Int) (ts.map ed) ⟨by omega,by omega⟩ (by rw[AfV];omega) h.inE
 obtain⟨o2,e2,c2⟩:=h.ATm 0
 have l1:o1.length=N:=by have:=c1.len;omega
 have l2:o2.length=N:=by have:=c2.len;omega
 rw[ON,JO]
 simp only[h.r21,Aer,VU (N:Int) ts h.ht h.r21,e1,Mu (N:Int) ts h.ht,e2]
 have f0:=Fb (step:=ES) (fun i=>((N:Int),ts,o1,o2,(i:Int),())) (List.range N) (fun k => !decide (o1.getD k 0=o2.getD k 0)) (fun _=>.inl (false,())) (.inr (.inl ((N:Int),ts,()))) (by simp;omega)
  (fun i x hi hx=>by
   have:=Cc hx
   subst this
   rw[AfG]at hi
   rw[ES,AI,Aej hi]
   simp only[CW 0 (show x<o1.length by omega),CW 0 (show x<o2.length by omega),Ea,Ak]
   rw[AG (by omega)]
   cases decide (o1.getD x 0=o2.getD x 0)<;>simp)
  (by rw[ES,AfG,AI,Aei (by omega)])
 have f0':AR ES many ((N:Int),ts,o1,o2,(0:Int),())=_:=f0
 have hsame:(!(List.range N).any fun k => !decide (o1.getD k 0=o2.getD k 0))=Ig (Vo ts):=by
  refine Pu ?_
  have e0:(!(List.range N).any fun k => !decide (o1.getD k 0=o2.getD k 0))=true↔o1=o2:=by
   rw[Afx,Agf]
   constructor
   ·intro hh
    refine FJ 0 (by omega) fun k hk => ?_
    have:=hh k (by rw[Afj];omega)
    simpa using this
   ·rintro rfl k _
    simp
  rw[e0,AXA h1 hN c1 c2 h.inE (h.inK 0)]
  exact⟨fun q=>q.1,fun q=>⟨q,fun e he=>.edge e (AFD ts 0 e he)⟩⟩
 have f1:=Fb (step:=ER) (fun i=>((N:Int),ts,((N/2 ^ i:Nat):Int),(i:Int),())) (List.range (Bf N+1)) (fun k=>ALz ts k||AIm N ts k) (fun _=>.inl (false,())) (.inr (.inl ())) (by simp;omega)
  (fun i x hi hx=>by
   have:=Cc hx
   subst this
   rw[AfG]at hi
   obtain⟨o,g1,g2⟩:=h.ATm x
   have hdl:N/2 ^ x≤N:=Nat.div_le_self _ _
   rw[ER]
   simp only[Mx N h.hN,hTe]
   rw[Bo,Aej (by omega)]
   simp only[Mu (N:Int) ts h.ht,g1,AJr h _ x g2]
   cases ALz ts x
   ·simp only[Aey,Ae0,AJs h x,Bool.false_or]
    cases AIm N ts x
    ·simp only[Aey,Ae0]
     rw[AYb (by omega),AG (by omega)]
     simp only[]
     rw[Nat.pow_succ,Nat.div_div_eq_div_mul]
    ·rfl
   ·rfl)
  (by
   rw[ER,AfG]
   simp only[Mx N h.hN,hTe]
   rw[Bo,Aei (by omega)])
 have hz:((N/2 ^ 0:Nat):Int)=(N:Int):=by simp
 have f1':AR ER many ((N:Int),ts,((N/2 ^ 0:Nat):Int),(0:Int),())=_:=f1
 rw[hz]at f1'
 have hor:((List.range (Bf N+1)).any fun k=>ALz ts k||AIm N ts k)=(ts.any (AQI ts)||(List.range (Bf N+1)).any (AIm N ts)):=by
  rw[← AcI h]
  generalize List.range (Bf N+1)=xs
  induction xs with
  |nil=>rfl
  |cons x xs ih=>simp only[List.any_cons,ih];cases ALz ts x<;>cases AIm N ts x<;>simp
 have b1:=AcH ts
 have b2:=AbB hN ts
 rw[hor]at f1'
 simp only[f0']
 have fin:Ig (Vo ts∧AIy ts∧Q7 N ts)=(Ig (Vo ts)&&(Ig (AIy ts)&&Ig (Q7 N ts))):=by
  symm
  refine Pu ?_
  rw[Aep,Aep,Dn,Dn,Dn]
 rw[fin,← hsame,← b1,← b2]
 cases (List.range N).any fun k => !decide (o1.getD k 0=o2.getD k 0)
 ·simp only[Aey,Ae0,f1']
  cases ts.any (AQI ts)<;>cases (List.range (Bf N+1)).any (AIm N ts)<;>rfl
 ·rfl
theorem AWx{A B:List Edge}{x:Edge}(h:(A++x::B).Pairwise De):A++B=(A++x::B).filter fun e=>decide (e≠x):=by
 have hA:∀ e∈A,e≠x:=fun e he=>by
  rw[Agq]at h
  have:=h.2.2 e he x (by simp)
  rintro rfl
  unfold De at this;omega
 have hB:∀ e∈B,e≠x:=fun e he=>by
  rw[Agq,AfZ]at h
  have:=h.2.1.1 e he
  rintro rfl
  unfold De at this;omega
 rw[Af8,Af5,Aev (by simp),AgT.2 (fun e he=>Aej (hA e he)),AgT.2 (fun e he=>Aej (hB e he))]
theorem AWg{N:Nat}{ts:List Tie}{l:List Edge}{x:Edge}(hx:x∈Jg N ts l):0≤x.1∧x.1<x.2.1∧x.2.1<(N:Int)∧x∈ts.map ed:=by
 unfold Jg at hx
 rw[AfW,Of,AfP]at hx
 exact⟨hx.1.1,hx.1.2.1,hx.1.2.2.1,hx.2⟩
theorem AAd(N:Nat)(ts:List Tie)(l:List Edge):(Jg N ts l).Pairwise De:=(UE N l).filter _
theorem AEU(N:Nat)(hN:N≤64)(ts:List Tie)(l:List Edge):(Jg N ts l).length≤4096:=Afs (AgY _ _) (Yw N hN l)
end Go.Pev.Pl
end
section
namespace Go.Pev.Pl
section
variable {N top:Nat} {ts w:List Tie} (hp:w.Perm ts) (hi:∀ x∈ts,InE N (ed x)) (hl:∀ t∈ts,0≤t.2.2.1∧t.2.2.1≤(top:Int)) (hfo:Fo N (trk ts 0)) (hlie:∀ x∈ts,x.2.2.2.1=false→Con (trk ts x.2.2.1) x.1 x.2.1)
include hp hi
include hl hfo hlie
end
end Go.Pev.Pl
end
section
namespace Go.Pev.Pl
open Tok
end Go.Pev.Pl
end
section
namespace Go.Pev.Pl
open Tok
def bef(x y:Tie):Prop:=y.2.2.1<x.2.2.1∨(x.2.2.1=y.2.2.1∧ahead x y)
theorem bef.trans{x y z:Tie}(h:bef x y)(h':bef y z):bef x z:=by
 unfold bef ahead at *
 omega
def Mrg(u v w:List Tie):Prop:=w.Perm (u++v)∧w.Pairwise bef
end Go.Pev.Pl
end
section
namespace Go.Pev.Pl
open Tok
noncomputable section
end
theorem Mrg.append{u1 u2 v1 v2 w1 w2:List Tie}(h1:Mrg u1 v1 w1)(h2:Mrg u2 v2 w2)(hu:(u1++u2).Pairwise bef)(hv:(v1++v2).Pairwise bef)(c1:∀ x∈u1,∀ y∈v2,bef x y)(c2:∀ y∈v1,∀ x∈u2,bef y x):Mrg (u1++u2) (v1++v2) (w1++w2):=by
 rw[Agq]at hu hv
 refine⟨?_,?_⟩
 ·refine(h1.1.append h2.1).trans ?_
  rw[AfQ,AfQ]
  refine List.Perm.append_left _ ?_
  rw[← AfQ,← AfQ]
  exact List.Perm.append_right _ AgL
 ·rw[Agq]
  refine⟨h1.2,h2.2,fun x hx y hy => ?_⟩
  have hx:=Aen.1 (h1.1.mem_iff.1 hx)
  have hy:=Aen.1 (h2.1.mem_iff.1 hy)
  rcases hx with hx|hx<;>rcases hy with hy|hy
  ·exact hu.2.2 x hx y hy
  ·exact c1 x hx y hy
  ·exact c2 x hx y hy
  ·exact hv.2.2 x hx y hy
end Go.Pev.Pl
end
section
namespace Go.Pev.Pl
open Tok
end Go.Pev.Pl
end
section
namespace Go.Pev.Pl
open Tok
end Go.Pev.Pl
end
section
namespace Go.Pev.Pl
open Tok
def lvl(ts:List Tie)(k:Int):List Tie:=ts.filter fun t=>decide (t.2.2.1=k)
end Go.Pev.Pl
end
section
namespace Go.Pev.Pl
open Tok
section
variable (n:Int) (ts:List Tie)
end
end Go.Pev.Pl
end
section
namespace Go.Pev.Pl
open Tok
def mid(f:Int→Int)(xs:List Int)(i:Nat):List Int:=(xs.take i).map f++xs.drop i
def lb(at0:List Int)(v:Int):Int:=at0.getD v.toNat 0
end Go.Pev.Pl
end
section
namespace Go.Pev.Pl
open Tok
end Go.Pev.Pl
end
section
namespace Go.Pev.Pl
section
variable {α β:Type} [DecidableEq α]
theorem AAE(es:List (α×β))(k:α)(v:β)(j:α):AS (Ag es k v) j=if j=k then some v else AS es j:=by
 induction es with
 |nil=>
  simp only[Ag,AS]
  by_cases h:j=k
  ·rw[Aez h,Aez h.symm]
  ·rw[Aev h,Aev (Aff h)]
 |cons e es ih=>
  obtain⟨a,x⟩:=e
  by_cases h1:a=k
  ·subst h1
   simp only[Ag,AS,AfE]
   by_cases h:j=a
   ·rw[Aez h,Aez h.symm]
   ·rw[Aev h,Aev (Aff h),Aev (Aff h)]
  ·simp only[Ag,AS,h1,Ae0,ih]
   by_cases h:a=j
   ·subst h
    rw[Aez rfl,Aev h1,Aez rfl]
   ·rw[Aev h,Aev h]
theorem ADx:∀ (es:List (α×β)) (k:α),D2 es k=none→∀ v,Ag es k v=es++[(k,v)]:=by
 intro es
 induction es with
 |nil=>intro k _ v;rfl
 |cons e es ih=>
  intro k h v
  obtain⟨a,b⟩:=e
  by_cases hk:a=k
  ·simp[D2,hk]at h
  ·simp only[D2,hk,Ae0,Ahf]at h
   simp only[Ag,hk,Ae0,ih k h v,AfF]
theorem ADw:∀ (es:List (α×β)) (k:α) (n:Nat),D2 es k=some n→∀ v,n<es.length∧Ag es k v=es.modify n fun e=>(e.1,v):=by
 intro es
 induction es with
 |nil=>intro k n h;simp[D2]at h
 |cons e es ih=>
  intro k n h v
  obtain⟨a,b⟩:=e
  by_cases hk:a=k
  ·simp only[D2,hk,AfE,Aek]at h
   subst h
   simp[Ag,hk]
  ·simp only[D2,hk,Ae0,Ae5]at h
   obtain⟨m,hm,rfl⟩:=h
   obtain⟨h1,h2⟩:=ih k m hm v
   simp only[Ag,hk,Ae0,Aet]
   exact⟨by omega,by rw[h2];rfl⟩
theorem AQR(es:List (α×β))(k:α)(z v:β):(ile (0:Int) (WT es k)&&ilt (WT es k) (AM (Ag es k z)))=true∧AVa (Ag es k z) (WT es k) v=Ag es k v:=by
 rw[Ap,Am]
 unfold WT AVa
 cases h:D2 es k with
 |none=>
  rw[ADx es k h,ADx es k h,Option.getD_none,Afe]
  constructor
  ·rw[Aej (by omega),Aej (by rw[AK,Aes];simp;omega)];rfl
  ·have:∀ (xs:List (α×β)),(xs++[(k,z)]).modify xs.length (fun e=>(e.1,v))=xs++[(k,v)]:=by
    intro xs
    induction xs with
    |nil=>rfl
    |cons x xs ih=>rw[AfF,Aet,List.modify_succ_cons,ih];rfl
   exact this es
 |some n=>
  obtain⟨h1,h2⟩:=ADw es k n h z
  obtain⟨_,h3⟩:=ADw es k n h v
  rw[h2,h3,AfK,Afe]
  constructor
  ·rw[Aej (by omega),Aej (by rw[AK,List.length_modify];omega)];rfl
  ·apply Agw
   intro i
   simp only[List.getElem?_modify]
   cases es[i]? with
   |none=>split<;>rfl
   |some e=>split<;>rfl
end
end Go.Pev.Pl
end
section
namespace Go.Pev.Pl
open Tok
end Go.Pev.Pl
end
section
namespace Go.Pev.Pl
open Tok
theorem QM(p x:Tie):DX (p,x,())=some (if ahead p x then -1 else if p.1=x.1∧p.2.1=x.2.1 then 0 else 1,()):=by
 rw[ME,Hy]
 simp only[Kj,AG0]
 congr 2
 unfold PG ahead
 repeat' split
 all_goals omega
theorem Aa9{ts:List Tie}(ht:ts.length≤400)(hp:ts.Pairwise ahead)(g:Tie):∃ k:Nat,k≤ts.length∧(∀ j t,ts[j]? = some t→(j<k↔ahead t g)) ∧
  AXM (ts,g,())=some ((k:Int),match ts[k]? with|some t=>decide (t.1=g.1∧t.2.1=g.2.1)|none=>false,()):=by
 have hahead:∀ (i j:Nat) (t t':Tie),i≤j→ts[i]? = some t→ts[j]? = some t'→ahead t' g→ahead t g:=by
  intro i j t t' hij h1 h2 h3
  by_cases e:i=j
  ·subst e
   rw[h1]at h2
   cases h2
   exact h3
  ·have hj:=(AfH.1 h2).1
   have hi:=(AfH.1 h1).1
   have:=Afk.1 hp i j hi hj (by omega)
   rw[(AfH.1 h1).2,(AfH.1 h2).2]at this
   exact this.trans h3
 obtain⟨g1,g2,g3,g4,⟨⟩⟩:=g
 obtain⟨k,_,k2,k3,k4,k5⟩:=Aee (step:=Kk) (fun i j=>(ts,g1,g2,g3,g4,(ts.length:Int),(i:Int),(j:Int),())) (fun i=>match ts[i]? with|some t=>decide (ahead t (g1,g2,g3,g4,()))|none=>false)
  (fun i=>.inl (ts,g1,g2,g3,g4,(ts.length:Int),(i:Int),())) 0 ts.length (AhC _) (by omega)
  (fun i j _ hij hj=>by
   have hm:(i+j)/2<ts.length:=by omega
   have hx:ts[(i+j)/2]? = some ts[(i+j)/2]:=by simp[hm]
   have hs:shr? .u64 (((i+j:Nat)):Int) (1:Int)=some (((i+j)/2:Nat):Int):=W3 (i+j) 1 (by omega)
   rw[Kk,AI,Aej hij]
   simp only[]
   rw[show((i:Int)+(j:Int))=((i+j:Nat):Int) by omega,Aj (n:=((i+j:Nat):Int)) (by omega),AXT (i+j) (by omega)]
   simp only[hs,Aj (n:=(((i+j)/2:Nat):Int)) (by omega),Ab hx]
   have hc:=QM ts[(i+j)/2] (g1,g2,g3,g4,())
   have hc':DX (((ts[(i+j)/2]).1,((ts[(i+j)/2]).2.1,((ts[(i+j)/2]).2.2.1,((ts[(i+j)/2]).2.2.2.1,())))),(g1,(g2,(g3,(g4,())))),())=_:=hc
   simp only[hc',hx]
   by_cases ha:ahead ts[(i+j)/2] (g1,g2,g3,g4,())
   ·simp only[Aez ha,Aej ha,AfE]
    rw[Am,Aej (by omega),AG (by omega)]
   ·simp only[Aev ha,Aei ha]
    rw[Am,Aei (by split<;>omega)]
    rfl)
  (fun i _ _=>by rw[Kk,AI,Aei (by omega)])
  (fun x y _ hxy hy h=>by
   have hx':x<ts.length:=by omega
   have e1:ts[x]? = some ts[x]:=by simp[hx']
   have e2:ts[y]? = some ts[y]:=by simp[hy]
   simp only[e2,AfP]at h
   simp only[e1,AfP]
   exact hahead x y _ _ hxy e1 e2 h)
 refine⟨k,k2,fun j t hj => ?_,?_⟩
 ·have hjl:=(AfH.1 hj).1
  constructor
  ·intro h
   have:=k3 j (AhC _) h
   simpa [hj]using this
  ·intro h
   refine AfS fun hn => ?_
   have:=k4 j (by omega) hjl
   simp[hj]at this
   exact this h
 ·rw[ATr,AIl]
  have k5':AR Kk many (ts,g1,g2,g3,g4,AM ts,(0:Int),AM ts,())=_:=k5
  simp only[k5']
  by_cases hk:k<ts.length
  ·have hx:ts[k]? = some ts[k]:=by simp[hk]
   have hna:¬ ahead ts[k] (g1,g2,g3,g4,()):=by
    have:=k4 k (Aew _) hk
    simpa [hx]using this
   have hc:=QM ts[k] (g1,g2,g3,g4,())
   have hc':DX (((ts[k]).1,((ts[k]).2.1,((ts[k]).2.2.1,((ts[k]).2.2.2.1,())))),(g1,(g2,(g3,(g4,())))),())=_:=hc
   rw[AI,Aej hk]
   simp only[Ab hx,hc',hx,Aev hna,Ak]
   by_cases he:(ts[k]).1=g1∧(ts[k]).2.1=g2
   ·simp only[Aez he,Aej he,Aex]
   ·simp only[Aev he,Aei he]
    rfl
  ·have hx:ts[k]? = none:=Afd (by omega)
   rw[AI,Aei hk]
   simp only[hx]
theorem AV0{N:Nat}{ts:List Tie}(h:RG2 N ts)(u v:Int):AMJ (((N:Int),(ts,())),u,v,())=some (if ts.any (Bg u v)then((ts.findIdx (Bg u v):Nat):Int)else -1,()):=by
 have hp:=((KI N ts).1 h.oks).2
 obtain⟨k,k1,k2,k3⟩:=Aa9 h.ht hp (min u v,max u v,0,false,())
 rw[AMI,XH]
 simp only[h.lr,Aer,AEE,QK,Im,QW]
 have k3':AXM (ts,(min u v,(max u v,((0:Int),(false,())))),())=_:=k3
 simp only[k3']
 cases hx:ts[k]? with
 |none=>
  have hall:ts.any (Bg u v)=false:=by
   rw[Agf]
   intro t ht hat
   obtain⟨j,hj,rfl⟩:=Afm ht
   have hj':ts[j]? = some ts[j]:=by simp[hj]
   have hjk:j<k:=by
    have:=List.getElem?_eq_none_iff.1 hx
    omega
   have ha:=(k2 j _ hj').1 hjk
   unfold Bg at hat
   rw[AfP]at hat
   unfold ahead at ha
   simp only at ha
   omega
  rw[hall]
  rfl
 |some t=>
  by_cases he:t.1=min u v∧t.2.1=max u v
  ·have hk:=(AfH.1 hx)
   obtain⟨hkl,hke⟩:=hk
   have hat:Bg u v t=true:=by unfold Bg;rw[AfP];exact he
   have hany:ts.any (Bg u v)=true:=Afq.2 ⟨t,Ae2 hx,hat⟩
   have hfi:ts.findIdx (Bg u v)=k:=by
    rw[List.findIdx_eq hkl,hke]
    refine⟨hat,fun j hj => ?_⟩
    have hj':ts[j]? = some ts[j]:=by simp
    have ha:=(k2 j _ hj').1 hj
    unfold Bg
    rw[AfY]
    unfold ahead at ha
    simp only at ha
    omega
   simp only[Aej he,Aer]
   rw[hany,hfi]
   rfl
  ·have hall:ts.any (Bg u v)=false:=by
    rw[Agf]
    intro t' ht' hat
    obtain⟨j,hj,rfl⟩:=Afm ht'
    have hj':ts[j]? = some ts[j]:=by simp[hj]
    unfold Bg at hat
    rw[AfP]at hat
    obtain⟨hkl,hke⟩:=AfH.1 hx
    rcases Agy j k with hjk|hjk|hjk
    ·have ha:=(k2 j _ hj').1 hjk
     unfold ahead at ha
     simp only at ha
     omega
    ·subst hjk
     rw[hke]at hat
     exact he hat
    ·have ha:=Afk.1 hp k j hkl hj hjk
     rw[hke]at ha
     have hna:¬ ahead t (min u v,max u v,0,false,()):=fun hh=>by
      have:=(k2 k t hx).2 hh
      omega
     unfold ahead at ha hna
     simp only at hna
     omega
   simp only[Aei he,AfC]
   rw[hall]
   rfl
end Go.Pev.Pl
end
section
namespace Go.Pev.Pl.SI
open Go.Sort
theorem B2(x y:Int):EB (x,y,())=some (ltInt x y,()):=by
 simp only[AMK,XI,XF,Sc,Am,D4,ltInt]
 by_cases h:x<y<;>simp[h]
theorem Acg(a b i:Nat):∀ (j:Nat) (d:Array Int) (n:Nat),j<d.size→d.size<4611686018427387904→j<n →
  AP NS n (d.toList,(a:Int),(b:Int),(i:Int),(j:Int),())=some (.inl ((insInner ltInt a j d).toList,(a:Int),(b:Int),(i:Int),())):=by
 intro j
 induction j with
 |zero=>
  intro d n hj hs hn
  obtain⟨n,rfl⟩:∃ k,n=k+1:=⟨n-1,by omega⟩
  have h0:ilt (a:Int) ((0:Nat):Int)=false:=by rw[AI];simp
  simp only[AP,NS,h0,insInner]
 |succ j ih=>
  intro d n hj hs hn
  obtain⟨n,rfl⟩:∃ k,n=k+1:=⟨n-1,by omega⟩
  have e1:IntKind.wrap .i64 (((j+1:Nat):Int)-1)=(j:Int):=by rw[Aj (by omega)];omega
  have hj':j<d.size:=by omega
  simp only[AP,NS,AI,e1,Ah hj,Ah hj',Ar hj,Ar hj',B2,insInner,Ago]
  by_cases h1:a<j+1
  ·cases h2:ltInt d[j+1]! d[j]!
   ·simp only[h1,Aex,h2,Ag3,Aey,Ae0]
   ·simp only[h1,Aex,h2,AhP,AfE,C1]
    rw[Ah (by simpa using hj')]
    simp only[C6]
    exact ih (swp d (j+1) j) n (by rw[size_swp];omega) (by rw[size_swp];omega) (by omega)
  ·simp only[h1,Ae1,AgF,Aey,Ae0]
theorem Ca(lt:Int→Int→Bool)(a j:Nat)(d:Array Int):(insInner lt a j d).size=d.size:=by
 induction j generalizing d with
 |zero=>rfl
 |succ j ih=>
  rw[insInner]
  split
  ·rw[ih,size_swp]
  ·rfl
theorem AZ8(a b:Nat):∀ (k i:Nat) (d:Array Int) (n:Nat),b-i=k→b≤d.size→d.size<4611686018427387904→d.size<many→k<n →
  AP NT n (d.toList,(a:Int),(b:Int),(i:Int),())=some (.inl ((insOuter ltInt a b i d).toList,())):=by
 intro k
 induction k with
 |zero=>
  intro i d n hk hb hs hm hn
  obtain⟨n,rfl⟩:∃ k,n=k+1:=⟨n-1,by omega⟩
  have h0:¬ i<b:=by omega
  rw[insOuter]
  simp only[AP,NT,AI,h0,Ae1,Ae0]
 |succ k ih=>
  intro i d n hk hb hs hm hn
  obtain⟨n,rfl⟩:∃ k,n=k+1:=⟨n-1,by omega⟩
  have h0:i<b:=by omega
  have e1:IntKind.wrap .i64 ((i:Int)+1)=((i+1:Nat):Int):=by rw[Aj (by omega)];omega
  rw[insOuter]
  simp only[AP,NT,AI,h0,Aex,AfE,Aa]
  rw[Acg a b i i d many (by omega) hs (by omega)]
  simp only[e1]
  exact ih (i+1) _ n (by omega) (by rw[Ca];omega) (by rw[Ca];omega) (by rw[Ca];omega) (by omega)
theorem AZ7(d:Array Int)(a b:Nat)(hab:a≤b)(hb:b≤d.size)(hs:d.size<4294967296):AWE (d.toList,(a:Int),(b:Int),())=some ((insertionSort ltInt d a b).toList,()):=by
 have hm:d.size<many:=by simp only[many];omega
 have e1:IntKind.wrap .i64 ((a:Int)+1)=((a+1:Nat):Int):=by rw[Aj (by omega)];omega
 rw[ATX,AHg]
 simp only[e1,Aa]
 rw[AZ8 a b (b-(a+1)) (a+1) d many rfl hb (by omega) hm (by omega)]
 rfl
end Go.Pev.Pl.SI
end
section
namespace Go.Pev.Pl.SI
open Go.Sort
theorem AOb(hi first:Nat):∀ (k root:Nat) (d:Array Int) (n:Nat),hi-root=k→root≤hi→first+hi≤d.size→d.size<4294967296→(hi=0∨root<hi)→k<n →
  AP JP n (d.toList,(hi:Int),(first:Int),(root:Int),())=some (.inl ((siftDown ltInt hi first root d).toList,())) ∨
  AP JP n (d.toList,(hi:Int),(first:Int),(root:Int),())=some (.inr (.inl ((siftDown ltInt hi first root d).toList,()))):=by
 intro k
 induction k using Nat.strongRecOn with
 |_ k ih=>
 intro root d n hk hr hf hs hz hn
 obtain⟨n,rfl⟩:∃ k,n=k+1:=⟨n-1,by omega⟩
 rw[siftDown]
 simp (disch:=omega) only[AP,JP,ADL,AG,wrap_add,Bo,AI]
 by_cases h1:hi≤2*root+1
 ·simp only[h1,Aex,ge_iff_le,dite_true,true_or]
 ·have i0:first+root<d.size:=by omega
  have i1:first+(2*root+1)<d.size:=by omega
  simp only[h1,Ae1,ge_iff_le,Ae0,dite_false]
  simp (disch:=omega) only[Ah,Ar,B2]
  by_cases h2:2*root+1+1<hi
  ·have i2:first+(2*root+2)<d.size:=by omega
   have i3:2*root+1+1=2*root+2:=by omega
   have i4:first+(2*root+1)+1=first+(2*root+2):=by omega
   have h3:2*root+2<hi:=by omega
   simp only[i3,i4,h3,Aex]
   simp (disch:=omega) only[Ah,Ar,B2,C1]
   cases h4:ltInt d[first+(2*root+1)]! d[first+(2*root+2)]!
   ·simp only[Ag3,Aey,Ae0]
    cases h5:ltInt d[first+root]! d[first+(2*root+1)]!
    ·simp
    ·simp only[Aer,Aey,Ae0]
     rw[Ah (by simpa using i1)]
     simp only[C6]
     exact ih (hi-(2*root+1)) (by omega) (2*root+1) _ n rfl (by omega) (by rw[size_swp];omega) (by rw[size_swp];omega) (by omega) (by omega)
   ·simp only[AhP,AfE]
    cases h5:ltInt d[first+root]! d[first+(2*root+2)]!
    ·simp
    ·simp only[Aer,Aey,Ae0,dite_true]
     rw[Ah (by simpa using i2)]
     simp only[C6]
     exact ih (hi-(2*root+2)) (by omega) (2*root+2) _ n rfl (by omega) (by rw[size_swp];omega) (by rw[size_swp];omega) (by omega) (by omega)
  ·simp only[h2,Ae1,AgF,Aey,Ae0,C1]
   cases h5:ltInt d[first+root]! d[first+(2*root+1)]!
   ·simp
   ·simp only[Aer,Aey,Ae0]
    rw[Ah (by simpa using i1)]
    simp only[C6]
    exact ih (hi-(2*root+1)) (by omega) (2*root+1) _ n rfl (by omega) (by rw[size_swp];omega) (by rw[size_swp];omega) (by omega) (by omega)
theorem ADd(d:Array Int)(root hi first:Nat)(hf:first+hi≤d.size)(hs:d.size<4294967296)(hz:hi=0∧root=0∨root<hi):ADe (d.toList,(root:Int),(hi:Int),(first:Int),())=some ((siftDown ltInt hi first root d).toList,()):=by
 have hm:d.size<many:=by simp only[many];omega
 rw[AJ5,W1]
 simp only[Aa]
 rcases AOb hi first (hi-root) root d many rfl (by omega) hf hs (by omega) (by omega)with h|h<;>rw[h]
theorem Ba(lt:Int→Int→Bool)(hi first:Nat):∀ (k root:Nat) (d:Array Int),hi-root=k→(siftDown lt hi first root d).size=d.size:=by
 intro k
 induction k using Nat.strongRecOn with
 |_ k ih=>
 intro root d hk
 rw[siftDown]
 split
 ·rfl
 ·split
  ·split
   ·rfl
   ·split
    ·rw[ih (hi-(2*root+2)) (by omega) _ _ rfl,size_swp]
    ·rfl
  ·split
   ·rfl
   ·rw[ih (hi-(2*root+1)) (by omega) _ _ rfl,size_swp]
theorem AMj(hi first:Nat):∀ (k:Nat) (d:Array Int) (n:Nat),(hi=0∧k≤1∨k≤hi)→first+hi≤d.size→d.size<4294967296→k<n →
  AP Jf n (d.toList,(first:Int),(0:Int),(hi:Int),(k:Int)-1,())=some (.inl ((heapBuild ltInt hi first k d).toList,(first:Int),(0:Int),(hi:Int),())):=by
 intro k
 induction k with
 |zero=>
  intro d n hk hf hs hn
  obtain⟨n,rfl⟩:∃ k,n=k+1:=⟨n-1,by omega⟩
  rw[AP,Jf,Ap,Aei (by omega)]
  rfl
 |succ k ih=>
  intro d n hk hf hs hn
  obtain⟨n,rfl⟩:∃ k,n=k+1:=⟨n-1,by omega⟩
  have e0:((k+1:Nat):Int)-1=(k:Int):=by omega
  rw[AP,Jf,e0,Ap,Aej (by omega)]
  simp only[ADd d k hi first hf hs (by omega)]
  rw[Aj (by omega)]
  exact ih _ n (by omega) (by rw[Ba _ _ _ _ _ _ rfl];omega) (by rw[Ba _ _ _ _ _ _ rfl];omega) (by omega)
theorem DQ(lt:Int→Int→Bool)(hi first:Nat):∀ (k:Nat) (d:Array Int),(heapBuild lt hi first k d).size=d.size:=by
 intro k
 induction k with
 |zero=>intro d;rfl
 |succ k ih=>intro d;rw[heapBuild,ih,Ba _ _ _ _ _ _ rfl]
theorem AWR(first:Nat):∀ (k:Nat) (d:Array Int) (n:Nat),first+k≤d.size→d.size<4294967296→k<n →
  AP Je n (d.toList,(first:Int),(0:Int),(k:Int)-1,())=some (.inl ((heapPop ltInt first k d).toList,())):=by
 intro k
 induction k with
 |zero=>
  intro d n hf hs hn
  obtain⟨n,rfl⟩:∃ k,n=k+1:=⟨n-1,by omega⟩
  rw[AP,Je,Ap,Aei (by omega)]
  rfl
 |succ k ih=>
  intro d n hf hs hn
  obtain⟨n,rfl⟩:∃ k,n=k+1:=⟨n-1,by omega⟩
  have e0:((k+1:Nat):Int)-1=(k:Int):=by omega
  have i0:first<d.size:=by omega
  have i1:first+k<d.size:=by omega
  rw[AP,Je,e0,Ap,Aej (by omega)]
  simp (disch:=omega) only[wrap_add,Ah,Ar,C1]
  rw[Ah (by simpa using i1)]
  simp only[C6]
  have:=ADd (swp d first (first+k)) 0 k first (by rw[size_swp];omega) (by rw[size_swp];omega) (by omega)
  simp only[Int.natCast_zero]at this
  simp only[this]
  rw[Aj (by omega)]
  exact ih _ n (by rw[Ba _ _ _ _ _ _ rfl,size_swp];omega) (by rw[Ba _ _ _ _ _ _ rfl,size_swp];omega) (by omega)
theorem AWQ(d:Array Int)(a b:Nat)(hab:a<b)(hb:b≤d.size)(hs:d.size<4294967296):AES (d.toList,(a:Int),(b:Int),())=some ((heapSort ltInt d a b).toList,()):=by
 have hm:4294967296<many:=by simp only[many];omega
 rw[AMi,XK]
 simp (disch:=omega) only[Bd,Ao,AYb,Aa]
 have e:(((b-a-1)/2:Nat):Int)=(((b-a-1)/2+1:Nat):Int)-1:=by omega
 rw[e,AMj (b-a) a _ d many (by omega) (by omega) hs (by omega)]
 have e2:(((b-a-1:Nat)):Int)=((b-a:Nat):Int)-1:=by omega
 simp (disch:=omega) only[Ao,e2]
 rw[AWR a (b-a) _ many (by rw[DQ];omega) (by rw[DQ];omega) (by omega)]
 rfl
end Go.Pev.Pl.SI
end
section
namespace Go.Pev.Pl.SI
open Go.Sort
theorem AUq:∀ (k i j:Nat) (d:Array Int) (n:Nat),j-i=k→(j<d.size)→d.size<4294967296→k<n →
  AP Pn n (d.toList,(i:Int),(j:Int),())=some (.inl ((reverseLoop i j d).toList,())):=by
 intro k
 induction k using Nat.strongRecOn with
 |_ k ih=>
 intro i j d n hk hj hs hn
 obtain⟨n,rfl⟩:∃ k,n=k+1:=⟨n-1,by omega⟩
 rw[reverseLoop,AP,Pn]
 simp only[AI]
 by_cases h:i<j
 ·have hi:i<d.size:=by omega
  simp only[h,Aex,AfE,Ah hj,Ah hi,Ar hi,Ar hj,C1]
  rw[Ah (by simpa using hj)]
  simp (disch:=omega) only[C6,AG,Ao]
  exact ih (j-1-(i+1)) (by omega) (i+1) (j-1) _ n rfl (by rw[size_swp];omega) (by rw[size_swp];omega) (by omega)
 ·simp only[h,Ae1,Ae0]
theorem AYT(d:Array Int)(a b:Nat)(hab:a<b)(hb:b≤d.size)(hs:d.size<4294967296):AUr (d.toList,(a:Int),(b:Int),())=some ((reverseRange d a b).toList,()):=by
 have hm:4294967296<many:=by simp only[many];omega
 rw[ASu,AF6]
 simp (disch:=omega) only[Ao,Aa]
 rw[AUq (b-1-a) a (b-1) d many rfl (by omega) hs (by omega)]
 rfl
theorem D0{d:Array Int}{i j:Nat}(hi:i<d.size)(hj:j<d.size):idx (An d.toList (AE (i:Int)) (AL d.toList (AE (j:Int)) 0)) (j:Int)=some (d.setIfInBounds i d[j]!)[j]! ∧
  An (An d.toList (AE (i:Int)) (AL d.toList (AE (j:Int)) 0)) (AE (j:Int)) (AL d.toList (AE (i:Int)) 0)=(swp d i j).toList:=by
 rw[Ar hi,Ar hj,C1,C1]
 exact⟨Ah (by simpa using hj),rfl⟩
theorem AFw(step:List Int×Int×Int×Int×Unit→Option ((List Int×Int×Int×Int×Unit)⊕(List Int×Int×Int×Int×Unit)⊕Unit))(p:Int→Bool)(d:Array Int)(a j:Nat)(hs:d.size<4294967296)(hj:j<d.size)
  (h:∀ i:Nat,i≤d.size→step (d.toList,(a:Int),(i:Int),(j:Int),())=if i≤j∧p d[i]! then some (.inl (d.toList,(a:Int),((i+1:Nat):Int),(j:Int),()))else some (.inr (.inl (d.toList,(a:Int),(i:Int),(j:Int),())))) :
  ∀ (k i n:Nat),j+1-i=k→i≤d.size→k<n→AP step n (d.toList,(a:Int),(i:Int),(j:Int),())=some (.inl (d.toList,(a:Int),((scanUp p d j i:Nat):Int),(j:Int),())):=by
 intro k
 induction k using Nat.strongRecOn with
 |_ k ih=>
 intro i n hk hi hn
 obtain⟨n,rfl⟩:∃ k,n=k+1:=⟨n-1,by omega⟩
 rw[scanUp,AP,h i hi]
 by_cases h1:i≤j∧p d[i]! = true
 ·rw[Aez h1,Aez (by simpa using h1)]
  exact ih (j+1-(i+1)) (by omega) (i+1) n rfl (by omega) (by omega)
 ·rw[Aev h1,Aev (by simpa using h1)]
theorem Rx(step:List Int×Int×Int×Int×Unit→Option ((List Int×Int×Int×Int×Unit)⊕(List Int×Int×Int×Int×Unit)⊕Unit))(p:Int→Bool)(d:Array Int)(a i:Nat)(hi:1≤i)
  (h:∀ j:Nat,j<d.size→step (d.toList,(a:Int),(i:Int),(j:Int),())=if i≤j∧p d[j]! then some (.inl (d.toList,(a:Int),(i:Int),((j-1:Nat):Int),()))else some (.inr (.inl (d.toList,(a:Int),(i:Int),(j:Int),())))) :
  ∀ (j n:Nat),j<d.size→j<n→AP step n (d.toList,(a:Int),(i:Int),(j:Int),())=some (.inl (d.toList,(a:Int),(i:Int),((scanDown p d i j:Nat):Int),())):=by
 intro j
 induction j with
 |zero=>
  intro n hj hn
  obtain⟨n,rfl⟩:∃ k,n=k+1:=⟨n-1,by omega⟩
  rw[AP,h 0 hj,Aev (by omega)]
  rfl
 |succ j ih=>
  intro n hj hn
  obtain⟨n,rfl⟩:∃ k,n=k+1:=⟨n-1,by omega⟩
  rw[scanDown,AP,h (j+1) hj]
  by_cases h1:i≤j+1∧p d[j+1]! = true
  ·rw[Aez h1,Aez (by simpa using h1)]
   exact ih n (by omega) (by omega)
  ·rw[Aev h1,Aev (by simpa using h1)]
section
variable (d:Array Int) (a i j:Nat) (hs:d.size<4294967296) (ha:a<d.size) (hj:j<d.size)
include hs ha hj
theorem ALZ(hi:i≤d.size):Lx (d.toList,(a:Int),(i:Int),(j:Int),())=if i≤j∧(fun x=>ltInt x d[a]!) d[i]! = true then some (.inl (d.toList,(a:Int),((i+1:Nat):Int),(j:Int),()))else some (.inr (.inl (d.toList,(a:Int),(i:Int),(j:Int),()))):=by
 rw[Lx]
 simp only[Bo]
 by_cases h:i≤j
 ·have hi':i<d.size:=by omega
  simp (disch:=omega) only[h,Aex,Ah,Ar,B2,AG,AgU]
  cases ltInt d[i]! d[a]!<;>simp
 ·simp only[h,Ae1,AgJ,Ae0]
theorem ALU(hi:i≤d.size):Lu (d.toList,(a:Int),(i:Int),(j:Int),())=if i≤j∧(fun x=>ltInt x d[a]!) d[i]! = true then some (.inl (d.toList,(a:Int),((i+1:Nat):Int),(j:Int),()))else some (.inr (.inl (d.toList,(a:Int),(i:Int),(j:Int),()))):=by
 rw[Lu]
 simp only[Bo]
 by_cases h:i≤j
 ·have hi':i<d.size:=by omega
  simp (disch:=omega) only[h,Aex,Ah,Ar,B2,AG,AgU]
  cases ltInt d[i]! d[a]!<;>simp
 ·simp only[h,Ae1,AgJ,Ae0]
theorem ALX(hi:1≤i):Lw (d.toList,(a:Int),(i:Int),(j:Int),())=if i≤j∧(fun x => !ltInt x d[a]!) d[j]! = true then some (.inl (d.toList,(a:Int),(i:Int),((j-1:Nat):Int),()))else some (.inr (.inl (d.toList,(a:Int),(i:Int),(j:Int),()))):=by
 rw[Lw]
 simp only[Bo]
 by_cases h:i≤j
 ·simp (disch:=omega) only[h,Aex,Ah,Ar,B2,Ao,AgU]
  cases ltInt d[j]! d[a]!<;>simp
 ·simp only[h,Ae1,AgJ,Ae0]
theorem ALS(hi:1≤i):Lt (d.toList,(a:Int),(i:Int),(j:Int),())=if i≤j∧(fun x => !ltInt x d[a]!) d[j]! = true then some (.inl (d.toList,(a:Int),(i:Int),((j-1:Nat):Int),()))else some (.inr (.inl (d.toList,(a:Int),(i:Int),(j:Int),()))):=by
 rw[Lt]
 simp only[Bo]
 by_cases h:i≤j
 ·simp (disch:=omega) only[h,Aex,Ah,Ar,B2,Ao,AgU]
  cases ltInt d[j]! d[a]!<;>simp
 ·simp only[h,Ae1,AgJ,Ae0]
theorem ACm(hi:i≤d.size):Hr (d.toList,(a:Int),(i:Int),(j:Int),())=if i≤j∧(fun x => !ltInt d[a]! x) d[i]! = true then some (.inl (d.toList,(a:Int),((i+1:Nat):Int),(j:Int),()))else some (.inr (.inl (d.toList,(a:Int),(i:Int),(j:Int),()))):=by
 rw[Hr]
 simp only[Bo]
 by_cases h:i≤j
 ·have hi':i<d.size:=by omega
  simp (disch:=omega) only[h,Aex,Ah,Ar,B2,AG,AgU]
  cases ltInt d[a]! d[i]!<;>simp
 ·simp only[h,Ae1,AgJ,Ae0]
theorem ACk(hi:1≤i):Hq (d.toList,(a:Int),(i:Int),(j:Int),())=if i≤j∧(fun x=>ltInt d[a]! x) d[j]! = true then some (.inl (d.toList,(a:Int),(i:Int),((j-1:Nat):Int),()))else some (.inr (.inl (d.toList,(a:Int),(i:Int),(j:Int),()))):=by
 rw[Hq]
 simp only[Bo]
 by_cases h:i≤j
 ·simp (disch:=omega) only[h,Aex,Ah,Ar,B2,Ao,AgU]
  cases ltInt d[a]! d[j]!<;>simp
 ·simp only[h,Ae1,AgJ,Ae0]
end
theorem DR(p:Int→Bool)(d:Array Int)(j i:Nat)(hj:j<d.size)(hi:i≤d.size):scanUp p d j i≤d.size:=by
 suffices h:∀ (k i:Nat),j+1-i=k→i≤d.size→scanUp p d j i≤d.size from h _ i rfl hi
 intro k
 induction k using Nat.strongRecOn with
 |_ k ih=>
 intro i hk hi
 rw[scanUp]
 split
 ·rename_i h
  have:i≤j:=by simp at h;exact h.1
  exact ih (j+1-(i+1)) (by omega) (i+1) rfl (by omega)
 ·exact hi
theorem APu(a:Nat):∀ (k i j:Nat) (d:Array Int) (n:Nat),j+1-i=k→a<d.size→1≤i→i≤d.size→j<d.size→d.size<4294967296→k<n →
  AP Lv n (d.toList,(a:Int),(i:Int),(j:Int),())=some (.inl ((partLoop ltInt a i j d).2.toList,(a:Int),(((partLoop ltInt a i j d).1:Nat):Int),()))∧(partLoop ltInt a i j d).1≤j∧(partLoop ltInt a i j d).2.size=d.size:=by
 intro k
 induction k using Nat.strongRecOn with
 |_ k ih=>
 intro i j d n hk ha hi hi' hj hs hn
 have hm:4294967296<many:=by simp only[many];omega
 obtain⟨n,rfl⟩:∃ k,n=k+1:=⟨n-1,by omega⟩
 rw[partLoop_eq,AP,Lv]
 have u1:=scanUp_ge (fun x=>ltInt x d[a]!) d j i
 have u2:=DR (fun x=>ltInt x d[a]!) d j i hj hi'
 rw[Aa,AFw _ (fun x=>ltInt x d[a]!) d a j hs hj (fun i h=>ALU d a i j hs ha hj h) _ i many rfl hi' (by omega)]
 generalize scanUp (fun x=>ltInt x d[a]!) d j i=i2 at *
 have v1:=scanDown_le (fun x => !ltInt x d[a]!) d i2 j
 simp only[Aa]
 rw[Rx _ (fun x => !ltInt x d[a]!) d a i2 (by omega) (fun j h=>ALS d a i2 j hs ha h (by omega)) j many hj (by omega)]
 generalize scanDown (fun x => !ltInt x d[a]!) d i2 j=j2 at *
 simp only[AI]
 by_cases h:j2<i2
 ·simp only[h,Aex,Ago,AfE]
  exact⟨trivial,v1,trivial⟩
 ·have hi2:i2<d.size:=by omega
  have hj2:j2<d.size:=by omega
  simp only[h,Ae1,Ago,Ae0,Ah hi2,Ah hj2,(D0 hi2 hj2).1,(D0 hi2 hj2).2]
  simp (disch:=omega) only[AG,Ao]
  obtain⟨q1,q2,q3⟩:=ih (j2-1+1-(i2+1)) (by omega) (i2+1) (j2-1) (swp d i2 j2) n rfl (by rw[size_swp];omega) (by omega) (by rw[size_swp];omega) (by rw[size_swp];omega) (by rw[size_swp];omega) (by omega)
  exact⟨q1,by omega,by rw[q3,size_swp]⟩
theorem AVI(d:Array Int)(a b p:Nat)(ha:a≤p)(hp:p<b)(hb:b≤d.size)(hs:d.size<4294967296):
  P7 (d.toList,(a:Int),(b:Int),(p:Int),())=some ((partition ltInt d a b p).2.2.toList,(((partition ltInt d a b p).1:Nat):Int),(partition ltInt d a b p).2.1,()):=by
 have hm:4294967296<many:=by simp only[many];omega
 have ha':a<d.size:=by omega
 have hp':p<d.size:=by omega
 rw[ALk,XA,partition]
 simp only[Ah ha',Ah hp',(D0 ha' hp').1,(D0 ha' hp').2]
 have hs':=hs
 rw[← size_swp d a p]at ha' hs' hb
 generalize swp d a p=d at *
 simp (disch:=omega) only[AG,Ao,Aa]
 have u1:=scanUp_ge (fun x=>ltInt x d[a]!) d (b-1) (a+1)
 have u2:=DR (fun x=>ltInt x d[a]!) d (b-1) (a+1) (by omega) (by omega)
 rw[AFw _ (fun x=>ltInt x d[a]!) d a (b-1) hs' (by omega) (fun i h=>ALZ d a i (b-1) hs' ha' (by omega) h) _ (a+1) many rfl (by omega) (by omega)]
 generalize scanUp (fun x=>ltInt x d[a]!) d (b-1) (a+1)=i2 at *
 have v1:=scanDown_le (fun x => !ltInt x d[a]!) d i2 (b-1)
 simp only[]
 rw[Rx _ (fun x => !ltInt x d[a]!) d a i2 (by omega) (fun j h=>ALX d a i2 j hs' ha' h (by omega)) (b-1) many (by omega) (by omega)]
 generalize scanDown (fun x => !ltInt x d[a]!) d i2 (b-1)=j2 at *
 simp only[AI]
 have hj2:j2<d.size:=by omega
 by_cases h:j2<i2
 ·simp only[h,Aex,Ago,AfE,Ah ha',Ah hj2,(D0 hj2 ha').1,(D0 hj2 ha').2]
 ·have hi2:i2<d.size:=by omega
  simp only[h,Ae1,Ago,Ae0,Ah hi2,Ah hj2,(D0 hi2 hj2).1,(D0 hi2 hj2).2]
  simp (disch:=omega) only[AG,Ao]
  obtain⟨q1,q2,q3⟩:=APu a (j2-1+1-(i2+1)) (i2+1) (j2-1) (swp d i2 j2) many rfl (by rw[size_swp];omega) (by omega) (by rw[size_swp];omega) (by rw[size_swp];omega) (by rw[size_swp];omega) (by omega)
  simp only[q1]
  rw[size_swp]at q3
  generalize partLoop ltInt a (i2+1) (j2-1) (swp d i2 j2)=r at *
  have h1:r.1<r.2.size:=by omega
  have h2:a<r.2.size:=by omega
  simp only[Ah h1,Ah h2,(D0 h1 h2).1,(D0 h1 h2).2]
theorem AGv(a:Nat):∀ (k i j:Nat) (d:Array Int) (n:Nat),j+1-i=k→a<d.size→1≤i→i≤d.size→j<d.size→d.size<4294967296→k<n →
  AP Hs n (d.toList,(a:Int),(i:Int),(j:Int),())=some (.inl ((partEqLoop ltInt a i j d).2.toList,(((partEqLoop ltInt a i j d).1:Nat):Int),())):=by
 intro k
 induction k using Nat.strongRecOn with
 |_ k ih=>
 intro i j d n hk ha hi hi' hj hs hn
 have hm:4294967296<many:=by simp only[many];omega
 obtain⟨n,rfl⟩:∃ k,n=k+1:=⟨n-1,by omega⟩
 rw[partEqLoop_eq,AP,Hs]
 have u1:=scanUp_ge (fun x => !ltInt d[a]! x) d j i
 have u2:=DR (fun x => !ltInt d[a]! x) d j i hj hi'
 rw[Aa,AFw _ (fun x => !ltInt d[a]! x) d a j hs hj (fun i h=>ACm d a i j hs ha hj h) _ i many rfl hi' (by omega)]
 generalize scanUp (fun x => !ltInt d[a]! x) d j i=i2 at *
 have v1:=scanDown_le (fun x=>ltInt d[a]! x) d i2 j
 simp only[Aa]
 rw[Rx _ (fun x=>ltInt d[a]! x) d a i2 (by omega) (fun j h=>ACk d a i2 j hs ha h (by omega)) j many hj (by omega)]
 generalize scanDown (fun x=>ltInt d[a]! x) d i2 j=j2 at *
 simp only[AI]
 by_cases h:j2<i2
 ·simp only[h,Aex,Ago,AfE]
 ·have hi2:i2<d.size:=by omega
  have hj2:j2<d.size:=by omega
  simp only[h,Ae1,Ago,Ae0,Ah hi2,Ah hj2,(D0 hi2 hj2).1,(D0 hi2 hj2).2]
  simp (disch:=omega) only[AG,Ao]
  exact ih (j2-1+1-(i2+1)) (by omega) (i2+1) (j2-1) (swp d i2 j2) n rfl (by rw[size_swp];omega) (by omega) (by rw[size_swp];omega) (by rw[size_swp];omega) (by rw[size_swp];omega) (by omega)
theorem ALq(d:Array Int)(a b p:Nat)(ha:a≤p)(hp:p<b)(hb:b≤d.size)(hs:d.size<4294967296):
  M9 (d.toList,(a:Int),(b:Int),(p:Int),())=some ((partitionEqual ltInt d a b p).2.toList,(((partitionEqual ltInt d a b p).1:Nat):Int),()):=by
 have hm:4294967296<many:=by simp only[many];omega
 have ha':a<d.size:=by omega
 have hp':p<d.size:=by omega
 rw[Zl,M8,partitionEqual]
 simp only[Ah ha',Ah hp',(D0 ha' hp').1,(D0 ha' hp').2]
 have hs':=hs
 rw[← size_swp d a p]at ha' hs' hb
 generalize swp d a p=d at *
 simp (disch:=omega) only[AG,Ao,Aa]
 rw[AGv a _ (a+1) (b-1) d many rfl ha' (by omega) (by omega) (by omega) hs' (by omega)]
end Go.Pev.Pl.SI
end
section
namespace Go.Pev.Pl.SI
open Go.Sort
theorem E1(d:Array Int)(b:Nat):∀ (k i:Nat),b-i=k→i≤b→i≤scanSorted ltInt d b i∧scanSorted ltInt d b i≤b:=by
 intro k
 induction k using Nat.strongRecOn with
 |_ k ih=>
 intro i hk hi
 rw[scanSorted]
 split
 ·rename_i h
  have:i<b:=by simp at h;exact h.1
  have:=ih (b-(i+1)) (by omega) (i+1) rfl (by omega)
  omega
 ·omega
theorem ACa(d:Array Int)(a b s:Nat)(hb:b≤d.size)(hs:d.size<4294967296):∀ (k i n:Nat),b-i=k→1≤i→i≤b→k<n →
  AP Ga n (d.toList,(a:Int),(b:Int),(i:Int),(s:Int),())=some (.inl (d.toList,(a:Int),(b:Int),((scanSorted ltInt d b i:Nat):Int),(s:Int),())):=by
 intro k
 induction k using Nat.strongRecOn with
 |_ k ih=>
 intro i n hk h1 hi hn
 obtain⟨n,rfl⟩:∃ k,n=k+1:=⟨n-1,by omega⟩
 rw[scanSorted,AP,Ga]
 simp only[AI]
 by_cases h:i<b
 ·have i0:i<d.size:=by omega
  have i1:i-1<d.size:=by omega
  simp (disch:=omega) only[h,Aex,Ao,AG,Ah,Ar,B2,Ag9]
  cases h2:ltInt d[i]! d[i-1]!
  ·simp only[AfC,AfE]
   exact ih (b-(i+1)) (by omega) (i+1) n rfl (by omega) (by omega) (by omega)
  ·simp only[Aer,Aey,Ae0]
 ·simp only[h,Ae1,AgF,Aey,Ae0]
theorem ACc(a b i s:Nat):∀ (j:Nat) (d:Array Int) (n:Nat),j<d.size→d.size<4294967296→j<n →
  AP Er n (d.toList,(a:Int),(b:Int),(i:Int),(s:Int),(j:Int),())=some (.inl ((shiftDown ltInt j d).toList,(a:Int),(b:Int),(i:Int),(s:Int),())):=by
 intro j
 induction j with
 |zero=>
  intro d n hj hs hn
  obtain⟨n,rfl⟩:∃ k,n=k+1:=⟨n-1,by omega⟩
  rw[AP,Er,Ap,Aei (by omega)]
  rfl
 |succ j ih=>
  intro d n hj hs hn
  obtain⟨n,rfl⟩:∃ k,n=k+1:=⟨n-1,by omega⟩
  have hj':j<d.size:=by omega
  rw[shiftDown,AP,Er,Ap,Aej (by omega)]
  simp (disch:=omega) only[Ao,Nat.add_sub_cancel,Ah,Ar,B2]
  cases h2:ltInt d[j+1]! d[j]!
  ·simp only[AfC,AfE]
  ·have e1:=D0 hj hj'
   simp only[Ar hj,Ar hj']at e1
   simp only[Aer,Aey,Ae0,e1]
   exact ih _ n (by rw[size_swp];omega) (by rw[size_swp];omega) (by omega)
theorem UX(a b i s:Nat):∀ (k j:Nat) (d:Array Int) (n:Nat),b-j=k→1≤j→b≤d.size→d.size<4294967296→k<n →
  AP Ep n (d.toList,(a:Int),(b:Int),(i:Int),(s:Int),(j:Int),())=some (.inl ((shiftUp ltInt b j d).toList,(a:Int),(b:Int),(i:Int),(s:Int),())):=by
 intro k
 induction k using Nat.strongRecOn with
 |_ k ih=>
 intro j d n hk h1 hb hs hn
 obtain⟨n,rfl⟩:∃ k,n=k+1:=⟨n-1,by omega⟩
 rw[shiftUp,AP,Ep]
 simp only[AI]
 by_cases h:j<b
 ·have i0:j<d.size:=by omega
  have i1:j-1<d.size:=by omega
  simp (disch:=omega) only[h,Aex,AfE,Ao,AG,Ah,Ar,B2]
  cases h2:ltInt d[j]! d[j-1]!
  ·simp only[AfC,AfE]
  ·have e1:=D0 i0 i1
   simp only[Ar i0,Ar i1]at e1
   simp only[Aer,Aey,Ae0,e1]
   exact ih (b-(j+1)) (by omega) (j+1) _ n rfl (by omega) (by rw[size_swp];omega) (by rw[size_swp];omega) (by omega)
 ·simp only[h,Ae1,Ae0]
theorem Hh:∀ (j:Nat) (d:Array Int),(shiftDown ltInt j d).size=d.size:=by
 intro j
 induction j with
 |zero=>intro d;rfl
 |succ j ih=>
  intro d
  rw[shiftDown]
  split
  ·rfl
  ·rw[ih,size_swp]
theorem CC(b:Nat):∀ (k j:Nat) (d:Array Int),b-j=k→(shiftUp ltInt b j d).size=d.size:=by
 intro k
 induction k using Nat.strongRecOn with
 |_ k ih=>
 intro j d hk
 rw[shiftUp]
 split
 ·split
  ·rfl
  ·rw[ih (b-(j+1)) (by omega) (j+1) _ rfl,size_swp]
 ·rfl
theorem ACb(a b:Nat)(hab:a<b):∀ (k i s:Nat) (d:Array Int) (n:Nat),s+k=5→a+1≤i→i≤b→b≤d.size→d.size<4294967296→k<n →
  AP CS n (d.toList,(a:Int),(b:Int),(i:Int),(s:Int),())=some (.inl ((partialIns ltInt a b k i d).1.toList,(partialIns ltInt a b k i d).2,())) ∨
  ((partialIns ltInt a b k i d).2=false∧AP CS n (d.toList,(a:Int),(b:Int),(i:Int),(s:Int),())=some (.inr (.inl ((partialIns ltInt a b k i d).1.toList,())))):=by
 intro k
 induction k with
 |zero=>
  intro i s d n hk h1 hi hb hs hn
  obtain⟨n,rfl⟩:∃ k,n=k+1:=⟨n-1,by omega⟩
  rw[AP,CS,Am,Aei (by omega)]
  exact .inr ⟨rfl,rfl⟩
 |succ k ih=>
  intro i s d n hk h1 hi hb hs hn
  have hm:4294967296<many:=by simp only[many];omega
  have es:IntKind.wrap .i64 ((s:Int)+1)=((s+1:Nat):Int):=AG (by omega)
  obtain⟨n,rfl⟩:∃ k,n=k+1:=⟨n-1,by omega⟩
  rw[AP,CS,Am,Aej (by omega),partialIns]
  simp only[Aa,ACa d a b s hb hs (b-i) i many rfl (by omega) hi (by omega)]
  have hsc:=E1 d b _ i rfl hi
  generalize scanSorted ltInt d b i=i2 at *
  simp only[QX]
  by_cases h2:i2=b
  ·simp only[h2,Aex,AfE,true_or]
  ·simp (disch:=omega) only[h2,Ae1,Ae0,Bd,Am,Ap]
   by_cases h3:b-a<50
   ·rw[Aez h3,Aej (by omega)]
    exact .inl rfl
   ·have i0:i2<d.size:=by omega
    have i1:i2-1<d.size:=by omega
    rw[Aev h3,Aei (by omega)]
    simp (disch:=omega) only[Ao,AG,Ah i0,Ah i1,(D0 i0 i1).1,(D0 i0 i1).2]
    have hsz:=size_swp d i2 (i2-1)
    generalize swp d i2 (i2-1)=d2 at *
    by_cases h4:i2-a≥2
    ·rw[Aez h4,Aej (show(2:Int)≤((i2-a:Nat):Int) by omega)]
     simp only[ACc a b i2 s (i2-1) d2 many (by omega) (by omega) (by omega)]
     have hsz2:=Hh (i2-1) d2
     generalize shiftDown ltInt (i2-1) d2=d3 at *
     simp (disch:=omega) only[Bd,AG]
     by_cases h5:b-i2≥2
     ·rw[Aez h5,Aej (show(2:Int)≤((b-i2:Nat):Int) by omega)]
      simp only[UX a b i2 s _ (i2+1) d3 many rfl (by omega) (by omega) (by omega) (by omega)]
      simp only[es]
      exact ih i2 (s+1) (shiftUp ltInt b (i2+1) d3) n (by omega) (by omega) (by omega) (by rw[CC b (b-(i2+1)) (i2+1) _ rfl];omega) (by rw[CC b (b-(i2+1)) (i2+1) _ rfl];omega) (by omega)
     ·rw[Aev h5,Aei (show ¬ (2:Int)≤((b-i2:Nat):Int) by omega)]
      simp only[es]
      exact ih i2 (s+1) d3 n (by omega) (by omega) (by omega) (by omega) (by omega) (by omega)
    ·rw[Aev h4,Aei (show ¬ (2:Int)≤((i2-a:Nat):Int) by omega)]
     by_cases h5:b-i2≥2
     ·rw[Aez h5,Aej (show(2:Int)≤((b-i2:Nat):Int) by omega)]
      simp only[UX a b i2 s _ (i2+1) d2 many rfl (by omega) (by omega) (by omega) (by omega)]
      simp only[es]
      exact ih i2 (s+1) (shiftUp ltInt b (i2+1) d2) n (by omega) (by omega) (by omega) (by rw[CC b (b-(i2+1)) (i2+1) _ rfl];omega) (by rw[CC b (b-(i2+1)) (i2+1) _ rfl];omega) (by omega)
     ·rw[Aev h5,Aei (show ¬ (2:Int)≤((b-i2:Nat):Int) by omega)]
      simp only[es]
      exact ih i2 (s+1) d2 n (by omega) (by omega) (by omega) (by omega) (by omega) (by omega)
theorem AGm(d:Array Int)(a b:Nat)(hab:a<b)(hb:b≤d.size)(hs:d.size<4294967296):
  JU (d.toList,(a:Int),(b:Int),())=some ((partialInsertionSort ltInt d a b).1.toList,(partialInsertionSort ltInt d a b).2,()):=by
 have hm:4294967296<many:=by simp only[many];omega
 rw[VG,KB,partialInsertionSort]
 simp (disch:=omega) only[AG,Aa]
 have h:=ACb a b hab 5 (a+1) 0 d many rfl (Aew _) (by omega) hb hs (by omega)
 rcases h with h|⟨h0,h⟩
 ·have h':AP CS many (d.toList,(a:Int),(b:Int),((a+1:Nat):Int),(0:Int),())=_:=h
  rw[h']
 ·have h':AP CS many (d.toList,(a:Int),(b:Int),((a+1:Nat):Int),(0:Int),())=_:=h
  rw[h',h0]
theorem Ly(d:Array Int)(a b:Nat)(s:Int)(ha:a<d.size)(hb:b<d.size):
  ∃ s' p q,KG (d.toList,(a:Int),(b:Int),s,())=some (d.toList,s',((p:Nat):Int),((q:Nat):Int),())∧(p=a∧q=b∨p=b∧q=a):=by
 rw[Zn,NB]
 simp only[Ah ha,Ah hb,Ar ha,Ar hb,B2]
 cases ltInt d[b]! d[a]!
 ·exact⟨_,a,b,rfl,.inl ⟨rfl,rfl⟩⟩
 ·exact⟨_,b,a,rfl,.inr ⟨rfl,rfl⟩⟩
theorem L6(d:Array Int)(a b c:Nat)(s:Int)(ha:a<d.size)(hb:b<d.size)(hc:c<d.size):
  ∃ s' p,KN (d.toList,(a:Int),(b:Int),(c:Int),s,())=some (d.toList,s',((p:Nat):Int),())∧(p=a∨p=b∨p=c):=by
 rw[Zw,NJ]
 obtain⟨s1,p1,q1,e1,h1⟩:=Ly d a b s ha hb
 simp only[e1]
 obtain⟨s2,p2,q2,e2,h2⟩:=Ly d q1 c s1 (by omega) hc
 simp only[e2]
 obtain⟨s3,p3,q3,e3,h3⟩:=Ly d p1 p2 s2 (by omega) (by omega)
 simp only[e3]
 exact⟨_,q3,rfl,by omega⟩
theorem L8(d:Array Int)(a:Nat)(s:Int)(h1:1≤a)(ha:a+1<d.size)(hs:d.size<4294967296):
  ∃ s' p,KO (d.toList,(a:Int),s,())=some (d.toList,s',((p:Nat):Int),())∧a≤p+1∧p≤a+1:=by
 rw[Zx,NM]
 simp (disch:=omega) only[Ao,AG]
 obtain⟨s1,p1,e1,h1⟩:=L6 d (a-1) a (a+1) s (by omega) (by omega) ha
 simp only[e1]
 exact⟨_,p1,rfl,by omega⟩
theorem APX(d:Array Int)(a b:Nat)(hab:a+8≤b)(hb:b≤d.size)(hs:d.size<4294967296):
  ∃ p h,SC (d.toList,(a:Int),(b:Int),())=some (d.toList,((p:Nat):Int),h,())∧a≤p∧p<b:=by
 rw[AD1,Px]
 simp (disch:=omega) only[Bd,UC,ADK,Ei,ADJ,wrap_add,Ap]
 rw[Aej (show(8:Int)≤((b-a:Nat):Int) by omega)]
 simp only[]
 by_cases h:50≤b-a
 ·rw[Aej (show(50:Int)≤((b-a:Nat):Int) by omega)]
  simp only[]
  obtain⟨s1,p1,e1,h1⟩:=L8 d (a+(b-a)/4*1) 0 (by omega) (by omega) hs
  simp only[e1]
  obtain⟨s2,p2,e2,h2⟩:=L8 d (a+(b-a)/4*2) s1 (by omega) (by omega) hs
  simp only[e2]
  obtain⟨s3,p3,e3,h3⟩:=L8 d (a+(b-a)/4*3) s2 (by omega) (by omega) hs
  simp only[e3]
  obtain⟨s4,p4,e4,h4⟩:=L6 d p1 p2 p3 s3 (by omega) (by omega) (by omega)
  simp only[e4]
  cases ieq s4 0
  ·cases ieq s4 12
   ·exact⟨p4,_,rfl,by omega,by omega⟩
   ·exact⟨p4,_,rfl,by omega,by omega⟩
  ·exact⟨p4,_,rfl,by omega,by omega⟩
 ·rw[Aei (show ¬ (50:Int)≤((b-a:Nat):Int) by omega)]
  simp only[]
  obtain⟨s4,p4,e4,h4⟩:=L6 d (a+(b-a)/4*1) (a+(b-a)/4*2) (a+(b-a)/4*3) 0 (by omega) (by omega) (by omega)
  simp only[e4]
  cases ieq s4 0
  ·cases ieq s4 12
   ·exact⟨p4,_,rfl,by omega,by omega⟩
   ·exact⟨p4,_,rfl,by omega,by omega⟩
  ·exact⟨p4,_,rfl,by omega,by omega⟩
end Go.Pev.Pl.SI
end
section
namespace Go.Pev.Pl.SI
open Go.Sort
theorem ANd(a b:Nat)(m:Nat)(h8:a+8≤b)(hm1:1≤m)(hm:m≤2*(b-a)):∀ (k t:Nat) (d:Array Int) (r:Int) (n:Nat),t+k=3→b≤d.size→d.size<4294967296→k<n →
  ∃ d':Array Int,AP GC n (d.toList,(a:Int),((b-a:Nat):Int),r,(m:Int),((a+(b-a)/4*2-1+t:Nat):Int),())=some (.inl (d'.toList,()))∧PermIn a b d d':=by
 intro k
 induction k with
 |zero=>
  intro t d r n hk hb hs hn
  obtain⟨n,rfl⟩:∃ k,n=k+1:=⟨n-1,by omega⟩
  rw[AP,GC]
  simp (disch:=omega) only[UC,Ei,wrap_add,AG,Bo]
  rw[Aei (by omega)]
  exact⟨d,rfl,permIn_refl d a b⟩
 |succ k ih=>
  intro t d r n hk hb hs hn
  obtain⟨n,rfl⟩:∃ k,n=k+1:=⟨n-1,by omega⟩
  rw[AP,GC]
  simp (disch:=omega) only[UC,Ei,wrap_add,AG,Bo]
  rw[Aej (show a+(b-a)/4*2-1+t≤a+(b-a)/4*2+1 by omega)]
  obtain⟨r',y,e⟩:=T4 r
  obtain⟨o,e2,ho⟩:=ALt y m hm1 (by omega)
  simp only[e,e2]
  rw[Aj (n:=(o:Int)) (by omega)]
  simp only[Bo]
  have i0:a+(b-a)/4*2-1+t<d.size:=by omega
  have fin:∀ q:Nat,a≤q→q<b→∃ d':Array Int,AP GC n ((swp d (a+(b-a)/4*2-1+t) q).toList,(a:Int),((b-a:Nat):Int),r',(m:Int),((a+(b-a)/4*2-1+t+1:Nat):Int),())=some (.inl (d'.toList,()))∧PermIn a b d d':=by
   intro q hq1 hq2
   obtain⟨d',e',hp⟩:=ih (t+1) (swp d (a+(b-a)/4*2-1+t) q) r' n (by omega) (by rw[size_swp];omega) (by rw[size_swp];omega) (by omega)
   exact⟨d',e',permIn_trans _ _ _ a b (swp_permIn d a b _ q (by omega) (by omega) hq1 hq2 hb) hp⟩
  by_cases h:b-a≤o
  ·have i1:a+(o-(b-a))<d.size:=by omega
   simp (disch:=omega) only[h,Aex,Bd,wrap_add,AG,Ah i0,Ah i1,(D0 i0 i1).1,(D0 i0 i1).2]
   exact fin _ (by omega) (by omega)
  ·have i1:a+o<d.size:=by omega
   simp (disch:=omega) only[h,Ae1,Bd,wrap_add,AG,Ah i0,Ah i1,(D0 i0 i1).1,(D0 i0 i1).2]
   exact fin _ (by omega) (by omega)
theorem ASE(d:Array Int)(a b:Nat)(hab:a≤b)(hb:b≤d.size)(hs:d.size<4294967296):
  ∃ d':Array Int,Ta (d.toList,(a:Int),(b:Int),())=some (d'.toList,())∧PermIn a b d d':=by
 have hm:4294967296<many:=by simp only[many];omega
 rw[AEk,Q3]
 simp (disch:=omega) only[Bd,Ap]
 by_cases h:8≤b-a
 ·rw[Aej (show(8:Int)≤((b-a:Nat):Int) by omega)]
  obtain⟨m,e,h1,h2⟩:=VI (b-a) (by omega) (by omega)
  simp only[e]
  rw[u64_in (n:=((b-a:Nat):Int)) (by omega)]
  simp (disch:=omega) only[UC,Ei,wrap_add,Ao,Aa]
  obtain⟨d',e2,hp⟩:=ANd a b m (by omega) h1 h2 3 0 d ((b-a:Nat):Int) many rfl hb hs (by omega)
  rw[AgK]at e2
  simp only[e2]
  exact⟨d',rfl,hp⟩
 ·rw[Aei (show ¬ (8:Int)≤((b-a:Nat):Int) by omega)]
  exact⟨d,rfl,permIn_refl d a b⟩
end Go.Pev.Pl.SI
end
section
namespace Go.Pev.Pl.SI
open Go.Sort
abbrev ATu:=List Int×Int×Int×Int×Bool×Bool×Unit
abbrev HG:=ATu⊕(List Int×Unit)⊕Unit
noncomputable section
def M5(self:(List Int×Int×Int×Int×Unit)→Option ((List Int×Unit)))(y7:List Int)(a1 a2 p l:Int)(a4 a5:Bool):Option HG:=
 match(ilt (0:Int) a1)with
 |true=>match idx y7 (IntKind.wrap .i64 (a1-(1:Int)))with
  |none=>none
  |some x9=>match idx y7 p with
   |none=>none
   |some x10=>match EB ((AL y7 (AE (IntKind.wrap .i64 (a1-(1:Int)))) (0:Int)),(AL y7 (AE p) (0:Int)),())with
    |none=>none
    |some (y11,_)=>match(!y11)with
     |true=>match M9 (y7,a1,a2,p,())with
      |none=>none
      |some (y12,y13,_)=>some (.inl (y12,y13,a2,l,a4,a5,()))
     |false=>match P7 (y7,a1,a2,p,())with
      |none=>none
      |some (y14,y15,y16,_)=>match quo? .i64 (IntKind.wrap .i64 (a2-a1)) (8:Int)with
       |none=>none
       |some x17=>match(ilt (IntKind.wrap .i64 (y15-a1)) (IntKind.wrap .i64 (a2-y15)))with
        |true=>match self (y14,a1,y15,l,())with
         |none=>none
         |some (y18,_)=>some (.inl (y18,(IntKind.wrap .i64 (y15+(1:Int))),a2,l,(ile x17 (IntKind.wrap .i64 (y15-a1))),y16,()))
        |false=>match self (y14,(IntKind.wrap .i64 (y15+(1:Int))),a2,l,())with
         |none=>none
         |some (y19,_)=>some (.inl (y19,a1,y15,l,(ile x17 (IntKind.wrap .i64 (a2-y15))),y16,()))
 |false=>match P7 (y7,a1,a2,p,())with
  |none=>none
  |some (y20,y21,y22,_)=>match quo? .i64 (IntKind.wrap .i64 (a2-a1)) (8:Int)with
   |none=>none
   |some x23=>match(ilt (IntKind.wrap .i64 (y21-a1)) (IntKind.wrap .i64 (a2-y21)))with
    |true=>match self (y20,a1,y21,l,())with
     |none=>none
     |some (y24,_)=>some (.inl (y24,(IntKind.wrap .i64 (y21+(1:Int))),a2,l,(ile x23 (IntKind.wrap .i64 (y21-a1))),y22,()))
    |false=>match self (y20,(IntKind.wrap .i64 (y21+(1:Int))),a2,l,())with
     |none=>none
     |some (y25,_)=>some (.inl (y25,a1,y21,l,(ile x23 (IntKind.wrap .i64 (a2-y21))),y22,()))
def AGh(self:(List Int×Int×Int×Int×Unit)→Option ((List Int×Unit)))(y6:List Int)(a1 a2 p h l:Int)(a4 a5:Bool):Option HG:=
 match a4 with
 |true=>match a5 with
  |true=>match(ieq h (1:Int))with
   |true=>match JU (y6,a1,a2,())with
    |none=>none
    |some (y7,y8,_)=>match y8 with
     |true=>some (.inr (.inl (y7,())))
     |false=>M5 self y7 a1 a2 p l a4 a5
   |false=>M5 self y6 a1 a2 p l a4 a5
  |false=>M5 self y6 a1 a2 p l a4 a5
 |false=>M5 self y6 a1 a2 p l a4 a5
def AGZ(self:(List Int×Int×Int×Int×Unit)→Option ((List Int×Unit)))(y2:List Int)(a1 a2 l:Int)(a4 a5:Bool):Option HG:=
 match SC (y2,a1,a2,())with
 |none=>none
 |some (y3,y4,y5,_)=>match(ieq y5 (2:Int))with
  |true=>match AUr (y3,a1,a2,())with
   |none=>none
   |some (y6,_)=>AGh self y6 a1 a2 (IntKind.wrap .i64 ((IntKind.wrap .i64 (a2-(1:Int)))-(IntKind.wrap .i64 (y4-a1)))) 1 l a4 a5
  |false=>AGh self y3 a1 a2 y4 y5 l a4 a5
def AKo(self:(List Int×Int×Int×Int×Unit)→Option ((List Int×Unit))):ATu→Option HG:=fun(a0,a1,a2,a3,a4,a5,_)=>
 match(ile (IntKind.wrap .i64 (a2-a1)) (12:Int))with
 |true=>match AWE (a0,a1,a2,())with
  |none=>none
  |some (y0,_)=>some (.inr (.inl (y0,())))
 |false=>match(ieq a3 (0:Int))with
  |true=>match AES (a0,a1,a2,())with
   |none=>none
   |some (y1,_)=>some (.inr (.inl (y1,())))
  |false=>match(!a4)with
   |true=>match Ta (a0,a1,a2,())with
    |none=>none
    |some (y2,_)=>AGZ self y2 a1 a2 (IntKind.wrap .i64 (a3-(1:Int))) a4 a5
   |false=>AGZ self a0 a1 a2 a3 a4 a5
theorem ACX:M6=AKo:=rfl
end
def IS(d:Array Int)(a b:Nat):HG→Prop
 |.inl (xs,x,y,l,_,_,_)=>∃ (e:Array Int) (i j:Nat),xs=e.toList∧x=(i:Int)∧y=(j:Int)∧0≤l∧l≤100∧i≤j∧j≤e.size∧e.size=d.size∧j-i<b-a∧Below ltInt i j e ∧
   ∀ R,PermIn i j e R→SortedIn ltInt i j R→PermIn a b d R∧SortedIn ltInt a b R
 |.inr (.inl (xs,_))=>∃ R:Array Int,xs=R.toList∧PermIn a b d R∧SortedIn ltInt a b R
 |.inr (.inr _)=>False
def Bk(self:(List Int×Int×Int×Int×Unit)→Option ((List Int×Unit)))(m:Nat):Prop:=
 ∀ (d:Array Int) (a b:Nat) (l:Int),a≤b→b≤d.size→d.size<4294967296→0≤l→l≤100→Below ltInt a b d→2*(b-a)<m →
  ∃ R:Array Int,self (d.toList,(a:Int),(b:Int),l,())=some (R.toList,())∧PermIn a b d R∧SortedIn ltInt a b R
section
variable {self:(List Int×Int×Int×Int×Unit)→Option ((List Int×Unit))} {d:Array Int} {a b:Nat} {l:Int}
theorem Ln(hself:Bk self (b-a))(hb:b≤d.size)(hs:d.size<4294967296)(hl:0≤l∧l≤100)
  {d3:Array Int} {p:Nat} (P3:PermIn a b d d3) (B3:Below ltInt a b d3) (hp1:a≤p) (hp2:p<b) :
  ∃ o,(match P7 (d3.toList,(a:Int),(b:Int),(p:Int),())with
  |none=>none
  |some (y20,y21,y22,_)=>match quo? .i64 (IntKind.wrap .i64 ((b:Int)-(a:Int))) (8:Int)with
   |none=>none
   |some x23=>match(ilt (IntKind.wrap .i64 (y21-(a:Int))) (IntKind.wrap .i64 ((b:Int)-y21)))with
    |true=>match self (y20,(a:Int),y21,l,())with
     |none=>none
     |some (y24,_)=>some ((.inl (y24,(IntKind.wrap .i64 (y21+(1:Int))),(b:Int),l,(ile x23 (IntKind.wrap .i64 (y21-(a:Int)))),y22,())):HG)
    |false=>match self (y20,(IntKind.wrap .i64 (y21+(1:Int))),(b:Int),l,())with
     |none=>none
     |some (y25,_)=>some (.inl (y25,(a:Int),y21,l,(ile x23 (IntKind.wrap .i64 ((b:Int)-y21))),y22,())))=some o∧IS d a b o:=by
 have b3:b≤d3.size:=by rw[P3.1];exact hb
 have s3:d3.size<4294967296:=by rw[P3.1];exact hs
 rw[AVI d3 a b p hp1 hp2 b3 s3]
 rcases hx:partition ltInt d3 a b p with⟨mid,ap,d4⟩
 obtain⟨g1,g2,hs4,hBa,hBr,hleft,hright⟩:=round_part swo_ltInt (partition_holds _) hp1 hp2 b3 B3 hx
 simp (disch:=omega) only[Bd,AG,AdP,AI]
 have b4:b≤d4.size:=by omega
 by_cases h:mid-a<b-mid
 ·obtain⟨L,e,l1,l2⟩:=hself d4 a mid l g1 (by omega) (by omega) hl.1 hl.2 hBa (by omega)
  simp only[h,Aex,e]
  obtain⟨hBL,hfin⟩:=hleft _ l1 l2
  refine⟨_,rfl,L,mid+1,b,rfl,rfl,rfl,hl.1,hl.2,by omega,by rw[l1.1];exact b4,by rw[l1.1,hs4,P3.1],by omega,hBL,fun R r1 r2 => ?_⟩
  obtain⟨q1,q2⟩:=hfin R r1 r2
  exact⟨permIn_trans _ _ _ a b P3 q1,q2⟩
 ·obtain⟨L,e,l1,l2⟩:=hself d4 (mid+1) b l (by omega) (by omega) (by omega) hl.1 hl.2 hBr (by omega)
  simp only[h,Ae1,e]
  obtain⟨hBL,hfin⟩:=hright _ l1 l2
  refine⟨_,rfl,L,a,mid,rfl,rfl,rfl,hl.1,hl.2,by omega,by rw[l1.1];omega,by rw[l1.1,hs4,P3.1],by omega,hBL,fun R r1 r2 => ?_⟩
  obtain⟨q1,q2⟩:=hfin R r1 r2
  exact⟨permIn_trans _ _ _ a b P3 q1,q2⟩
theorem E4(hself:Bk self (b-a))(hb:b≤d.size)(hs:d.size<4294967296)(hl:0≤l∧l≤100)
  {d3:Array Int} {p:Nat} (wb wp:Bool) (P3:PermIn a b d d3) (B3:Below ltInt a b d3) (hp1:a≤p) (hp2:p<b) :
  ∃ o,M5 self d3.toList (a:Int) (b:Int) (p:Int) l wb wp=some o∧IS d a b o:=by
 have b3:b≤d3.size:=by rw[P3.1];exact hb
 have s3:d3.size<4294967296:=by rw[P3.1];exact hs
 rw[M5,Am]
 by_cases h0:0<a
 ·rw[Aej (by omega)]
  have i0:a-1<d3.size:=by omega
  have i1:p<d3.size:=by omega
  simp (disch:=omega) only[Ao,Ah,Ar,B2]
  cases hc:ltInt d3[a-1]! d3[p]!
  ·simp only[AfC]
   rw[ALq d3 a b p hp1 hp2 b3 s3]
   rcases hx:partitionEqual ltInt d3 a b p with⟨mid,d4⟩
   obtain⟨hm1,hm2,hs4,hB4,hfin⟩:=round_eq swo_ltInt (partitionEqual_holds _) h0 hp1 hp2 b3 B3 hc hx
   refine⟨_,rfl,d4,mid,b,rfl,rfl,rfl,hl.1,hl.2,by omega,by omega,by rw[hs4,P3.1],by omega,hB4,fun R r1 r2 => ?_⟩
   obtain⟨q1,q2⟩:=hfin R r1 r2
   exact⟨permIn_trans _ _ _ a b P3 q1,q2⟩
  ·simp only[Aer]
   exact Ln hself hb hs hl P3 B3 hp1 hp2
 ·rw[Aei (by omega)]
  exact Ln hself hb hs hl P3 B3 hp1 hp2
theorem P2(hself:Bk self (b-a))(hab:a<b)(hb:b≤d.size)(hs:d.size<4294967296)(hl:0≤l∧l≤100)
  {d3:Array Int} {p:Nat} (h:Int) (wb wp:Bool) (P3:PermIn a b d d3) (B3:Below ltInt a b d3) (hp1:a≤p) (hp2:p<b) :
  ∃ o,AGh self d3.toList (a:Int) (b:Int) (p:Int) h l wb wp=some o∧IS d a b o:=by
 have b3:b≤d3.size:=by rw[P3.1];exact hb
 have s3:d3.size<4294967296:=by rw[P3.1];exact hs
 unfold AGh
 cases wb
 ·exact E4 hself hb hs hl _ _ P3 B3 hp1 hp2
 ·cases wp
  ·exact E4 hself hb hs hl _ _ P3 B3 hp1 hp2
  ·simp only[]
   cases ieq h 1
   ·exact E4 hself hb hs hl _ _ P3 B3 hp1 hp2
   ·simp only[]
    rw[AGm d3 a b hab b3 s3]
    obtain⟨q1,q2⟩:=partialInsertionSort_holds (lt:=ltInt) swo_ltInt d3 a b hab b3 B3
    rcases hx:partialInsertionSort ltInt d3 a b with⟨d4,fin⟩
    rw[hx]at q1 q2
    have P4:PermIn a b d d4:=permIn_trans _ _ _ a b P3 q1
    cases fin
    ·exact E4 hself hb hs hl _ _ P4 (B3.perm b3 q1) hp1 hp2
    ·exact⟨_,rfl,d4,rfl,P4,q2 rfl⟩
theorem P1(hself:Bk self (b-a))(hab:a+8≤b)(hb:b≤d.size)(hs:d.size<4294967296)(hl:0≤l∧l≤100)
  {d3:Array Int} (wb wp:Bool) (P3:PermIn a b d d3) (B3:Below ltInt a b d3) :
  ∃ o,AGZ self d3.toList (a:Int) (b:Int) l wb wp=some o∧IS d a b o:=by
 have b3:b≤d3.size:=by rw[P3.1];exact hb
 have s3:d3.size<4294967296:=by rw[P3.1];exact hs
 rw[AGZ]
 obtain⟨p,h,e,hp1,hp2⟩:=APX d3 a b hab b3 s3
 simp only[e]
 cases ieq h 2
 ·exact P2 hself (by omega) hb hs hl h _ _ P3 B3 hp1 hp2
 ·simp only[AYT d3 a b (by omega) b3 s3]
  have q1:=reverseRange_holds (α:=Int) d3 a b (by omega) b3
  simp (disch:=omega) only[Ao,Bd]
  exact P2 hself (by omega) hb hs hl 1 _ _ (permIn_trans _ _ _ a b P3 q1) (B3.perm b3 q1) (by omega) (by omega)
theorem SF(hself:Bk self (b-a))(hab:a≤b)(hb:b≤d.size)(hs:d.size<4294967296)(hl:0≤l∧l≤100)(wb wp:Bool)(B:Below ltInt a b d):
  ∃ o,M6 self (d.toList,(a:Int),(b:Int),l,wb,wp,())=some o∧IS d a b o:=by
 rw[ACX,AKo]
 simp (disch:=omega) only[Bd,Ap,D4]
 by_cases h12:b-a≤12
 ·rw[Aej (show((b-a:Nat):Int)≤12 by omega)]
  simp only[AZ7 d a b hab hb hs]
  obtain⟨q1,q2⟩:=insertionSort_holds (lt:=ltInt) swo_ltInt d a b hab hb
  exact⟨_,rfl,_,rfl,q1,q2⟩
 ·rw[Aei (show ¬ ((b-a:Nat):Int)≤12 by omega)]
  simp only[]
  by_cases h0:l=0
  ·subst h0
   simp only[BEq.rfl,AWQ d a b (by omega) hb hs]
   obtain⟨q1,q2⟩:=heapSort_holds (lt:=ltInt) swo_ltInt d a b hab hb
   exact⟨_,rfl,_,rfl,q1,q2⟩
  ·rw[show(l==0)=false by simpa using h0]
   simp only[]
   cases wb
   ·obtain⟨d',e,q1⟩:=ASE d a b hab hb hs
    simp only[AfC,e]
    rw[Aj (by omega)]
    exact P1 hself (by omega) hb hs (by omega) _ _ q1 (B.perm hb q1)
   ·simp only[Aer]
    exact P1 hself (by omega) hb hs hl _ _ (permIn_refl d a b) B
end
theorem Lo{self:(List Int×Int×Int×Int×Unit)→Option ((List Int×Unit))}{m:Nat}(hself:Bk self m):∀ (k:Nat) (d:Array Int) (a b:Nat) (l:Int) (wb wp:Bool) (n:Nat),b-a=k→k≤m→a≤b→b≤d.size→d.size<4294967296→0≤l→l≤100→Below ltInt a b d→k<n →
  ∃ R:Array Int,AP (M6 self) n (d.toList,(a:Int),(b:Int),l,wb,wp,())=some (.inl (R.toList,()))∧PermIn a b d R∧SortedIn ltInt a b R:=by
 intro k
 induction k using Nat.strongRecOn with
 |_ k ih=>
 intro d a b l wb wp n hk hm hab hb hs hl1 hl2 B hn
 obtain⟨n,rfl⟩:∃ k,n=k+1:=⟨n-1,by omega⟩
 have hself':Bk self (b-a):=fun d a' b' l h1 h2 h3 h4 h5 h6 h7=>hself d a' b' l h1 h2 h3 h4 h5 h6 (by omega)
 obtain⟨o,e,ho⟩:=SF hself' hab hb hs ⟨hl1,hl2⟩ wb wp B
 rw[AP,e]
 match o,ho with
 |.inl (xs,x,y,l',wb',wp',_),ho=>
  obtain⟨e',i,j,rfl,rfl,rfl,g1,g2,g3,g4,g5,g6,g7,hfin⟩:=ho
  obtain⟨R,e2,r1,r2⟩:=ih (j-i) (by omega) e' i j l' wb' wp' n rfl (by omega) g3 g4 (by omega) g1 g2 g7 (by omega)
  exact⟨R,e2,hfin R r1 r2⟩
 |.inr (.inl (xs,_)),ho=>
  obtain⟨R,rfl,r1,r2⟩:=ho
  exact⟨R,rfl,r1,r2⟩
theorem SH:∀ k:Nat,Bk (Hp (k+1)) (2 ^ k):=by
 intro k
 have hmany:4294967296<many:=by simp only[many];omega
 induction k with
 |zero=>
  intro d a b l h1 h2 h3 h4 h5 h6 h7
  have:Bk (Hp 0) 0:=fun _ _ _ _ _ _ _ _ _ _ h=>by omega
  obtain⟨R,e,r1,r2⟩:=Lo this (b-a) d a b l true true many rfl (by omega) h1 h2 h3 h4 h5 h6 (by omega)
  refine⟨R,?_,r1,r2⟩
  rw[Hp,AGc]
  simp only[Aa,e]
 |succ k ih=>
  intro d a b l h1 h2 h3 h4 h5 h6 h7
  have hp:2 ^ (k+1)=2*2 ^ k:=by rw[Nat.pow_succ];omega
  obtain⟨R,e,r1,r2⟩:=Lo ih (b-a) d a b l true true many rfl (by omega) h1 h2 h3 h4 h5 h6 (by omega)
  refine⟨R,?_,r1,r2⟩
  rw[Hp,AGc]
  simp only[Aa,e]
def sorted(xs:List Int):List Int:=xs.mergeSort (fun x y=>decide (x≤y))
theorem AUU{d d':Array Int}(h1:PermIn 0 d.size d d')(h2:SortedIn ltInt 0 d.size d'):d'.toList=sorted d.toList:=by
 have h:=sorted_unique_holds (lt:=ltInt) swo_ltInt (fun x y h1 h2=>by simp[ltInt]at h1 h2;omega) d d' h1 h2
 rw[h,sorted]
 congr
 funext x y
 by_cases h:x≤y
 ·simp[ltInt,h,Int.not_lt.2 h]
 ·simp[ltInt,h,Int.not_le.1 h]
theorem AUW(xs:List Int)(h:xs.length<4294967296):AJw (xs,())=some (sorted xs,()):=by
 obtain⟨d,rfl⟩:∃ d:Array Int,xs=d.toList:=⟨xs.toArray,rfl⟩
 rw[Ae8]at h
 rw[AJv,Wz]
 rw[AII,u64_in (by omega)]
 obtain⟨v,e,hv,_⟩:=Mg d.size h
 simp only[e]
 obtain⟨R,e2,r1,r2⟩:=SH 99 d 0 d.size (v:Int) (by omega) (by omega) h (by omega) (by omega) (.inl rfl) (by
  have:2 ^ 99=633825300114114700748351602688:=by decide
  omega)
 have e3:AVA (d.toList,(0:Int),(d.size:Int),(v:Int),())=some (R.toList,()):=by rw[AS4];exact e2
 simp only[e3,AUU r1 r2]
end Go.Pev.Pl.SI
end
section
namespace Go.Pev.Pl
open Tok
theorem AH5{a o:List Int}{m k:Nat}(h:a.drop m=o.drop m)(hk:m≤k):a.getD k 0=o.getD k 0:=by
 have:=AgE (fun l=>l.getD (k-m) 0) h
 simp only[Ael,Afl]at this
 rw[Nat.add_sub_cancel' hk]at this
 simpa [Ael]using this
theorem LW{xs:List Int}{i:Nat}(h:i<xs.length):xs.take (i+1)=xs.take i++[xs.getD i 0]:=by
 rw[Afc h];simp[h]
theorem Aas(o:List Int)(n:Int)(rings:List (List Int))(hs:o.length<4294967296):∀ (k j w:Nat) (a:List Int) (cnt:Nat),j+k=o.length→a.length=o.length→w=(Dr n (o.take j)).length→a.take w=Dr n (o.take j)→w<j→a.drop j=o.drop j→k<cnt →
  ∃ a':List Int,AP CO cnt (a,n,rings,(w:Int),(j:Int),())=some (.inl (a',n,rings,(((Dr n o).length:Nat):Int),()))∧a'.length=o.length∧a'.take (Dr n o).length=Dr n o:=by
 intro k
 induction k with
 |zero=>
  intro j w a cnt hk hl hw hq hwj hd hn
  obtain⟨cnt,rfl⟩:∃ k,cnt=k+1:=⟨cnt-1,by omega⟩
  have e:j=o.length:=by omega
  subst e
  rw[Afw]at hw hq
  rw[AP,CO,AK,AI,Aei (by omega)]
  exact⟨a,by rw[hw],hl,by rw[← hw];exact hq⟩
 |succ k ih=>
  intro j w a cnt hk hl hw hq hwj hd hn
  obtain⟨cnt,rfl⟩:∃ k,cnt=k+1:=⟨cnt-1,by omega⟩
  have g1:a.getD j 0=o.getD j 0:=AH5 hd (Aew _)
  have hdd:a.drop (j+1)=o.drop (j+1):=by
   have:=AgE (List.drop 1) hd
   simpa only[AgP]using this
  have hst:Dr n (o.take (j+1))=Dr n (o.take j)++if n≤o.getD j 0 then []else [o.getD j 0]:=by
   rw[LW (by omega),Dr,Af8]
   generalize o.getD j 0=v
   by_cases h:n≤v<;>simp[Dr,h]
  rw[AP,CO,AK,AI,Aej (by omega)]
  simp (disch:=omega) only[CW (0:Int),Ea,AAy,g1,Ap,AG]
  by_cases h:n≤o.getD j 0
  ·rw[Aej h]
   rw[Aez h,Af0]at hst
   exact ih (j+1) w a cnt (by omega) hl (by rw[hst];exact hw) (by rw[hst];exact hq) (by omega) hdd (by omega)
  ·rw[Aei h]
   rw[Aev h]at hst
   refine ih (j+1) (w+1) (a.set w (o.getD j 0)) cnt (by omega) (by simp[hl]) (by rw[hst];simp[hw]) ?_ (by omega) ?_ (by omega)
   ·rw[hst,← hq,Afc (by simp;omega)]
    simp[List.take_set_of_le]
   ·rw[List.drop_set_of_lt (by omega)]
    exact hdd
theorem AEF{n:Int}{o:List Int}(h:∀ j,j<o.length→decide (n≤o.getD j 0)=false):Dr n o=o:=by
 rw[Dr,AgT]
 intro x hx
 obtain⟨j,hj,e⟩:=Afm hx
 have:=h j hj
 simp only[Ael,Aeo hj,AfK,e]at this
 simp only[this,AfC]
theorem Ac6(o:List Int)(n:Int)(rings:List (List Int))(hs:o.length<4294967296):
  ∃ a:List Int,FL (o,n,rings,())=some (a,n,rings,(((Dr n o).length:Nat):Int),())∧a.take (Dr n o).length=Dr n o:=by
 have hm:4294967296<many:=by simp only[many];omega
 rw[LK,FK,LG,FG]
 simp only[AK]
 rcases YF (step:=Bl) (fun i=>(o,n,rings,(o.length:Int),(i:Int),())) o.length (fun i=>decide (n≤o.getD i 0)) (fun i=>.inl (o,n,rings,(i:Int),())) (.inr (.inl (o,n,rings,()))) (by omega)
   (fun i hi=>by
    rw[Bl]
    simp (disch:=omega) only[AI,hi,Aex,CW (0:Int),Ea,Ap,AG]
    cases decide (n≤o.getD i 0)<;>rfl) (by rw[Bl];simp only[AI,Nat.lt_irrefl,Ae1])with⟨k,hk,hP,hF,e⟩|⟨hP,e⟩
 ·have e':AR Bl many (o,n,rings,(o.length:Int),(0:Int),())=_:=e
  have h0:Dr n (o.take k)=o.take k:=AEF fun j hj=>by
   rw[Ae3]at hj
   have:=hF j (by omega)
   rw[show(o.take k).getD j 0=o.getD j 0 by simp[Ael,List.getElem?_take_of_lt (show j<k by omega)]]
   exact this
  have h1:Dr n (o.take (k+1))=o.take k:=by
   rw[LW hk,Dr,Af8]
   have:(List.filter (fun t => !decide (n≤t)) [o.getD k 0])=[]:=by
    generalize o.getD k 0=v at *
    simp at hP
    simp[hP]
   rw[this,Af0]
   exact h0
  obtain⟨a',e2,e3,e4⟩:=Aas o n rings hs (o.length-(k+1)) (k+1) k o many (by omega) rfl (by rw[h1,Ae3];omega) (by rw[h1]) (by omega) rfl (by omega)
  have hle:(Dr n o).length≤o.length:=AgY _ _
  have hcl:(BV (Dr n o).length (a'.length-(Dr n o).length) 0 a').length=a'.length:=by
   simp[BV];omega
  have s0:B5 (BV (Dr n o).length (a'.length-(Dr n o).length) 0 a') (0:Int) (((Dr n o).length:Nat):Int)=some _:=Rq (l:=0) (by omega) (by omega)
  simp only[e',D4]
  rw[show((k:Int) == -1)=false from beq_false_of_ne (by omega),AG (by omega)]
  simp only[Aa,e2]
  rw[Rq (by omega) (by omega)]
  simp only[Afw,AfI,IF,s0]
  refine⟨BV (Dr n o).length (a'.length-(Dr n o).length) 0 a',?_,?_⟩
  ·simp only[Ae3,Nat.sub_zero]
   rw[Afo (by omega)]
  ·rw[BV,List.take_append_of_le_length (by simp;omega),Agm,Nat.min_self]
   exact e4
 ·have e':AR Bl many (o,n,rings,(o.length:Int),(0:Int),())=_:=e
  have h0:=AEF hP
  simp only[e',D4]
  exact⟨o,by rw[h0];rfl,by rw[h0,Afw]⟩
theorem AJt{n:Int}{A:List Int}(h:RG n A):SI.sorted (Dr n A)=Nz n A:=by
 have hp:(SI.sorted (Dr n A)).Perm (Dr n A):=List.mergeSort_perm _ _
 have hpv:=AVu h
 have hs:(SI.sorted (Dr n A)).Pairwise (·≤·):=by
  have:=List.pairwise_mergeSort (le:=fun x y:Int=>decide (x≤y)) (fun a b c h1 h2=>by simp at *;omega) (fun a b=>by simp;omega) (Dr n A)
  exact this.imp fun h=>by simpa using h
 exact AhY (le:=fun a b:Int=>a≤b) (fun a b _ _ h1 h2=>by omega) hs ((AJK n A).imp fun h=>by omega) (hp.trans hpv)
theorem AH7{n:Int}{rings:List (List Int)}{i:Nat}{A:List Int}{v:Int}(h:FR n rings)(iv:In n v)(hi:rings[i]? = some A)(hv:v∈A):IA ((n,(rings,())),v,())=some (Nz n A,0,()):=by
 have hD:=h.dom
 have hRF:=Ko.2 h
 have gA:=h.rg A (Ae2 hi)
 have hl:=gA.1.1
 rw[VR,Ka]
 have ht:KY ((n,(rings,())),[v],())=some (0,()):=by
  rw[Oz n rings _ hD (by simp),AIq]
  simp[hRF,iv]
 obtain⟨a,e1,e2⟩:=Ac6 A n rings (by omega)
 simp only[ht,MG,Aer,AbX n rings v hD,hRF,iv,AhX,AfE,h.Yu hi iv.2.2.2 hv,Ab hi,AR4 (show A.length≤4294967296 by omega),e1,Bm,IF,e2]
 have hle:(Dr n A).length≤A.length:=AgY _ _
 rw[SI.AUW _ (by omega),AJt gA]
theorem ANv{N:Nat}{rings:List (List Int)}{l:List Edge}(h:FC (N:Int) rings l){i:Nat}{A:List Int}{v:Int}(iv:In (N:Int) v)(hi:rings[i]? = some A)(hv:v∈A):Nz (N:Int) A=EX N l v:=by
 have hA:=Ae2 hi
 obtain⟨s1,s2⟩:=h.fr.sz
 unfold Nz EX
 rw[Afe,List.filter_map]
 congr 1
 refine Agx fun w hw => ?_
 rw[Afj]at hw
 have iw:In (N:Int) (w:Int):=⟨s1,s2,by omega,by omega⟩
 show decide ((w:Int)∈A)=ED l v (w:Int)
 rw[Afp,AfP,BW,← h.sam v (w:Int) iv iw]
 constructor
 ·intro hm
  exact⟨A,hA,hv,hm⟩
 ·rintro⟨B,hB,h1,h2⟩
  rw[h.fr.one hA hB iv.2.2.2 hv h1]
  exact h2
theorem FC.members{N:Nat}{rings:List (List Int)}{l:List Edge}(h:FC (N:Int) rings l){v:Int}(iv:In (N:Int) v):IA (((N:Int),(rings,())),v,())=some (EX N l v,0,()):=by
 obtain⟨i,A,_,hi,hv,_⟩:=Lj (h.fr.cov v iv)
 rw[AH7 h.fr iv hi hv,ANv h iv hi hv]
theorem ZC{n:Int}{ts:List Tie}(u v:Int)(hr:Fq ((n,(ts,())),())=some (false,())):OT ((n,(ts,())),u,v,())=some (0,1,()):=by
 rw[SD,Lm]
 simp only[hr,AfC]
theorem Y8{N:Nat}{ts:List Tie}(h:RG2 N ts)(u v:Int):OT (((N:Int),(ts,())),u,v,())=some (if InV N u∧InV N v then(if ts.any (Bg u v)=true then((ts.findIdx (Bg u v):Nat):Int)else 0)else 0,if InV N u∧InV N v then(if ts.any (Bg u v)=true then 0 else 6)else 10,()):=by
 rw[SD,Lm]
 simp only[h.lr,Aer,Im,QW,Am,Ap]
 by_cases h1:min u v<0
 ·have hc:¬ (InV N u∧InV N v):=fun q=>by unfold InV at q;omega
  simp only[Aej h1,Aev hc]
 ·simp only[Aei h1]
  by_cases h2:(N:Int)≤max u v
  ·have hc:¬ (InV N u∧InV N v):=fun q=>by unfold InV at q;omega
   simp only[Aej h2,Aev hc]
  ·have hc:InV N u∧InV N v:=⟨⟨by omega,by omega⟩,by omega,by omega⟩
   simp only[Aei h2,Aez hc,AV0 h]
   cases hany:ts.any (Bg u v)
   ·simp only[Aey,Ae0]
    rw[Aej (by omega)]
   ·simp only[AfE]
    rw[Aei (by omega)]
theorem ATL:ieq (10:Int) 1=false:=by rw[Ak];rfl
theorem APH(n:Int)(ts:List Tie)(ht:ts.length≤400)(u v k:Int):∃ s e,UD ((n,(ts,())),u,v,k,())=some (s,e,())∧AFs ((n,(ts,())),u,v,k,())=some (s,e,())∧s.length≤64:=by
 rcases JS n ts (by omega)with⟨r1,r⟩|⟨N,rfl,h⟩
 ·refine⟨[],1,?_,?_,by simp⟩
  ·rw[Yq,Pq]
   simp only[ZC u v r,Bs]
  ·rw[Rw,LY]
   simp only[r1,AfC]
 ·rw[Yq,Pq,Rw,LY]
  simp only[Y8 h,h.r21,Aer,QT]
  by_cases hu:0≤u∧u<(N:Int)
  ·by_cases hv:0≤v∧v<(N:Int)
   ·have hc:InV N u∧InV N v:=⟨hu,hv⟩
    have h1:=h.h1
    have hN:=h.hN
    have iu:In (N:Int) u:=⟨by omega,by omega,hu.1,hu.2⟩
    have iv:In (N:Int) v:=⟨by omega,by omega,hv.1,hv.2⟩
    obtain⟨zs,ef,hF⟩:=h.AeB k
    obtain⟨u,rfl⟩:=Aeu hu.1
    obtain⟨v,rfl⟩:=Aeu hv.1
    have hu':u<N:=by omega
    have hv':v<N:=by omega
    have hu1:=EA h1 hN ts ht h.inE u hu' k
    have hv1:=EA h1 hN ts ht h.inE v hv' k
    have l1:=Hu N (trk ts k) (u:Int)
    have l2:=Hu N (trk ts k) (v:Int)
    have b1:=NZ N (trk ts k) (u:Int)
    have b2:=NZ N (trk ts k) (v:Int)
    have hh:=NU (EX N (trk ts k) (u:Int)) (v:Int) (by omega)
    have hg:∀ l:List Int,AL l 0 0=l.headD 0:=fun l=>by cases l<;>rfl
    have hcc:=GU (EX N (trk ts k) (u:Int)) (v:Int) (by omega)
    simp only[Aez hc,Aej hu,Aej hv,Aer,hu1,hv1,hh,ef,hF.members iu,hF.members iv,hcc,NI hu',NI hv',hg,Kj,AG0]
    have e1:ieq (if(ts.any (Bg (u:Int) (v:Int)))=true then(0:Int)else 6) 1=false:=by
     split<;>(rw[Ak];rfl)
    have e2:ieq (if(ts.any (Bg (u:Int) (v:Int)))=true then(0:Int)else 6) 10=false:=by
     split<;>(rw[Ak];rfl)
    simp only[e1,e2]
    cases decide ((v:Int)∈EX N (trk ts k) (u:Int))
    ·simp only[AK,l1,l2,AI,QX]
     by_cases q1:csz N (trk ts k) (u:Int)<csz N (trk ts k) (v:Int)
     ·have q2:PG (csz N (trk ts k) (u:Int):Int) (csz N (trk ts k) (v:Int):Int) = -1:=by unfold PG;rw[Aez (by omega)]
      simp only[Aej q1,q2,Aev (show ¬ ((-1:Int)=0) by omega),Am,Aej (show(-1:Int)<0 by omega)]
      exact⟨_,_,rfl,rfl,by first|(simp;done)|omega⟩
     ·by_cases q2:csz N (trk ts k) (u:Int)=csz N (trk ts k) (v:Int)
      ·have q3:PG (csz N (trk ts k) (u:Int):Int) (csz N (trk ts k) (v:Int):Int)=0:=by unfold PG;rw[Aev (by omega),Aev (by omega)]
       simp only[Aei q1,Aej q2,q3,AfE]
       by_cases q4:(EX N (trk ts k) (u:Int)).headD 0<(EX N (trk ts k) (v:Int)).headD 0
       ·have q5:PG ((EX N (trk ts k) (u:Int)).headD 0) ((EX N (trk ts k) (v:Int)).headD 0) = -1:=by unfold PG;rw[Aez q4]
        simp only[q5,Am,Aej q4,Aej (show(-1:Int)<0 by omega)]
        exact⟨_,_,rfl,rfl,by first|(simp;done)|omega⟩
       ·have q5:¬ PG ((EX N (trk ts k) (u:Int)).headD 0) ((EX N (trk ts k) (v:Int)).headD 0)<0:=by
         unfold PG;rw[Aev q4];split<;>omega
        simp only[Am,Aei q4,Aei q5]
        exact⟨_,_,rfl,rfl,by first|(simp;done)|omega⟩
      ·have q3:PG (csz N (trk ts k) (u:Int):Int) (csz N (trk ts k) (v:Int):Int)=1:=by unfold PG;rw[Aev (by omega),Aez (by omega)]
       simp only[Aei q1,Aei q2,q3,Aev (show ¬ ((1:Int)=0) by omega),Am,Aei (show ¬ (1:Int)<0 by omega)]
       exact⟨_,_,rfl,rfl,by first|(simp;done)|omega⟩
    ·exact⟨_,_,rfl,rfl,by first|(simp;done)|omega⟩
   ·have hc:¬ (InV N u∧InV N v):=fun q=>hv q.2
    simp only[Aev hc,Aej hu,Aei hv,Aer,AfC,Bs,ATL]
    exact⟨_,_,rfl,rfl,by first|(simp;done)|omega⟩
  ·have hc:¬ (InV N u∧InV N v):=fun q=>hu q.1
   simp only[Aev hc,Aei hu,AfC,Bs,ATL]
   exact⟨_,_,rfl,rfl,by first|(simp;done)|omega⟩
theorem AKT{N:Nat}(hN:N≤64)(ts:List Tie)(ht:ts.length≤400)(u v:Nat)(hu:u<N)(hv:v<N)(k:Int):∃ e,UD (((N:Int),(ts,())),(u:Int),(v:Int),k,())=some (BO N ts u v k,e,()):=by
 obtain⟨s,e,h1,h2,_⟩:=APH (N:Int) ts ht u v k
 obtain⟨e',h3⟩:=YD hN ts ht u v hu hv k
 rw[h2]at h3
 cases h3
 exact⟨_,h1⟩
end Go.Pev.Pl
end
section
namespace Go.Pev.Pl
open Tok
def ofM(s:List Int):List (Int×Int):=s.foldl (fun m w=>Ag m w 1) []
theorem AZm(w:Int):∀ (s:List Int) (m:List (Int×Int)),(AS (s.foldl (fun m w=>Ag m w 1) m) w).getD 0=if w∈s then 1 else(AS m w).getD 0:=by
 intro s
 induction s with
 |nil=>intro m;simp
 |cons x s ih=>
  intro m
  rw[Afg,ih,AAE]
  by_cases h:w∈s
  ·rw[Aez h,Aez (by simp[h])]
  ·rw[Aev h]
   by_cases hx:w=x
   ·rw[Aez hx,Aez (by simp[hx])];rfl
   ·rw[Aev hx,Aev (by simp[h,hx])]
theorem ATF(s:List Int)(w:Int):(AS (ofM s) w).getD 0=if AX s w=true then 1 else 0:=by
 unfold ofM AX
 rw[AZm]
 simp[AS]
def VT(S:Int→Bool)(x:Tie):Int:=(if S x.1=true then 1 else 0)+(if S x.2.1=true then 1 else 0)
theorem AEa(s:List Int)(x:Tie):IntKind.wrap .i64 ((AS (ofM s) x.1).getD 0+(AS (ofM s) x.2.1).getD 0)=VT (AX s) x:=by
 rw[ATF,ATF]
 unfold VT
 rw[Aj (by split<;>split<;>omega)]
theorem AM7(S:Int→Bool)(x:Tie):ieq (VT S x) 2=both S x:=by
 rw[Ak];unfold VT both
 cases S x.1<;>cases S x.2.1<;>rfl
theorem AWv(S:Int→Bool)(x:Tie):ieq (VT S x) 0=(!S x.1 && !S x.2.1):=by
 rw[Ak];unfold VT
 cases S x.1<;>cases S x.2.1<;>rfl
theorem Aam(S:Int→Bool)(x:Tie):ieq (VT S x) 1=decide (DZ S x):=by
 rw[Ak]
 refine AgI.2 ?_
 unfold VT DZ
 generalize S x.1=a
 generalize S x.2.1=b
 cases a<;>cases b<;>simp
def otp(i:Int):Nat→List Tie→List Int
 |_,[]=>[]
 |j,x::R=>if x.2.2.2.1=false∧x.2.2.1=i then(j:Int)::otp i (j+1) R else otp i (j+1) R
theorem Adv(S:Int→Bool)(top i:Int):∀ (R:List Tie) (j:Nat),otp i j (R.map (rT S top i))=otp i j R:=by
 intro R
 induction R with
 |nil=>intro j;rfl
 |cons x R ih=>
  intro j
  rw[Ae7,otp,otp,ih,KA]
  by_cases h:x.2.2.2.1=false
  ·rw[En h]
  ·rw[Aev (fun q=>h q.1),Aev (fun q=>h q.1)]
section
variable (n:Int) (a2 a3:Bool) (a4 a5 top:Int)
theorem AVG(O:List Tie)(r i:Int)(s:List Int)(hs:s.length≤400):
  AR Ls many (n,O,a2,a3,a4,a5,r,top,i,([]:List (Int×Int)),s,(s.length:Int),(0:Int),())=some (.inl (n,O,a2,a3,a4,a5,r,top,i,ofM s,())):=by
 have e:=Cq (step:=Ls) (fun j (m:List (Int×Int))=>(n,O,a2,a3,a4,a5,r,top,i,m,s,(s.length:Int),(j:Int),())) s (fun w m=>.inl (Ag m w 1)) (fun m=>.inl (n,O,a2,a3,a4,a5,r,top,i,m,())) (fun _ _=>True) (by omega)
  (fun j x m hj hx _=>by
   refine⟨fun m' h' => ?_,fun r h'=>(by cases h')⟩
   cases h'
   refine⟨?_,trivial⟩
   unfold Ls
   dsimp only
   rw[AI,Aej hj]
   simp only[Ab hx,CH hx]
   rw[AG (by omega)])
  (fun m _=>by unfold Ls;dsimp only;rw[AI,Aei (by omega)]) [] trivial
 have e':AR Ls many (n,O,a2,a3,a4,a5,r,top,i,([]:List (Int×Int)),s,(s.length:Int),(0:Int),())=_:=e
 rw[e',BL (fun w (m:List (Int×Int))=>Ag m w 1)]
 rfl
theorem AVF(O:List Tie)(hO:O.length≤400)(r:Nat)(hr:r<1073741824)(i:Nat)(hi:i<64)(s:List Int):
  AR Lr many (n,O,a2,a3,a4,a5,(r:Int),top,(i:Int),ofM s,([]:List Int),(O.length:Int),(0:Int),()) =
  some (.inl (n,O.map (rT (AX s) top i),a2,a3,a4,a5,((r+FY (AX s) i O:Nat):Int),top,ofM s,otp i 0 O,())):=by
 have key:∀ (R A:List Tie) (j cnt q:Nat) (ps:List Int),A.length=j→A.length+R.length=O.length→R.length<cnt→q+R.length<2147483648→ps.length≤j →
   AP Lr cnt (n,A++R,a2,a3,a4,a5,(q:Int),top,(i:Int),ofM s,ps,(O.length:Int),(j:Int),()) =
   some (.inl (n,A++R.map (rT (AX s) top i),a2,a3,a4,a5,((q+FY (AX s) i R:Nat):Int),top,ofM s,ps++otp i j R,())):=by
  intro R
  induction R with
  |nil=>
   intro A j cnt q ps hA hl hc hq hp
   obtain⟨cnt,rfl⟩:∃ c,cnt=c+1:=⟨cnt-1,by omega⟩
   unfold Lr
   rw[AP]
   dsimp only
   rw[AI,Aei (by simp at hl;omega)]
   simp[FY,otp]
  |cons x R ih=>
   intro A j cnt q ps hA hl hc hq hp
   obtain⟨cnt,rfl⟩:∃ c,cnt=c+1:=⟨cnt-1,by omega⟩
   rw[Aet]at hl hc hq
   have hg:=PW (R:=R) (x:=x) hA
   have next:∀ (y:Tie) (q':Nat) (ps':List Int),q'+R.length<2147483648→ps'.length≤j+1→rT (AX s) top i x=y→q'+FY (AX s) i R=q+FY (AX s) i (x::R)→ps'++otp i (j+1) R=ps++otp i j (x::R) →
     AP Lr cnt (n,A++y::R,a2,a3,a4,a5,(q':Int),top,(i:Int),ofM s,ps',(O.length:Int),((j+1:Nat):Int),()) =
     some (.inl (n,A++(x::R).map (rT (AX s) top i),a2,a3,a4,a5,((q+FY (AX s) i (x::R):Nat):Int),top,ofM s,ps++otp i j (x::R),())):=by
    intro y q' ps' hq' hp' hy hcnt hps
    have:=ih (A++[y]) (j+1) cnt q' ps' (by simp[hA]) (by simp;omega) (by omega) hq' hp'
    rw[AfQ]at this
    rw[Af2]at this
    rw[this,hcnt,Ae7,hy,AfQ,hps]
    rfl
   have hcc:FY (AX s) i (x::R)=FY (AX s) i R+if(x.2.2.2.1&&(decide (x.2.2.1=(i:Int))&&both (AX s) x))=true then 1 else 0:=by
    unfold FY
    rw[Agt]
   have hot:otp (i:Int) j (x::R)=if x.2.2.2.1=false∧x.2.2.1=(i:Int)then(j:Int)::otp i (j+1) R else otp i (j+1) R:=rfl
   unfold Lr at next ⊢
   rw[AP]
   dsimp only
   rw[AI,Aej (by omega)]
   simp only[Ab hg,CH hg]
   rw[AG (show j+1<9223372036854775808 by omega),AG (show q+1<9223372036854775808 by omega),Ak]
   by_cases h3:x.2.2.1=(i:Int)
   ·rw[Aej h3]
    simp only[Aer]
    cases h4:x.2.2.2.1
    ·simp only[AfC]
     rw[BE (by simp only[AK,Aet,Ae4];omega),IF,Co]
     refine next x q _ (by omega) (by simp;omega) (En h4) ?_ ?_
     ·rw[hcc,h4];simp
     ·rw[hot,Aez ⟨h4,h3⟩];simp
    ·simp only[Aer]
     rw[AEa,AM7]
     cases hb:both (AX s) x
     ·simp only[]
      refine next x q ps (by omega) (by omega) ?_ ?_ ?_
      ·unfold rT
       rw[Aev (fun hh=>by rw[hb]at hh;exact absurd hh.2.2 (by simp))]
      ·rw[hcc,hb];simp
      ·rw[hot,Aev (fun hh=>by rw[h4]at hh;exact absurd hh.1 (by simp))]
     ·simp only[]
      rw[J1 hA,Im,h3,AG (show i+1<9223372036854775808 by omega)]
      refine next _ (q+1) ps (by omega) (by omega) ?_ ?_ ?_
      ·unfold rT
       rw[Aez ⟨h4,h3,hb⟩]
       unfold E3
       rw[h3,h4]
       rfl
      ·rw[hcc,h4,Aej h3,hb];simp;omega
      ·rw[hot,Aev (fun hh=>by rw[h4]at hh;exact absurd hh.1 (by simp))]
   ·rw[Aei h3]
    simp only[AfC]
    refine next x q ps (by omega) (by omega) ?_ ?_ ?_
    ·unfold rT
     rw[Aev (fun hh=>h3 hh.2.1)]
    ·rw[hcc,Aei h3];simp
    ·rw[hot,Aev (fun hh=>h3 hh.2)]
 have:=key O [] 0 many r [] rfl (by simp) (by simp only[many];omega) (by omega) (by simp)
 rw[Aa]
 exact this
theorem AVE(O:List Tie)(hO:O.length≤400)(r:Nat)(hr:r<1073741824)(i:Nat)(hi:i<64)(s:List Int):
  AR Lq many (n,O,a2,a3,a4,a5,(r:Int),top,ofM s,otp i 0 O,((otp i 0 O).length:Int),(0:Int),()) =
  some (match(Aq (AX s) top i O).2.2 with
   |some e=>.inr (.inl (n,(Aq (AX s) top i O).1,a2,true,e.1,e.2.1,((r+(Aq (AX s) top i O).2.1:Nat):Int),top,true,()))
   |none=>.inl (n,(Aq (AX s) top i O).1,a2,a3,a4,a5,((r+(Aq (AX s) top i O).2.1:Nat):Int),top,())):=by
 have key:∀ (R A:List Tie) (j cnt q:Nat) (pre:List Int),A.length=j→R.length<cnt→q+R.length<2147483648→pre.length≤j→j+R.length≤400 →
   AP Lq cnt (n,A++R,a2,a3,a4,a5,(q:Int),top,ofM s,pre++otp i j R,((pre++otp i j R).length:Int),(pre.length:Int),()) =
   some (match(Aq (AX s) top i R).2.2 with
    |some e=>.inr (.inl (n,A++(Aq (AX s) top i R).1,a2,true,e.1,e.2.1,((q+(Aq (AX s) top i R).2.1:Nat):Int),top,true,()))
    |none=>.inl (n,A++(Aq (AX s) top i R).1,a2,a3,a4,a5,((q+(Aq (AX s) top i R).2.1:Nat):Int),top,())):=by
  intro R
  induction R with
  |nil=>
   intro A j cnt q pre hA hc hq hp hj
   obtain⟨cnt,rfl⟩:∃ c,cnt=c+1:=⟨cnt-1,by omega⟩
   unfold Lq
   rw[AP]
   dsimp only
   rw[AI,Aei (by simp[otp])]
   rfl
  |cons x R ih=>
   intro A j cnt q pre hA hc hq hp hj
   rw[Aet]at hc hq hj
   have hg:=PW (R:=R) (x:=x) hA
   rw[Aq,otp]
   by_cases hO:x.2.2.2.1=false∧x.2.2.1=(i:Int)
   ·obtain⟨h4,h3⟩:=hO
    rw[Aez ⟨h4,h3⟩,Aev (fun hh=>by rcases hh with hh|hh;rw[h4]at hh;cases hh;exact hh h3)]
    obtain⟨cnt,rfl⟩:∃ c,cnt=c+1:=⟨cnt-1,by omega⟩
    have hlt:pre.length<(pre++(j:Int)::otp i (j+1) R).length:=by simp
    have hpx:(pre++(j:Int)::otp i (j+1) R)[pre.length]? = some (j:Int):=by simp
    have step:∀ (y:Tie) (q':Nat),q'+R.length<2147483648 →
      AP Lq cnt (n,A++y::R,a2,a3,a4,a5,(q':Int),top,ofM s,pre++(j:Int)::otp i (j+1) R,((pre++(j:Int)::otp i (j+1) R).length:Int),((pre.length+1:Nat):Int),()) =
      some (match(Aq (AX s) top i R).2.2 with
       |some e=>.inr (.inl (n,A++y::(Aq (AX s) top i R).1,a2,true,e.1,e.2.1,((q'+(Aq (AX s) top i R).2.1:Nat):Int),top,true,()))
       |none=>.inl (n,A++y::(Aq (AX s) top i R).1,a2,a3,a4,a5,((q'+(Aq (AX s) top i R).2.1:Nat):Int),top,())):=by
     intro y q' hq'
     have:=ih (A++[y]) (j+1) cnt q' (pre++[(j:Int)]) (by simp[hA]) (by omega) hq' (by simp;omega) (by omega)
     have hpl:(pre++[(j:Int)]).length=pre.length+1:=by simp
     simp only[AfQ,Af2,hpl]at this
     exact this
    unfold Lq at step ⊢
    rw[AP]
    dsimp only
    rw[AI,Aej hlt]
    simp only[Ab hpx,CH hpx,CH hg]
    rw[AG (show pre.length+1<9223372036854775808 by omega),AG (show q+1<9223372036854775808 by omega),AEa,AWv,AM7,Aam]
    cases hb:both (AX s) x
    ·simp only[Aey,Ae0]
     by_cases hx:DZ (AX s) x
     ·have hnn:(!AX s x.1 && !AX s x.2.1)=false:=by
       unfold DZ at hx
       revert hx
       cases AX s x.1<;>cases AX s x.2.1<;>simp
      have hg2:(A++Cg x::R)[j]? = some (Cg x):=PW hA
      simp only[hnn,Aej hx,Aez hx]
      rw[J1 hA]
      rw[show((x.1,(x.2.1,(x.2.2.1,(true,())))):Tie)=Cg x from rfl]
      simp only[CH hg2,AgK]
      rfl
     ·have hnn:(!AX s x.1 && !AX s x.2.1)=true:=by
       unfold DZ at hx
       unfold both at hb
       revert hx hb
       cases AX s x.1<;>cases AX s x.2.1<;>simp
      simp only[hnn,Aev hx]
      exact step x q (by omega)
    ·have hnn:(!AX s x.1 && !AX s x.2.1)=false:=by
      unfold both at hb
      revert hb
      cases AX s x.1<;>cases AX s x.2.1<;>simp
     simp only[hnn,AfE]
     rw[J1 hA,Im,h3,AG (show i+1<9223372036854775808 by omega)]
     have:=step (E3 top x) (q+1) (by omega)
     have hr:((x.1,(x.2.1,(min top ((i+1:Nat):Int),(x.2.2.2.1,())))):Tie)=E3 top x:=by
      unfold E3
      rw[h3]
      rfl
     rw[hr,this]
     rw[show q+1+(Aq (AX s) top i R).2.1=q+((Aq (AX s) top i R).2.1+1) by omega]
   ·have hor:x.2.2.2.1=true∨x.2.2.1≠(i:Int):=by
     cases h4:x.2.2.2.1
     ·exact .inr fun h3=>hO ⟨h4,h3⟩
     ·exact .inl rfl
    rw[Aev hO,Aez hor]
    have:=ih (A++[x]) (j+1) cnt q pre (by simp[hA]) (by omega) (by omega) (by omega) (by omega)
    simp only[AfQ,Af2]at this
    exact this
 have:=key O [] 0 many r [] rfl (by simp only[many];omega) (by omega) (by simp) (by omega)
 rw[Aa]
 exact this
end
theorem Ab9{N:Nat}(hN:N≤64)(u v:Nat)(hu:u<N)(hv:v<N)(top:Int)(O:List Tie)(hO:O.length≤400)(a2 a3:Bool)(a4 a5:Int)(r:Nat)(hr:r<536870912)(i:Nat)(hi:i<64)(S:Int→Bool)(hS:S=AX (BO N O u v i)):
  pat ((N:Int),O,a2,a3,a4,a5,(r:Int),top,(u:Int),(v:Int),(i:Int),()) =
  some (match(Aq S top i (O.map (rT S top i))).2.2 with
   |some e=>((N:Int),(Aq S top i (O.map (rT S top i))).1,a2,true,e.1,e.2.1,((r+FY S i O+(Aq S top i (O.map (rT S top i))).2.1:Nat):Int),top,true,())
   |none=>((N:Int),(Aq S top i (O.map (rT S top i))).1,a2,a3,a4,a5,((r+FY S i O+(Aq S top i (O.map (rT S top i))).2.1:Nat):Int),top,false,())):=by
 subst hS
 obtain⟨e,hs⟩:=AKT hN O hO u v hu hv (i:Int)
 have hl:=ADg N O u v (i:Int)
 have hc:=AIQ (AX (BO N O u v i)) i O
 have e0:=AVG (N:Int) a2 a3 a4 a5 top O (r:Int) (i:Int) (BO N O u v i) (by omega)
 have e1:=AVF (N:Int) a2 a3 a4 a5 top O hO r (by omega) i hi (BO N O u v i)
 have e2:=AVE (N:Int) a2 a3 a4 a5 top (O.map (rT (AX (BO N O u v i)) top i)) (by simpa using hO) (r+FY (AX (BO N O u v i)) i O) (by omega) i hi (BO N O u v i)
 rw[Adv]at e2
 rw[AZB,AS5]
 simp only[hs,AK,e0,e1,e2]
 cases (Aq (AX (BO N O u v i)) top i (O.map (rT (AX (BO N O u v i)) top i))).2.2 with
 |none=>rfl
 |some e=>rfl
end Go.Pev.Pl
end
section
namespace Go.Pev.Pl
section
variable {α:Type} (z:α)
theorem AAf{a o:List α}{m k:Nat}(h:a.drop m=o.drop m)(hk:m≤k):a.getD k z=o.getD k z:=by
 have:=AgE (fun l=>l.getD (k-m) z) h
 simp only[Ael,Afl]at this
 rw[Nat.add_sub_cancel' hk]at this
 simpa [Ael]using this
theorem K8{xs:List α}{i:Nat}(h:i<xs.length):xs.take (i+1)=xs.take i++[xs.getD i z]:=by
 rw[Afc h];simp[h]
theorem Aar{σ ρ:Type}{step:σ→Option (σ⊕ρ)}(st:List α→Nat→Nat→σ)(fin:List α→Nat→ρ)(keep:α→Bool)(o:List α)
  (h:∀ a w j,a.length=o.length→j<o.length→w<j→a.getD j z=o.getD j z→step (st a w j)=some (.inl (if keep (o.getD j z)=true then st (a.set w (o.getD j z)) (w+1) (j+1)else st a w (j+1))))
  (hN:∀ a w,a.length=o.length→step (st a w o.length)=some (.inr (fin a w))) :
  ∀ (k j w:Nat) (a:List α) (cnt:Nat),j+k=o.length→a.length=o.length→w=((o.take j).filter keep).length→a.take w=(o.take j).filter keep→w<j→a.drop j=o.drop j→k<cnt →
  ∃ a':List α,AP step cnt (st a w j)=some (fin a' (o.filter keep).length)∧a'.length=o.length∧a'.take (o.filter keep).length=o.filter keep:=by
 intro k
 induction k with
 |zero=>
  intro j w a cnt hk hl hw hq hwj hd hn
  obtain⟨cnt,rfl⟩:∃ k,cnt=k+1:=⟨cnt-1,by omega⟩
  have e:j=o.length:=by omega
  subst e
  rw[Afw]at hw hq
  rw[AP,hN a w hl]
  exact⟨a,by rw[hw],hl,by rw[← hw];exact hq⟩
 |succ k ih=>
  intro j w a cnt hk hl hw hq hwj hd hn
  obtain⟨cnt,rfl⟩:∃ k,cnt=k+1:=⟨cnt-1,by omega⟩
  have g1:=AAf z hd (Aew j)
  have hdd:a.drop (j+1)=o.drop (j+1):=by
   have:=AgE (List.drop 1) hd
   simpa only[AgP]using this
  have hst:(o.take (j+1)).filter keep=(o.take j).filter keep++if keep (o.getD j z)=true then [o.getD j z]else []:=by
   rw[K8 z (by omega),Af8]
   generalize o.getD j z=v
   by_cases h:keep v=true<;>simp[h]
  rw[AP,h a w j hl (by omega) hwj g1]
  by_cases hv:keep (o.getD j z)=true
  ·rw[Aez hv]at hst ⊢
   refine ih (j+1) (w+1) (a.set w (o.getD j z)) cnt (by omega) (by simp[hl]) (by rw[hst];simp[hw]) ?_ (by omega) ?_ (by omega)
   ·rw[hst,← hq,Afc (by simp;omega)]
    simp[List.take_set_of_le]
   ·rw[List.drop_set_of_lt (by omega)]
    exact hdd
  ·rw[Aev hv]at hst ⊢
   rw[Af0]at hst
   exact ih (j+1) w a cnt (by omega) hl (by rw[hst];exact hw) (by rw[hst];exact hq) (by omega) hdd (by omega)
theorem AWy{σ ρ σ' ρ':Type}{find:σ'→Option (σ'⊕ρ')}{step:σ→Option (σ⊕ρ)}(st:List α→Nat→Nat→σ)(fin:List α→Nat→ρ)(sf:Nat→σ')(fr:Nat→ρ')(fn:ρ')(keep:α→Bool)(o:List α)(hs:o.length<4294967296)
  (h:∀ a w j,a.length=o.length→j<o.length→w<j→a.getD j z=o.getD j z→step (st a w j)=some (.inl (if keep (o.getD j z)=true then st (a.set w (o.getD j z)) (w+1) (j+1)else st a w (j+1))))
  (hN:∀ a w,a.length=o.length→step (st a w o.length)=some (.inr (fin a w)))
  (f:∀ i,i<o.length→find (sf i)=if keep (o.getD i z)=true then some (.inl (sf (i+1)))else some (.inr (fr i))) (fN:find (sf o.length)=some (.inr fn)) :
  (o.filter keep=o∧AR find many (sf 0)=some fn) ∨
  (∃ k a',k<o.length∧AR find many (sf 0)=some (fr k)∧AR step many (st o k (k+1))=some (fin a' (o.filter keep).length)∧a'.length=o.length∧(o.filter keep).length≤o.length∧a'.take (o.filter keep).length=o.filter keep):=by
 have hm:4294967296<many:=by simp only[many];omega
 have hall:∀ n,(∀ j,j<n→j<o.length→keep (o.getD j z)=true)→(o.take n).filter keep=o.take n:=by
  intro n hj
  rw[AgT]
  intro x hx
  obtain⟨j,h1,rfl⟩:=AgW.1 hx
  have:=hj j (by omega) (by omega)
  simpa [show j<o.length by omega]using this
 rcases YF (step:=find) sf o.length (fun i => !keep (o.getD i z)) fr fn (by omega) (fun i hi=>by rw[f i hi];cases keep (o.getD i z)<;>rfl) fN with⟨k,hk,hP,hF,e⟩|⟨hP,e⟩
 ·right
  have hkf:keep (o.getD k z)=false:=by
   cases hq:keep (o.getD k z)
   ·rfl
   ·rw[hq]at hP;cases hP
  have h1:(o.take k).filter keep=o.take k:=hall k fun j h1 _=>by
   have:=hF j h1
   cases hq:keep (o.getD j z)
   ·rw[hq]at this;cases this
   ·rfl
  have h2:(o.take (k+1)).filter keep=o.take k:=by
   rw[K8 z hk,Af8,h1,Af5,hkf]
   simp
  obtain⟨a',e2,e3,e4⟩:=Aar z st fin keep o h hN (o.length-(k+1)) (k+1) k o many (by omega) rfl (by rw[h2,Ae3];omega) (by rw[h2]) (by omega) rfl (by omega)
  exact⟨k,a',hk,e,by rw[Aa];exact e2,e3,AgY _ _,e4⟩
 ·left
  refine⟨?_,e⟩
  have:=hall o.length fun j _ h2=>by
   have:=hP j h2
   cases hq:keep (o.getD j z)
   ·rw[hq]at this;cases this
   ·rfl
  rwa [Afw]at this
theorem AR5{a:List α}{w:Nat}(h:w≤a.length):(BV w (a.length-w) z a).take w=a.take w∧(BV w (a.length-w) z a).length=a.length:=by
 constructor
 ·rw[BV,List.take_append_of_le_length (by simp;omega),Agm,Nat.min_self]
 ·simp[BV];omega
end
end Go.Pev.Pl
end
section
namespace Go.Pev.Pl
open Tok
theorem AWY(n:Nat)(hn:n<4294967296):AMp ((n:Int),())=some ([],()):=by
 have e0:IntKind.wrap .i64 ((n:Int)-IntKind.wrap .i64 ((0:Int)-0))=(n:Int):=by rw[Aj (n:=(0:Int)-0) (by omega),Aj (by omega)];omega
 rw[AMo,XM]
 simp only[e0,Am]
 rw[Aei (by omega)]
 simp only[]
 by_cases h:0<n
 ·rw[Aej (by omega)]
  have s1:B5 ([]:List Unit) (0:Int) (0:Int)=some []:=by rw[Mz];rfl
  have s2:B5 (Jo (AE (n:Int)) ((0:Int),((0:Int),((0:Int),(false,()))))) (0:Int) (0:Int)=some []:=by
   rw[Mz,K9,Aez (by omega)]
   simp
  have s3:LH (n:Int)=true:=(Jl _).2 (by omega)
  simp only[s1,s2,s3]
  rfl
 ·rw[Aei (by omega)]
theorem ANL(xss:List (List Tie))(hs:xss.length<4294967296)(h:xss.flatten.length<4294967296):Nb (xss,())=some (xss.flatten,()):=by
 rw[ABB,Na]
 have e:=Cq (step:=Ec) (fun i (a:Nat)=>(xss,(a:Int),xss,AM xss,(i:Int),())) xss (fun x a=>.inl (a+x.length)) (fun a=>.inl (xss,(a:Int),())) (fun i a=>a=(xss.take i).flatten.length) (by omega)
  (fun i x a hi hx ha=>by
   refine⟨fun m' h' => ?_,fun r h'=>by cases h'⟩
   cases h'
   have h1:=DJ hx
   have h2:=EK xss (i+1)
   rw[h1,Aes]at h2
   rw[Ec]
   simp only[AK]
   rw[AI,Aej hi]
   simp only[Ab hx]
   rw[wrap_add (by omega),AG (by omega),Am,Aei (by omega)]
   exact⟨rfl,by rw[h1,Aes,ha]⟩)
  (fun a _=>by rw[Ec,AK,AI,Aei (by omega)]) 0 rfl
 have e':AR Ec many (xss,(0:Int),xss,AM xss,(0:Int),())=_:=e
 rw[e',BL]
 have hsum:∀ (l:List (List Tie)) (a:Nat),l.foldl (fun a x=>a+x.length) a=a+l.flatten.length:=by
  intro l
  induction l with
  |nil=>intro a;rfl
  |cons x l ih=>intro a;rw[Afg,ih,AgQ,Aes];omega
 rw[hsum,Afu]
 simp only[AWY _ h]
 have g:=Cq (step:=Eb) (fun i (a:List Tie)=>(a,xss,AM xss,(i:Int),())) xss (fun x a=>.inl (a++x)) (fun a=>.inl (a,())) (fun i a=>a=(xss.take i).flatten) (by omega)
  (fun i x a hi hx ha=>by
   refine⟨fun m' h' => ?_,fun r h'=>by cases h'⟩
   cases h'
   have h1:=DJ hx
   have h2:=EK xss (i+1)
   rw[h1,Aes]at h2
   rw[Eb]
   simp only[AK]
   rw[AI,Aej hi]
   simp only[Ab hx]
   rw[AG (by omega),BE (by rw[ha];omega)]
   exact⟨rfl,by rw[h1,ha]⟩)
  (fun a _=>by rw[Eb,AK,AI,Aei (by omega)]) [] rfl
 have g':AR Eb many ([],xss,AM xss,(0:Int),())=_:=g
 rw[g',BL]
 have hcat:∀ (l:List (List Tie)) (a:List Tie),l.foldl (fun a x=>a++x) a=a++l.flatten:=by
  intro l
  induction l with
  |nil=>intro a;simp
  |cons x l ih=>intro a;rw[Afg,ih,AgQ,AfQ]
 rw[hcat]
 rfl
def FX(x:Edge):Edge:=(min x.1 x.2.1,max x.1 x.2.1,())
abbrev WM:=List (Edge×Int)
def FW(m:WM)(x:Edge):Int:=(AS m x).getD 0
theorem Aat(o:List Edge)(m:WM)(hs:o.length<4294967296):
  ∃ a:List Edge,IK (o,m,())=some (a,m,(((o.filter fun x => !ieq (FW m x) 0).length:Nat):Int),())∧a.take (o.filter fun x => !ieq (FW m x) 0).length=o.filter fun x => !ieq (FW m x) 0:=by
 have hp:=AWy (find:=CF) (step:=DE) ((0:Int),(0:Int),()) (fun a (w j:Nat)=>(a,m,(w:Int),(j:Int),())) (fun a (w:Nat)=>.inl (a,m,(w:Int),())) (fun i=>(o,m,(o.length:Int),(i:Int),())) (fun i=>.inl (o,m,(i:Int),())) (.inr (.inl (o,m,()))) (fun x => !ieq (FW m x) 0) o hs
  (fun a w j ha hj hw hg=>by
   unfold DE
   dsimp only
   simp (disch:=omega) only[AK,AI,ha,hj,Aex,CW ((0:Int),(0:Int),()),Ea,AAy,hg,AG]
   unfold FW
   cases (!ieq ((AS m (o.getD j ((0:Int),(0:Int),()))).getD 0) 0)<;>rfl)
  (fun a w ha=>by unfold DE;dsimp only;rw[AK,AI,Aei (by omega)])
  (fun i hi=>by
   unfold CF
   dsimp only
   simp (disch:=omega) only[AI,hi,Aex,CW ((0:Int),(0:Int),()),Ea,AG]
   unfold FW
   cases ieq ((AS m (o.getD i ((0:Int),(0:Int),()))).getD 0) 0<;>rfl)
  (by unfold CF;dsimp only;rw[AI,Aei (by omega)])
 rw[N9,HC,N4,HA]
 generalize (fun x => !ieq (FW m x) 0)=keep at *
 rcases hp with⟨h0,e⟩|⟨k,a',hk,e,e2,hl,hle,e4⟩
 ·have e':AR CF many (o,m,AM o,(0:Int),())=_:=e
  simp only[e',Ak]
  exact⟨o,by rw[h0];rfl,by rw[h0,Afw]⟩
 ·have e':AR CF many (o,m,AM o,(0:Int),())=_:=e
  obtain⟨c1,c2⟩:=AR5 ((0:Int),(0:Int),()) (a:=a') (w:=(o.filter keep).length) (by omega)
  have s0:B5 (BV (o.filter keep).length (a'.length-(o.filter keep).length) ((0:Int),(0:Int),()) a') (0:Int) (((o.filter keep).length:Nat):Int)=some _:=J5 (by omega)
  have s1:B5 a' (((o.filter keep).length:Nat):Int) (a'.length:Int)=some _:=D7 (by omega)
  simp only[e',Ak]
  rw[Aei (by omega),AG (by omega)]
  simp only[e2,s1,AK,AfI,IF,s0]
  refine⟨_,?_,c1.trans e4⟩
  rw[Ae3,c2,Afo (by omega)]
theorem APa{N:Nat}(h1:1≤N)(hN:N≤64)(ts:List Tie)(l:List Edge)(hs:l.length<1073741824)(m:WM)(i:Nat)(x:Edge)(hi:i<l.length)(hx:l[i]? = some x)(hb:0≤FW m (FX x)∧FW m (FX x)≤(i:Int)):
  D8 ((N:Int),ts,m,l,(l.length:Int),(i:Int),())=if In (N:Int) x.1∧In (N:Int) x.2.1 then some (.inl ((N:Int),ts,Ag m (FX x) (FW m (FX x)+1),l,(l.length:Int),((i+1:Nat):Int),()))else some (.inr (.inl (10,()))):=by
 unfold D8
 dsimp only
 rw[AI,Aej hi]
 simp only[Ab hx,Im,QW]
 have hw:IntKind.wrap .i64 (FW m (FX x)+1)=FW m (FX x)+1:=Aj (by omega)
 obtain⟨m1,m2⟩:=AQR m (FX x) (FW m (FX x)) (FW m (FX x)+1)
 unfold FW FX at m1 m2 hw
 by_cases c1:min x.1 x.2.1<0
 ·rw[Am,Aej c1,Aev (fun q=>by have q1:=q.1.2.2.1;have q2:=q.2.2.2.1;omega)]
 ·rw[Am,Aei c1]
  by_cases c2:(N:Int)≤max x.1 x.2.1
  ·rw[Ap,Aej c2,Aev (fun q=>by have q1:=q.1.2.2.2;have q2:=q.2.2.2.2;omega)]
  ·rw[Ap,Aei c2,Aez ⟨⟨by omega,by omega,by omega,by omega⟩,⟨by omega,by omega,by omega,by omega⟩⟩]
   simp only[m1,hw,m2,AG (show i+1<9223372036854775808 by omega)]
   rfl
theorem APd{N:Nat}(h1:1≤N)(hN:N≤64)(ts:List Tie)(l:List Edge)(hs:l.length<1073741824):
  (¬ AdT N l∧AR D8 many ((N:Int),ts,([]:WM),l,(l.length:Int),(0:Int),())=some (.inl (10,()))) ∨
  (AdT N l∧∃ m:WM,(∀ x,FW m x=0↔x∉l.map FX)∧AR D8 many ((N:Int),ts,([]:WM),l,(l.length:Int),(0:Int),())=some (.inr (.inl ((N:Int),ts,m,())))):=by
 have key:∀ (k i:Nat) (m:WM) (cnt:Nat),i+k=l.length→k<cnt→(∀ x,0≤FW m x∧FW m x≤(i:Int)∧(FW m x=0↔x∉(l.take i).map FX)) →
   ((∃ x∈l.drop i,¬ (In (N:Int) x.1∧In (N:Int) x.2.1))∧AP D8 cnt ((N:Int),ts,m,l,(l.length:Int),(i:Int),())=some (.inl (10,()))) ∨
   ((∀ x∈l.drop i,In (N:Int) x.1∧In (N:Int) x.2.1)∧∃ m':WM,(∀ x,FW m' x=0↔x∉l.map FX)∧AP D8 cnt ((N:Int),ts,m,l,(l.length:Int),(i:Int),())=some (.inr (.inl ((N:Int),ts,m',())))):=by
  intro k
  induction k with
  |zero=>
   intro i m cnt hi hc hm
   obtain⟨cnt,rfl⟩:∃ c,cnt=c+1:=⟨cnt-1,by omega⟩
   right
   have:i=l.length:=by omega
   subst this
   refine⟨fun x hx=>(by rw[List.drop_length]at hx;cases hx),m,fun x => ?_,?_⟩
   ·have:=(hm x).2.2
    rwa [Afw]at this
   ·unfold D8
    rw[AP]
    dsimp only
    rw[AI,Aei (by omega)]
  |succ k ih=>
   intro i m cnt hi hc hm
   obtain⟨cnt,rfl⟩:∃ c,cnt=c+1:=⟨cnt-1,by omega⟩
   have hi':i<l.length:=by omega
   have hx:l[i]? = some l[i]:=Aeo hi'
   have hdr:l.drop i=l[i]::l.drop (i+1):=AfR hi'
   have htk:l.take (i+1)=l.take i++[l[i]]:=Afc hi'
   rw[hdr]
   generalize hxe:l[i]=x at *
   have hb:=hm (FX x)
   obtain⟨b1,b2,_⟩:=hb
   rw[AP,APa h1 hN ts l hs m i x hi' hx ⟨b1,b2⟩]
   by_cases hin:In (N:Int) x.1∧In (N:Int) x.2.1
   ·rw[Aez hin]
    have hst:∀ y,FW (Ag m (FX x) (FW m (FX x)+1)) y=if y=FX x then FW m (FX x)+1 else FW m y:=by
     intro y
     unfold FW
     rw[AAE]
     split<;>rfl
    have:=ih (i+1) (Ag m (FX x) (FW m (FX x)+1)) cnt (by omega) (by omega) (fun y=>by
     rw[hst]
     obtain⟨d1,d2,d3⟩:=hm y
     rw[htk,Af1,Aen]
     by_cases e:y=FX x
     ·rw[Aez e]
      refine⟨by omega,by omega,⟨fun q=>by omega,fun q=>absurd (.inr (by simp[e])) q⟩⟩
     ·rw[Aev e]
      refine⟨d1,by omega,d3.trans ⟨fun q hh => ?_,fun q hh=>q (.inl hh)⟩⟩
      rcases hh with hh|hh
      ·exact q hh
      ·exact e (by simpa using hh))
    rcases this with⟨⟨y,hy1,hy2⟩,h3⟩|⟨h2,h3⟩
    ·exact .inl ⟨⟨y,by simp[hy1],hy2⟩,h3⟩
    ·refine .inr ⟨fun y hy => ?_,h3⟩
     rcases Aeq.1 hy with rfl|hy
     ·exact hin
     ·exact h2 y hy
   ·rw[Aev hin]
    exact .inl ⟨⟨x,by simp,hin⟩,rfl⟩
 have hz:∀ x:Edge,FW ([]:WM) x=0:=fun _=>rfl
 have:=key l.length 0 [] many (by omega) (by simp only[many];omega) (fun x=>by rw[hz];simp)
 rw[Agl]at this
 rw[Aa]
 rcases this with⟨⟨x,hx,hn⟩,e⟩|⟨h,e⟩
 ·exact .inl ⟨fun q=>hn (q x hx),e⟩
 ·exact .inr ⟨h,e⟩
theorem AD2{N:Nat}{ts:List Tie}(h:RG2 N ts)(l:List Edge)(hs:l.length<1073741824):
  UI (((N:Int),(ts,())),l,())=some (if ∀ e∈l,In (N:Int) e.1∧In (N:Int) e.2.1 then(Jg N ts l,0,())else([],10,())):=by
 have ht:=h.ht
 rw[Y7,Pz]
 simp only[h.lr,Aer,AK]
 rcases APd h.h1 h.hN ts l hs with⟨hn,e⟩|⟨hall,m,hm,e⟩
 ·rw[Aev (show ¬ ∀ e∈l,In (N:Int) e.1∧In (N:Int) e.2.1 from hn)]
  simp only[e]
 ·rw[Aez (show ∀ e∈l,In (N:Int) e.1∧In (N:Int) e.2.1 from hall)]
  obtain⟨a,e1,e2⟩:=Aat (ts.map ed) m (by rw[AfV];omega)
  simp only[e,AQv (N:Int) ts h.ht h.lr,e1,Bm,IF,e2]
  congr 2
  have hf:((ts.map ed).filter fun x => !ieq (FW m x) 0)=(ts.map ed).filter fun x=>decide (x∈l.map FX):=by
   refine Agx fun x _ => ?_
   rw[Ak,Afp,Afx,AfY,AfP,hm x]
   exact Agz
  rw[hf]
  have p1:((ts.map ed).filter fun x=>decide (x∈l.map FX)).Pairwise De:=h.edP.filter _
  have p2:=AAd N ts l
  have hmem:∀ x:Edge,x∈((ts.map ed).filter fun x=>decide (x∈l.map FX))↔x∈Jg N ts l:=by
   intro x
   unfold Jg
   rw[AfW,AfW,Of,AfP,AfP]
   have norm:∀ y:Edge,x=FX y→x.1<x.2.1→x=y∨x=(y.2.1,y.1,()):=by
    rintro⟨a,b,⟨⟩⟩ rfl hlt
    unfold FX at hlt ⊢
    simp only at hlt ⊢
    rcases Int.lt_or_le a b with q|q
    ·left;rw[AhV (by omega),Ahr (by omega)]
    ·right;rw[Int.min_eq_right (by omega),Int.max_eq_left (by omega)]
   constructor
   ·rintro⟨q1,q2⟩
    have hlt:=h.AeY x q1
    obtain⟨i1,i2⟩:=h.inE x q1
    refine⟨⟨i1.2.2.1,hlt,i2.2.2.2,?_⟩,q1⟩
    obtain⟨y,hy,hyx⟩:=Ae6.1 q2
    unfold Wc
    rcases norm y hyx.symm hlt with rfl|hh
    ·exact .inl hy
    ·refine .inr ?_
     rw[hh]
     exact hy
   ·rintro⟨⟨q1,q2,q3,q4⟩,q5⟩
    refine⟨q5,Ae6.2 ?_⟩
    obtain⟨a,b,⟨⟩⟩:=x
    unfold FX
    simp only at q2
    rcases q4 with q4|q4
    ·exact⟨_,q4,by simp only;rw[AhV (by omega),Ahr (by omega)]⟩
    ·exact⟨_,q4,by simp only;rw[Int.min_eq_right (by omega),Int.max_eq_left (by omega)]⟩
  have asym:∀ a b:Edge,De a b→De b a→False:=fun a b q1 q2=>by unfold De at *;omega
  have nd1:((ts.map ed).filter fun x=>decide (x∈l.map FX)).Nodup:=p1.imp fun {a b} hh=>by rintro rfl;exact asym _ _ hh hh
  have nd2:(Jg N ts l).Nodup:=p2.imp fun {a b} hh=>by rintro rfl;exact asym _ _ hh hh
  exact AhY (le:=De) (fun a b _ _ q1 q2=>(asym a b q1 q2).elim) p1 p2 ((AhO nd1 nd2).2 hmem)
theorem APc(n:Int)(ts:List Tie)(ht:ts.length≤400)(l:List Edge)(hs:l.length<1073741824):
  ∃ xs e,UI ((n,(ts,())),l,())=some (xs,e,())∧AH3 ((n,(ts,())),l,())=some (xs,e,())∧xs.length≤4096:=by
 rcases JS n ts (by omega)with⟨r1,r⟩|⟨N,rfl,h⟩
 ·refine⟨[],1,?_,?_,by simp⟩
  ·rw[Y7,Pz]
   simp only[r,AfC]
  ·rw[AEV,Qi]
   simp only[r1,AfC]
 ·have e1:=AD2 h l hs
  have e2:=AAe h l hs
  by_cases hall:∀ e∈l,In (N:Int) e.1∧In (N:Int) e.2.1
  ·rw[Aez hall]at e1 e2
   exact⟨_,_,e1,e2,AEU N h.hN ts l⟩
  ·rw[Aev hall]at e1 e2
   exact⟨_,_,e1,e2,by simp⟩
end Go.Pev.Pl
end
section
namespace Go.Pev.Pl
open Tok
theorem AKX{N:Nat}(hN:N≤64)(u v:Nat)(hu:u<N)(hv:v<N)(top w8:Int):
  ∀ (m:Nat) (O:List Tie) (r cnt:Nat),m≤64→O.length≤400→r+1000*m<536870912→m<cnt →
  AP EJ cnt ((0:Int),false,false,(0:Int),(0:Int),(0:Int),(u:Int),(v:Int),w8,true,(N:Int),O,true,false,(0:Int),(0:Int),(r:Int),top,(m:Int)-1,()) =
  some (.inl ((0:Int),false,false,(0:Int),(0:Int),(0:Int),(N:Int),(Gq N u v top m O r).1,true,
   (match(Gq N u v top m O r).2.1 with|some _=>true|none=>false),(match(Gq N u v top m O r).2.1 with|some e=>e.1|none=>0),(match(Gq N u v top m O r).2.1 with|some e=>e.2.1|none=>0),((Gq N u v top m O r).2.2:Int),top,())):=by
 intro m
 induction m with
 |zero=>
  intro O r cnt hm hO hr hc
  obtain⟨cnt,rfl⟩:∃ c,cnt=c+1:=⟨cnt-1,by omega⟩
  unfold EJ
  rw[AP]
  dsimp only
  rw[Ap,Aei (by omega)]
  rfl
 |succ m ih=>
  intro O r cnt hm hO hr hc
  obtain⟨cnt,rfl⟩:∃ c,cnt=c+1:=⟨cnt-1,by omega⟩
  have em:((m+1:Nat):Int)-1=(m:Int):=by omega
  have hp:=Ab9 hN u v hu hv top O hO true false 0 0 r (by omega) m (by omega) _ rfl
  have l1:=M7 (AX (BO N O u v m)) top m (O.map (rT (AX (BO N O u v m)) top m))
  have l2:=AIQ (AX (BO N O u v m)) m O
  rw[AfV]at l1
  rw[em,Gq]
  cases hf:(Aq (AX (BO N O u v m)) top m (O.map (rT (AX (BO N O u v m)) top m))).2.2 with
  |some e=>
   rw[hf]at hp
   have hst:EJ ((0:Int),false,false,(0:Int),(0:Int),(0:Int),(u:Int),(v:Int),w8,true,(N:Int),O,true,false,(0:Int),(0:Int),(r:Int),top,(m:Int),())=some (.inr (.inl ((0:Int),false,false,(0:Int),(0:Int),(0:Int),(N:Int),(Aq (AX (BO N O u v m)) top m (O.map (rT (AX (BO N O u v m)) top m))).1,true,true,e.1,e.2.1,((r+FY (AX (BO N O u v m)) m O+(Aq (AX (BO N O u v m)) top m (O.map (rT (AX (BO N O u v m)) top m))).2.1:Nat):Int),top,()))):=by
    unfold EJ
    dsimp only
    rw[Ap,Aej (show(0:Int)≤(m:Int) by omega)]
    simp only[hp,Aer]
   rw[AP,hst]
  |none=>
   rw[hf]at hp
   have hst:EJ ((0:Int),false,false,(0:Int),(0:Int),(0:Int),(u:Int),(v:Int),w8,true,(N:Int),O,true,false,(0:Int),(0:Int),(r:Int),top,(m:Int),())=some (.inl ((0:Int),false,false,(0:Int),(0:Int),(0:Int),(u:Int),(v:Int),w8,true,(N:Int),(Aq (AX (BO N O u v m)) top m (O.map (rT (AX (BO N O u v m)) top m))).1,true,false,(0:Int),(0:Int),((r+FY (AX (BO N O u v m)) m O+(Aq (AX (BO N O u v m)) top m (O.map (rT (AX (BO N O u v m)) top m))).2.1:Nat):Int),top,(m:Int)-1,())):=by
    unfold EJ
    dsimp only
    rw[Ap,Aej (show(0:Int)≤(m:Int) by omega)]
    simp only[hp,AfC]
    rw[Aj (by omega)]
   rw[AP,hst]
   exact ih _ _ cnt (by omega) (by rw[l1.1];exact hO) (by omega) (by omega)
theorem AKW{N:Nat}{ts:List Tie}(h:RG2 N ts)(u v:Int):
  (¬ ((0≤u∧u<(N:Int))∧(0≤v∧v<(N:Int)))∧WU (((N:Int),(ts,())),u,v,())=some ((N:Int),ts,AJI,10,())) ∨
  (((0≤u∧u<(N:Int))∧(0≤v∧v<(N:Int)))∧ts.any (Bg u v)=false∧WU (((N:Int),(ts,())),u,v,())=some ((N:Int),ts,AJI,6,())) ∨
  (((0≤u∧u<(N:Int))∧(0≤v∧v<(N:Int)))∧ts.any (Bg u v)=true∧∃ t,ts[ts.findIdx (Bg u v)]? = some t ∧
   WU (((N:Int),(ts,())),u,v,())=some ((N:Int),(B0 N ts (ts.findIdx (Bg u v)) t).1,Xa t.2.2.2.1 (B0 N ts (ts.findIdx (Bg u v)) t).2.1 (B0 N ts (ts.findIdx (Bg u v)) t).2.2,0,())):=by
 have ht:=h.ht
 have hN:=h.hN
 rw[AGL,Yt]
 simp only[Y8 h]
 by_cases huv:InV N u∧InV N v
 ·right
  rw[Aez huv,Aez huv]
  cases ha:ts.any (Bg u v)
  ·left
   refine⟨huv,rfl,?_⟩
   simp only[Aey,Ae0,Ak]
   rfl
  ·right
   have hk:ts.findIdx (Bg u v)<ts.length:=Af9.2 (Afq.1 ha)
   have hx:ts[ts.findIdx (Bg u v)]? = some ts[ts.findIdx (Bg u v)]:=Aeo hk
   refine⟨huv,rfl,_,hx,?_⟩
   have hm:ts[ts.findIdx (Bg u v)]∈ts:=Afr hk
   generalize ts[ts.findIdx (Bg u v)]=t at *
   generalize ts.findIdx (Bg u v)=p at *
   obtain⟨i1,i2,hlt,l1,l2⟩:=h.tie hm
   obtain⟨a,ha'⟩:=Aeu i1.2.2.1
   obtain⟨b,hb'⟩:=Aeu i2.2.2.1
   obtain⟨lv,hlv⟩:=Aeu l1
   have haN:a<N:=by have:=i1.2.2.2;omega
   have hbN:b<N:=by have:=i2.2.2.2;omega
   have hT:=EH hN
   have hT64:=AFL hN
   have s1:B5 ts (0:Int) (p:Int)=some (ts.take p):=J5 (by omega)
   have s2:B5 ts ((p+1:Nat):Int) (ts.length:Int)=some (ts.drop (p+1)):=D7 (by omega)
   have hcat:Nb ([ts.take p,ts.drop (p+1)],())=some (ts.take p++ts.drop (p+1),()):=by
    rw[ANL _ (by simp) (by simp;omega)]
    simp
   simp only[AfE,Bs,Aer]
   simp only[Ab hx,s1]
   rw[AG (by omega)]
   simp only[AK,s2,hcat,Z3 N hN,hT]
   unfold B0
   cases h4:t.2.2.2.1
   ·obtain⟨m,hmany⟩:∃ m,many=m+1:=⟨many-1,by simp only[many]⟩
    have:AR EJ many ((0:Int),false,false,(0:Int),(0:Int),(0:Int),t.1,t.2.1,t.2.2.1,false,(N:Int),ts.take p++ts.drop (p+1),false,false,(0:Int),(0:Int),(0:Int),(Bf N:Int),t.2.2.1,()) =
      some (.inl ((0:Int),false,false,(0:Int),(0:Int),(0:Int),(N:Int),ts.take p++ts.drop (p+1),false,false,(0:Int),(0:Int),(0:Int),(Bf N:Int),())):=by
     rw[Aa,hmany,AP,EJ]
    simp only[this]
    rfl
   ·simp only[AfE]
    have hlen:(ts.take p++ts.drop (p+1)).length≤400:=by rw[Aes,Ae3,AfI];omega
    have hs:=AKX hN a b haN hbN (Bf N:Int) t.2.2.1 (lv+1) (ts.take p++ts.drop (p+1)) 0 many (by omega) hlen (by omega) (by simp only[many];omega)
    rw[← ha',← hb',show((lv+1:Nat):Int)-1=t.2.2.1 by omega]at hs
    have e2:t.1.toNat=a:=by omega
    have e3:t.2.1.toNat=b:=by omega
    have e4:t.2.2.1.toNat+1=lv+1:=by omega
    rw[e2,e3,e4]
    rw[← Aa]at hs
    have hs':AR EJ many ((0:Int),false,false,(0:Int),(0:Int),(0:Int),t.1,t.2.1,t.2.2.1,true,(N:Int),ts.take p++ts.drop (p+1),true,false,(0:Int),(0:Int),(0:Int),(Bf N:Int),t.2.2.1,())=_:=hs
    simp only[hs']
    cases (Gq N a b (Bf N:Int) (lv+1) (ts.take p++ts.drop (p+1)) 0).2.1 with
    |some e=>rfl
    |none=>rfl
 ·left
  rw[Aev huv,Aev huv]
  refine⟨huv,?_⟩
  simp only[Ak]
  rfl
theorem AX6(N u v:Nat)(top:Int):∀ (m:Nat) (O:List Tie) (r:Nat),(Gq N u v top m O r).1.length=O.length:=by
 intro m
 induction m with
 |zero=>intro O r;rfl
 |succ m ih=>
  intro O r
  have l1:=M7 (AX (BO N O u v m)) top m (O.map (rT (AX (BO N O u v m)) top m))
  rw[AfV]at l1
  rw[Gq]
  split
  ·exact l1.1
  ·rw[ih];exact l1.1
theorem AWf(N:Nat)(ts:List Tie)(p:Nat)(t:Tie):(B0 N ts p t).1.length≤ts.length:=by
 unfold B0
 split
 ·rw[AX6,Aes,Ae3,AfI];omega
 ·show(ts.take p++ts.drop (p+1)).length≤_
  rw[Aes,Ae3,AfI];omega
theorem AUz(n:Int)(ts:List Tie)(ht:ts.length≤400)(u v:Int):∃ O w e,WU ((n,(ts,())),u,v,())=some (n,O,w,e,())∧Zq ((n,(ts,())),u,v,())=some (n,O,w,e,())∧O.length≤ts.length:=by
 rcases JS n ts (by omega)with⟨r1,r⟩|⟨N,rfl,h⟩
 ·refine⟨ts,AJI,1,?_,?_,Aew _⟩
  ·rw[AGL,Yt]
   simp only[ZC u v r,Ak]
   rfl
  ·rw[ALx,XD]
   simp only[r1,AfC]
   rfl
 ·rcases AKW h u v with⟨q,e⟩|⟨q,q1,e⟩|⟨q,q1,t,g,e⟩
  ·rcases NF h u v with⟨_,e'⟩|⟨q',_⟩|⟨q',_⟩
   ·exact⟨_,_,_,e,e',Aew _⟩
   ·exact absurd q' q
   ·exact absurd q' q
  ·rcases NF h u v with⟨q',_⟩|⟨_,_,e'⟩|⟨_,q',_⟩
   ·exact absurd q q'
   ·exact⟨_,_,_,e,e',Aew _⟩
   ·rw[q1]at q';cases q'
  ·rcases NF h u v with⟨q',_⟩|⟨_,q',_⟩|⟨_,_,t',g',e'⟩
   ·exact absurd q q'
   ·rw[q1]at q';cases q'
   ·rw[g]at g'
    cases g'
    exact⟨_,_,_,e,e',AWf _ _ _ _⟩
theorem APh(n:Int)(ts:List Tie)(ht:ts.length≤400)(l:List Edge)(hs:l.length<1073741824):
  ∃ O w e,ZD ((n,(ts,())),l,())=some ((n,(O,())),w,e,())∧AAz ((n,(ts,())),l,())=some ((n,(O,())),w,e,())∧O.length≤ts.length∧w.length≤4096:=by
 obtain⟨xs,e,g1,g2,hx⟩:=APc n ts ht l hs
 rw[AKn,W9,TM,MV]
 simp only[g1,g2]
 cases he:(!(ieq e 0))
 ·have key:∀ (m i cnt cnt':Nat) (O:List Tie) (outs:List (Bool×Bool×Edge×Int×Unit)),i+m=xs.length→m<cnt→m<cnt'→O.length≤ts.length→outs.length=i →
    (∃ c,AP D9 cnt (n,ts,(0:Int),outs,n,O,xs,(xs.length:Int),(i:Int),())=some (.inl (n,ts,c,()))∧AP CG cnt' (n,ts,(0:Int),xs,outs,n,O,(i:Int),())=some (.inl (n,ts,c,()))) ∨
    (∃ outs' O',AP D9 cnt (n,ts,(0:Int),outs,n,O,xs,(xs.length:Int),(i:Int),())=some (.inr (.inl ((0:Int),outs',n,O',())))∧AP CG cnt' (n,ts,(0:Int),xs,outs,n,O,(i:Int),())=some (.inr (.inl ((0:Int),outs',n,O',())))∧O'.length≤ts.length∧outs'.length≤xs.length):=by
   intro m
   induction m with
   |zero=>
    intro i cnt cnt' O outs hi hc hc' hO ho
    obtain⟨cnt,rfl⟩:∃ c,cnt=c+1:=⟨cnt-1,by omega⟩
    obtain⟨cnt',rfl⟩:∃ c,cnt'=c+1:=⟨cnt'-1,by omega⟩
    refine .inr ⟨outs,O,?_,?_,hO,by omega⟩
    ·rw[AP,D9,AI,Aei (by omega)]
    ·rw[AP,CG,AK,AI,Aei (by omega)]
   |succ m ih=>
    intro i cnt cnt' O outs hi hc hc' hO ho
    obtain⟨cnt,rfl⟩:∃ c,cnt=c+1:=⟨cnt-1,by omega⟩
    obtain⟨cnt',rfl⟩:∃ c,cnt'=c+1:=⟨cnt'-1,by omega⟩
    have hi':i<xs.length:=by omega
    have hxx:xs[i]? = some xs[i]:=Aeo hi'
    obtain⟨O',w,c,p1,p2,hl⟩:=AUz n O (by omega) xs[i].1 xs[i].2.1
    have s1:D9 (n,ts,(0:Int),outs,n,O,xs,(xs.length:Int),(i:Int),())=if c=0 then some (.inl (n,ts,(0:Int),outs++[w],n,O',xs,(xs.length:Int),((i+1:Nat):Int),()))else some (.inr (.inl (n,ts,c,()))):=by
     rw[D9,AI,Aej hi']
     simp only[Ab hxx,CH hxx,p1,Ak]
     rw[BE (by simp only[AK,Aet,Ae4];omega),AG (by omega)]
     by_cases hc0:c=0
     ·rw[Aez hc0,Aej hc0];rfl
     ·rw[Aev hc0,Aei hc0];rfl
    have s2:CG (n,ts,(0:Int),xs,outs,n,O,(i:Int),())=if c=0 then some (.inl (n,ts,(0:Int),xs,outs++[w],n,O',((i+1:Nat):Int),()))else some (.inr (.inl (n,ts,c,()))):=by
     rw[CG,AK,AI,Aej hi']
     simp only[Ab hxx,CH hxx,p2,Ak]
     rw[BE (by simp only[AK,Aet,Ae4];omega),AG (by omega)]
     by_cases hc0:c=0
     ·rw[Aez hc0,Aej hc0];rfl
     ·rw[Aev hc0,Aei hc0];rfl
    rw[AP,s1,AP,s2]
    by_cases hc0:c=0
    ·rw[Aez hc0,Aez hc0]
     exact ih (i+1) cnt cnt' O' (outs++[w]) (by omega) (by omega) (by omega) (by omega) (by simp[ho])
    ·rw[Aev hc0,Aev hc0]
     exact .inl ⟨c,rfl,rfl⟩
  have hm:4294967296<many:=by simp only[many];omega
  rcases key xs.length 0 many many ts [] (by omega) (by omega) (by omega) (Aew _) rfl with⟨c,k1,k2⟩|⟨outs,O,k1,k2,k3,k4⟩
  ·have k1':AR D9 many (n,ts,(0:Int),[],n,ts,xs,AM xs,(0:Int),())=_:=(Aa _ _ _).trans k1
   have k2':AR CG many (n,ts,(0:Int),xs,[],n,ts,(0:Int),())=_:=(Aa _ _ _).trans k2
   simp only[k1',k2']
   exact⟨_,_,_,rfl,rfl,Aew _,by simp⟩
  ·have k1':AR D9 many (n,ts,(0:Int),[],n,ts,xs,AM xs,(0:Int),())=_:=(Aa _ _ _).trans k1
   have k2':AR CG many (n,ts,(0:Int),xs,[],n,ts,(0:Int),())=_:=(Aa _ _ _).trans k2
   simp only[k1',k2']
   exact⟨_,_,_,rfl,rfl,k3,by omega⟩
 ·exact⟨_,_,_,rfl,rfl,Aew _,by simp⟩
end Go.Pev.Pl
end
section
namespace Go.Pev.Pl
open Tok
theorem AUO(x y:Tie):(ieq x.1 y.1&&(ieq x.2.1 y.2.1&&(ieq x.2.2.1 y.2.2.1&&((x.2.2.2.1==y.2.2.2.1)&&true))))=decide (x=y):=by
 obtain⟨a,b,c,d,⟨⟩⟩:=x
 obtain⟨a',b',c',d',⟨⟩⟩:=y
 simp only[Ak]
 rw[Afp]
 simp only[Aep,AfP,Agg,AfL,and_true]
theorem AOg(n m:Int)(xs ys:List Tie)(hs:xs.length<4611686018427387904):Rz ((n,(xs,())),(m,(ys,())),())=some (decide (n=m∧xs=ys),()):=by
 rw[ADm,Pg]
 simp only[QY]
 rw[Ak]
 by_cases hn:n=m
 ·rw[Aej hn]
  simp only[Aer]
  by_cases hl:xs.length=ys.length
  ·rw[Aej hl]
   have e:=YF (step:=Ek) (fun i=>(n,xs,m,ys,(i:Int),())) xs.length (fun i => !decide (xs.getD i zT=ys.getD i zT)) (fun _=>.inl (false,())) (.inr (.inl ())) (by omega)
    (fun i hi=>by
     have hx:xs[i]? = some xs[i]:=Aeo hi
     have hy:ys[i]? = some (ys[i]'(by omega)):=Aeo (by omega)
     have gx:xs.getD i zT=xs[i]:=by simp[hi]
     have gy:ys.getD i zT=ys[i]'(by omega):=by simp[show i<ys.length by omega]
     rw[Ek,AK,AI,Aej hi]
     simp only[Ab hx,Ab hy,AUO,gx,gy]
     rw[AG (by omega)]
     by_cases he:xs[i]=ys[i]'(by omega)
     ·simp[he]
     ·simp[he])
    (by rw[Ek,AK,AI,Aei (by omega)])
   rcases e with⟨k,k1,k2,_,k4⟩|⟨k1,k2⟩
   ·have k4':AR Ek many (n,xs,m,ys,(0:Int),())=_:=k4
    simp only[Aer,k4']
    rw[Aei]
    rintro⟨_,rfl⟩
    simp at k2
   ·have k2':AR Ek many (n,xs,m,ys,(0:Int),())=_:=k2
    simp only[Aer,k2']
    rw[Aej]
    exact⟨hn,FJ zT hl fun j hj=>by simpa using k1 j hj⟩
  ·rw[Aei hl]
   simp only[AfC]
   rw[Aei]
   rintro⟨_,rfl⟩
   exact hl rfl
 ·rw[Aei hn]
  simp only[AfC]
  rw[Aei]
  exact fun h=>hn h.1
end Go.Pev.Pl
end
section
namespace Go.Pev.Pl
open Tok
theorem Wr{n:Int}(l:List Edge)(hs:l.length<1073741824)(ha:∀ e∈l,In n e.1∧In n e.2.1):
  ∀ (m i c1 c2:Nat) (rings:List (List Int)) (t1 t2:List Bool),i+m=l.length→t1.length=i→t2.length=i→FC n rings (l.take i)→m<c1→m<c2 →
  ∃ zs b1 b2,AP Hx c1 (l,n,rings,(0:Int),t1,(i:Int),())=some (.inl (n,zs,(0:Int),b1,()))∧AP B1 c2 (n,rings,(0:Int),t2,l,(l.length:Int),(i:Int),())=some (.inl (n,zs,(0:Int),b2,()))∧FC n zs l:=by
 intro m
 induction m with
 |zero=>
  intro i c1 c2 rings t1 t2 hi ht1 ht2 h hc1 hc2
  obtain⟨c1,rfl⟩:∃ c,c1=c+1:=⟨c1-1,by omega⟩
  obtain⟨c2,rfl⟩:∃ c,c2=c+1:=⟨c2-1,by omega⟩
  rw[Afn (by omega)]at h
  refine⟨rings,t1,t2,?_,?_,h⟩
  ·rw[AP,Hx,AK,AI,Aei (by omega)]
  ·rw[AP,B1,AI,Aei (by omega)]
 |succ m ih=>
  intro i c1 c2 rings t1 t2 hi ht1 ht2 h hc1 hc2
  obtain⟨c1,rfl⟩:∃ c,c1=c+1:=⟨c1-1,by omega⟩
  obtain⟨c2,rfl⟩:∃ c,c2=c+1:=⟨c2-1,by omega⟩
  have hi':i<l.length:=by omega
  have hx:l[i]? = some l[i]:=Aeo hi'
  obtain⟨iu,iv⟩:=ha _ (Afr hi')
  obtain⟨zs,q,e1,e2,_⟩:=ATz h iu iv
  obtain⟨zs',q',f1,f2,_⟩:=ASH (n:=n) (rings:=rings) l[i].1 l[i].2.1 h.fr.dom
  rw[e1]at f1
  cases f1
  rw[← Afc hi']at e2
  obtain⟨zs2,b1,b2,g1,g2,g3⟩:=ih (i+1) c1 c2 zs (A5 t1 [ieq q 0]) (A5 t2 [ieq q 0]) (by omega) (by simp[Co,ht1]) (by simp[Co,ht2]) e2 (by omega) (by omega)
  refine⟨zs2,b1,b2,?_,?_,g3⟩
  ·rw[AP,Hx,AK,AI,Aej hi']
   simp only[Ab hx,f2]
   rw[AG (by omega),BE (by simp only[AK,Aet,Ae4];omega)]
   exact g1
  ·rw[AP,B1,AI,Aej hi']
   simp only[Ab hx,e1]
   rw[AG (by omega),BE (by simp only[AK,Aet,Ae4];omega)]
   exact g2
theorem AdC{N:Nat}(h1:1≤N)(hN:N≤64)(l:List Edge)(hs:l.length<1073741824)(ha:∀ e∈l,In (N:Int) e.1∧In (N:Int) e.2.1):
  ∃ zs,fof ((N:Int),l,())=some (((N:Int),(zs,())),0,())∧Ad0 ((N:Int),l,())=some (((N:Int),(zs,())),0,())∧FC (N:Int) zs l:=by
 have hF:=ABe h1 hN
 have hD:=hF.fr.dom
 have hRF:=Ko.2 hF.fr
 obtain⟨zs,b1,b2,e1,e2,h2⟩:=Wr l hs ha l.length 0 many many (BJ N) [] [] (by omega) rfl rfl (by simpa using hF) (by simp only[many];omega) (by simp only[many];omega)
 refine⟨zs,?_,?_,h2⟩
 ·have hth:KY (((N:Int),(BJ N,())),l.flatMap fun e=>[e.1,e.2.1],())=some (0,()):=by
   have hfl:=AM8 l
   rw[Oz _ _ _ hD (by omega),AM9,AIq,Aez hRF]
   split
   ·rfl
   ·rename_i hc
    exact absurd (Ae9.2 fun e he=>Aej (ha e he)) hc
  have hm:G6 (N:Int)=((N:Int),BJ N,0,()):=by
   unfold G6
   rw[Aez (show Sz (N:Int)from⟨by omega,by omega⟩),Afe]
  have e2':AP B1 many ((N:Int),BJ N,(0:Int),[],l,(l.length:Int),(0:Int),())=_:=e2
  rw[ARV,AMz]
  simp only[ADY,hm,MG,Aer]
  rw[TD,MP,MU,IE]
  simp only[AAs l hs,hth,MG,Aer,Aa,AK,e2']
 ·have hall:(l.all fun e=>decide (In (N:Int) e.1)&&decide (In (N:Int) e.2.1))=true:=by
   rw[Ae9]
   intro e he
   obtain⟨h1,h2⟩:=ha e he
   simp[h1,h2]
  have e1':AR Hx many (l,(N:Int),BJ N,(0:Int),[],(0:Int),())=_:=(Aa _ _ _).trans e1
  have hE:AIq (N:Int) (BJ N) true=0:=by
   unfold AIq
   simp[hRF]
  have hL:AHP (((N:Int),(BJ N,())),l,())=some (((N:Int),(zs,())),b1,0,()):=by
   rw[AQq,Sw]
   simp only[AJn (N:Int) (BJ N) l hD (by omega),hall]
   rw[hE]
   simp only[Bs,Aer,e1']
  have hm:AHJ ((N:Int),())=some ((N:Int),BJ N,0,()):=by
   rw[AQe]
   unfold G6
   rw[Aez (show Sz (N:Int)from⟨by omega,by omega⟩),Afe]
  rw[AcJ,AQK]
  simp only[hm,Bs,Aer,hL]
theorem RG2.both{N:Nat}{ts:List Tie}(h:RG2 N ts)(k:Int):∃ zs,NR (((N:Int),(ts,())),k,())=some (((N:Int),(zs,())),0,())∧AMy (((N:Int),(ts,())),k,())=some (((N:Int),(zs,())),0,())∧FC (N:Int) zs (trk ts k):=by
 have hl:=h.Ad6 k
 obtain⟨zs,e1,e2,hF⟩:=AdC h.h1 h.hN (trk ts k) (by omega) (h.inK k)
 refine⟨zs,?_,?_,hF⟩
 ·rw[Oi,Jb]
  simp only[h.lr,Aer,AMA (N:Int) ts h.ht k,e1]
 ·rw[AMx,O1]
  simp only[h.r21,Aer,Mu (N:Int) ts h.ht k,e2]
end Go.Pev.Pl
end
section
namespace Go.Pev.Pl
open Tok
section
variable (n:Int) (ts:List Tie)
end
end Go.Pev.Pl
end
section
namespace Go.Pev.Pl
open Tok
theorem AIu:I2 ()=some (true,()):=by
 rw[show I2 () = @I2 idI ()from AgE (fun i=>@I2 i ()) AAF]
 kernel_rfl
theorem AMs(n:Int)(ts:List Tie)(l:List Edge):NW ((n,(ts,())),l,())=some (true,())∨(NW ((n,(ts,())),l,())=some (false,())∧ts.length≤30∧n≤12∧l.length≤12):=by
 rw[AAc,NV]
 simp only[AK,Am]
 by_cases h1:(30:Int)<ts.length
 ·left;simp only[Aej h1]
 by_cases h2:(12:Int)<n
 ·left;simp only[Aei h1,Aej h2]
 by_cases h3:(12:Int)<l.length
 ·left;simp only[Aei h1,Aei h2,Aej h3]
 ·right;simp only[Aei h1,Aei h2,Aei h3];exact⟨trivial,by omega,by omega,by omega⟩
theorem AKE(xs:List (Bool×Bool×Edge×Int×Unit))(h:xs.length<9223372036854775808):YL (xs,xs,())=some (true,()):=by
 rw[ADj,Pf]
 simp only[AK,Bs,Aer]
 have e:=Fb (step:=Fe) (fun i=>(xs,xs,(i:Int),())) xs (fun _=>false) (fun _=>.inl (false,())) (.inr (.inl ())) h
  (fun i x hi hx=>by
   rw[Fe,AK,AI,Aej hi]
   simp only[Ab hx,CH hx,Bs,beq_self_eq_true,Agv,Aer]
   rw[AG (by omega)]
   rfl)
  (by rw[Fe,AK,AI,Aei (by omega)])
 have e':AR Fe many (xs,xs,(0:Int),())=_:=e
 simp only[e']
 simp
end Go.Pev.Pl
end
section
namespace Go.Pev.Pl
open Tok
theorem ACI{n:Int}{ts:List Tie}(ht:ts.length≤400):(∃ N:Nat,n=(N:Int)∧RG2 N ts∧Snd N (Bf N:Int) ts∧J7 ((n,(ts,())),())=some (true,()))∨J7 ((n,(ts,())),())=some (false,()):=by
 rcases JS n ts (by omega)with⟨r1,_⟩|⟨N,rfl,h⟩
 ·right
  rw[ON,JO]
  simp only[r1,AfC]
 ·by_cases hp:Vo ts∧AIy ts∧Q7 N ts
  ·exact .inl ⟨N,rfl,h,h.snd hp,by rw[T9 h,(Dn _).2 hp]⟩
  ·right
   have:Ig (Vo ts∧AIy ts∧Q7 N ts)=false:=by rw[← Ahs,Dn];exact hp
   rw[T9 h,this]
theorem AYv(n:Int)(ts:List Tie)(ht:ts.length≤400)(l:List Edge)(hs:l.length<1073741824):ZD ((n,(ts,())),l,())=AAz ((n,(ts,())),l,()):=by
 obtain⟨_,_,_,h1,h2,_⟩:=APh n ts ht l hs
 rw[h1,h2]
theorem AV9(u v:Int):Bg u v=Bg v u:=by
 funext t
 unfold Bg
 rw[Int.min_comm,Int.max_comm]
theorem AYi{N:Nat}{ts:List Tie}(h:RG2 N ts){x:Edge}(hx:x∈ts.map ed)(hr:0≤x.1∧x.1<x.2.1∧x.2.1<(N:Int)):
  ∃ p t,ts[p]? = some t∧ed t=x∧p<ts.length∧WU (((N:Int),(ts,())),x.2.1,x.1,())=some ((N:Int),(B0 N ts p t).1,Xa t.2.2.2.1 (B0 N ts p t).2.1 (B0 N ts p t).2.2,0,()) ∧
   Zq (((N:Int),(ts,())),x.1,x.2.1,())=some ((N:Int),(B0 N ts p t).1,Xa t.2.2.2.1 (B0 N ts p t).2.1 (B0 N ts p t).2.2,0,()):=by
 obtain⟨t,ht,hte⟩:=Ae6.1 hx
 obtain⟨f1,k,f2,f3,f4⟩:=Aak h.oks ht
 have ex1:t.1=x.1:=by rw[← hte];rfl
 have ex2:t.2.1=x.2.1:=by rw[← hte];rfl
 rw[ex1,ex2]at f1 f2
 have f1':=f1
 have f2':=f2
 rw[AV9]at f1' f2'
 refine⟨k,t,f4,hte,f3,?_,?_⟩
 ·rcases AKW h x.2.1 x.1 with⟨q,_⟩|⟨_,q,_⟩|⟨_,_,t',g1,g2⟩
  ·exact absurd ⟨⟨by omega,by omega⟩,by omega,by omega⟩ q
  ·rw[f1']at q;cases q
  ·rw[f2',f4]at g1
   cases g1
   rw[f2']at g2
   exact g2
 ·rcases NF h x.1 x.2.1 with⟨q,_⟩|⟨_,q,_⟩|⟨_,_,t',g1,g2⟩
  ·exact absurd ⟨⟨by omega,by omega⟩,by omega,by omega⟩ q
  ·rw[f1]at q;cases q
  ·rw[f2,f4]at g1
   cases g1
   rw[f2]at g2
   exact g2
theorem AEc{N:Nat}{ts:List Tie}(h:RG2 N ts)(hs:Snd N (Bf N:Int) ts)(l:List Edge)(b1:Int)(b2:List Tie)(b3:List (Bool×Bool×Edge×Int×Unit))(b4:Int):
  ∃ O outs,AR CG many ((N:Int),ts,(0:Int),Jg N ts l,[],(N:Int),ts,(0:Int),())=some (.inr (.inl ((0:Int),outs,(N:Int),O,()))) ∧
   AR CR many (Jg N ts l,b1,b2,b3,b4,(N:Int),ts,[],(0:Int),())=some (.inr (.inl (b1,b2,b3,b4,(N:Int),O,outs,())))∧O.length≤400∧outs.length≤4096:=by
 have hgl:=AEU N h.hN ts l
 have hgp:=AAd N ts l
 have hgm:=fun x=>AWg (N:=N) (ts:=ts) (l:=l) (x:=x)
 generalize Jg N ts l=xs at *
 have key:∀ (m i cnt cnt':Nat) (O:List Tie) (outs:List (Bool×Bool×Edge×Int×Unit)),i+m=xs.length→m<cnt→m<cnt'→outs.length=i→RG2 N O→Snd N (Bf N:Int) O→O.map ed=(ts.map ed).filter (fun e=>decide (e∉xs.take i)) →
   ∃ O' outs',AP CG cnt ((N:Int),ts,(0:Int),xs,outs,(N:Int),O,(i:Int),())=some (.inr (.inl ((0:Int),outs',(N:Int),O',()))) ∧
    AP CR cnt' (xs,b1,b2,b3,b4,(N:Int),O,outs,(i:Int),())=some (.inr (.inl (b1,b2,b3,b4,(N:Int),O',outs',())))∧O'.length≤400∧outs'.length≤4096:=by
  intro m
  induction m with
  |zero=>
   intro i cnt cnt' O outs hi hc hc' ho hR hS hE
   obtain⟨cnt,rfl⟩:∃ c,cnt=c+1:=⟨cnt-1,by omega⟩
   obtain⟨cnt',rfl⟩:∃ c,cnt'=c+1:=⟨cnt'-1,by omega⟩
   refine⟨O,outs,?_,?_,hR.ht,by omega⟩
   ·rw[AP,CG,AK,AI,Aei (by omega)]
   ·unfold CR
    rw[AP]
    dsimp only
    rw[AK,AI,Aei (by omega)]
  |succ m ih=>
   intro i cnt cnt' O outs hi hc hc' ho hR hS hE
   obtain⟨cnt,rfl⟩:∃ c,cnt=c+1:=⟨cnt-1,by omega⟩
   obtain⟨cnt',rfl⟩:∃ c,cnt'=c+1:=⟨cnt'-1,by omega⟩
   have hi':i<xs.length:=by omega
   have hx:xs[i]? = some xs[i]:=Aeo hi'
   have hxm:=hgm xs[i] (Afr hi')
   have hnt:xs[i]∉xs.take i:=fun hh=>by
    obtain⟨j,hj,e⟩:=AgW.1 hh
    have:=(Afk.1 hgp) j i (by omega) hi' (by omega)
    rw[e]at this
    unfold De at this;omega
   have htk:xs.take (i+1)=xs.take i++[xs[i]]:=Afc hi'
   generalize xs[i]=x at *
   have hxO:x∈O.map ed:=by rw[hE,AfW];exact⟨hxm.2.2.2,Aej hnt⟩
   obtain⟨k,t,f4,hte,f3,p1,p2⟩:=AYi hR hxO ⟨hxm.1,hxm.2.1,hxm.2.2.1⟩
   obtain⟨r1,r2,r3,_⟩:=AWe hR hS f4
   have hspl:O=O.take k++t::O.drop (k+1):=by
    have hpe:O[k]=t:=(AfH.1 f4).2
    conv=>lhs;rw[← Afb k O,AfR f3,hpe]
   have hE2:(B0 N O k t).1.map ed=(ts.map ed).filter (fun e=>decide (e∉xs.take (i+1))):=by
    rw[r3,Af1]
    have hp:=hR.edP
    rw[hspl,Af1,Ae7,hte]at hp
    rw[AWx hp]
    have:(O.take k).map ed++x::(O.drop (k+1)).map ed=O.map ed:=by
     conv=>rhs;rw[hspl]
     rw[Af1,Ae7,hte]
    rw[this,hE,List.filter_filter]
    refine Agx fun e _ => ?_
    rw[htk,Afp]
    simp only[Aep,Aem,Aen,AfB,not_or]
    exact⟨fun q=>⟨q.2,q.1⟩,fun q=>⟨q.2,q.1⟩⟩
   have hlen:(B0 N O k t).1.length+1=O.length:=by
    have h5:=AgE List.length r3
    rw[AfV,AfV,Aes,Ae3,AfI]at h5
    omega
   have hOl:=hR.ht
   have s1:CG ((N:Int),ts,(0:Int),xs,outs,(N:Int),O,(i:Int),())=some (.inl ((N:Int),ts,(0:Int),xs,outs++[Xa t.2.2.2.1 (B0 N O k t).2.1 (B0 N O k t).2.2],(N:Int),(B0 N O k t).1,((i+1:Nat):Int),())):=by
    rw[CG,AK,AI,Aej hi']
    simp only[Ab hx,CH hx,p2,Bs,Aer]
    rw[BE (by simp only[AK,Aet,Ae4];omega),AG (by omega)]
    rfl
   have s2:CR (xs,b1,b2,b3,b4,(N:Int),O,outs,(i:Int),())=some (.inl (xs,b1,b2,b3,b4,(N:Int),(B0 N O k t).1,outs++[Xa t.2.2.2.1 (B0 N O k t).2.1 (B0 N O k t).2.2],((i+1:Nat):Int),())):=by
    unfold CR
    dsimp only
    rw[AK,AI,Aej hi']
    simp only[Ab hx,CH hx,p1,Bs,Aer,AK]
    rw[Aj (n:=(O.length:Int)-1) (by omega),Ak,Aej (show(((B0 N O k t).1.length:Nat):Int)=(O.length:Int)-1 by omega)]
    simp only[Aer]
    rw[BE (by simp only[Aet,Ae4];omega),AG (by omega)]
    rfl
   rw[AP,s1,AP,s2]
   exact ih (i+1) cnt cnt' (B0 N O k t).1 (outs++[Xa t.2.2.2.1 (B0 N O k t).2.1 (B0 N O k t).2.2]) (by omega) (by omega) (by omega) (by rw[Aes,ho];rfl) r1 r2 hE2
 have hm:4294967296<many:=by simp only[many];omega
 obtain⟨O,outs,e1,e2,e3,e4⟩:=key xs.length 0 many many ts [] (by omega) (by omega) (by omega) rfl h hs (by
  rw[List.take_zero]
  refine(AgT.2 fun e _ => ?_).symm
  simp)
 exact⟨O,outs,(Aa _ _ _).trans e1,(Aa _ _ _).trans e2,e3,e4⟩
theorem Yr(g:Int×List Tie×Unit)(l:List Edge)
  (h0:wfD (.prod (.int .i64) (.prod (.slice (.prod (.int .i64) (.prod (.int .i64) (.prod (.int .i64) (.prod .bool .unit))))) .unit)) g)
  (h1:wfD (.slice (.prod (.int .i64) (.prod (.int .i64) .unit))) l):HO (g,l,())=some (true,()):=by
 obtain⟨n,ts,⟨⟩⟩:=g
 rw[Pt,Ie]
 simp only[AIu,Aer]
 rcases AMs n ts l with g1|⟨g1,g2,g3,g4⟩
 ·simp only[g1]
 simp only[g1]
 rcases ACI (n:=n) (ts:=ts) (by omega)with⟨N,rfl,h,hS,hv⟩|hv
 ·have hp:=AD2 h l (by omega)
  have hg:=AAe h l (by omega)
  simp only[hv,Aer,AYv (N:Int) ts (by omega) l (by omega)]
  by_cases hall:∀ e∈l,In (N:Int) e.1∧In (N:Int) e.2.1
  ·rw[Aez hall]at hp hg
   obtain⟨O,outs,d1,d2,d3,d4⟩:=AEc h hS l (N:Int) [] [] 0
   have hd:AAz (((N:Int),(ts,())),l,())=some (((N:Int),(O,())),outs,0,()):=by
    rw[TM,MV]
    simp only[hg,Bs,Aer,d1]
   obtain⟨O',outs',d1',d2',_,_⟩:=AEc h hS l (N:Int) O outs 0
   rw[d1]at d1'
   cases d1'
   have s1:=AOg (N:Int) (N:Int) O O (by omega)
   have s2:=AKE outs (by omega)
   simp only[hp,hd,Bs,Aer,d2',s1,s2,AhX,Aex]
  ·rw[Aev hall]at hp hg
   have hd:AAz (((N:Int),(ts,())),l,())=some (((N:Int),(ts,())),[],10,()):=by
    rw[TM,MV]
    simp only[hg,Ak]
    rfl
   simp only[hp,hd,AK,Ae4]
   have e1:ieq (10:Int) 0=false:=by rw[Ak];rfl
   simp only[e1,Bs,AfC]
   rw[Aj (by simp),Ak]
   rfl
 ·simp only[hv,AfC]
end Go.Pev.Pl
end
section
namespace Go.Pev
open Go.Proofs
noncomputable section
abbrev AAQ:Hints:={ loop:=fun n=>match n with|0=>Ae 0 26 AEL AEK Eu|_=>fun _ _ _=>none,fp:=fun n=>match n with|6=>[[],[],[],[],[],[],[],[],[]]|_=>[] }
theorem AHf:∀ v,Eu v=roundOf Tryz.prog Env.none AAQ 1 0 26 (AB Tryz.f48 0) AEL AEK v:=by
 rintro⟨a0,a1,a2,⟨⟩⟩
 kernel_rfl
theorem AWA:AD (AB Tryz.f48 0) 1=[]:=by kernel_rfl
theorem AWB:Ac Tryz.prog 0 (.loop (AB Tryz.f48 0)) (AAQ.loop 0):=AY Env.AG6 (AHf) (AA AWA trivial)
theorem AQ4:∀ v,QO v=AT Tryz.prog Env.none AAQ Tryz.f48 AAP AAO AAN v:=by
 rintro⟨a0,a1,⟨⟩⟩
 kernel_rfl
theorem AZ3:AD (AW Tryz.f48) 0=[(0,AB Tryz.f48 0)]:=by kernel_rfl
theorem AMP:AU Tryz.prog 48 (AH 2 AAP AAO AAN S3):=AN Env.AG6 Tryz.func48 (by kernel_rfl) (by kernel_rfl) rfl (fun v=>(AEM v).trans (AQ4 v)) (AA AZ3 ⟨AWB,trivial⟩)
def AB2:Env:=Env.none.ext 48 true true (AH 2 AAP AAO AAN S3)
theorem WB:Af Tryz.prog AB2:=Env.Ai Env.AG6 AMP (fun _=>AQ rfl rfl) (fun _=>AO rfl rfl)
abbrev AXd:Hints:={  }
theorem AN1:∀ v,Pa v=AT Tryz.prog AB2 AXd Tryz.f159 Xl Xk Xj v:=by
 rintro⟨a0,⟨⟩⟩
 kernel_rfl
theorem AXc:AD (AW Tryz.f159) 0=[]:=by kernel_rfl
theorem AJW:AU Tryz.prog 159 (AH 1 Xl Xk Xj LS):=AN WB Tryz.func159 (by kernel_rfl) (by kernel_rfl) rfl (fun v=>(ADP v).trans (AN1 v)) (AA AXc trivial)
def ABh:Env:=AB2.ext 159 true true (AH 1 Xl Xk Xj LS)
theorem Vp:Af Tryz.prog ABh:=Env.Ai WB AJW (fun _=>AQ rfl rfl) (fun _=>AO rfl rfl)
abbrev AeP:Hints:={  }
theorem Abc:∀ v,ASh v=AT Tryz.prog ABh AeP Tryz.f156 AXy AXx AXw v:=by
 rintro⟨a0,a1,⟨⟩⟩
 kernel_rfl
theorem AeO:AD (AW Tryz.f156) 0=[]:=by kernel_rfl
theorem AXv:AU Tryz.prog 156 (AH 2 AXy AXx AXw tin):=AN Vp Tryz.func156 (by kernel_rfl) (by kernel_rfl) rfl (fun v=>(AXz v).trans (Abc v)) (AA AeO trivial)
def AbM:Env:=ABh.ext 156 true true (AH 2 AXy AXx AXw tin)
theorem ANr:Af Tryz.prog AbM:=Env.Ai Vp AXv (fun _=>AQ rfl rfl) (fun _=>AO rfl rfl)
abbrev AdZ:Hints:={  }
theorem AX3:∀ v,AFa v=AT Tryz.prog AbM AdZ Tryz.f187 AOI AOH AOG v:=by
 rintro⟨a0,a1,a2,⟨⟩⟩
 kernel_rfl
theorem AdY:AD (AW Tryz.f187) 0=[]:=by kernel_rfl
theorem AUP:AU Tryz.prog 187 (AH 3 AOI AOH AOG AUQ):=AN ANr Tryz.func187 (by kernel_rfl) (by kernel_rfl) rfl (fun v=>(ASi v).trans (AX3 v)) (AA AdY trivial)
def ASU:Env:=AbM.ext 187 true true (AH 3 AOI AOH AOG AUQ)
theorem AEr:Af Tryz.prog ASU:=Env.Ai ANr AUP (fun _=>AQ rfl rfl) (fun _=>AO rfl rfl)
abbrev AXb:Hints:={ fp:=fun n=>match n with|5=>[[],[],[],[],[],[],[],[],[]]|_=>[] }
theorem AN0:∀ v,PZ v=AT Tryz.prog ASU AXb Tryz.f197 Xh Xg Xf v:=by
 rintro⟨a0,a1,⟨⟩⟩
 kernel_rfl
theorem AXa:AD (AW Tryz.f197) 0=[]:=by kernel_rfl
theorem AJV:AU Tryz.prog 197 (AH 2 Xh Xg Xf Xi):=AN AEr Tryz.func197 (by kernel_rfl) (by kernel_rfl) rfl (fun v=>(ADO v).trans (AN0 v)) (AA AXa trivial)
def RA:Env:=ASU.ext 197 true true (AH 2 Xh Xg Xf Xi)
theorem Mm:Af Tryz.prog RA:=Env.Ai AEr AJV (fun _=>AQ rfl rfl) (fun _=>AO rfl rfl)
abbrev AFV:Hints:={ loop:=fun n=>match n with|0=>Ae 0 25 AJk AJj He|_=>fun _ _ _=>none }
theorem AJi:∀ v,He v=roundOf Tryz.prog RA AFV 1 0 25 (AB Tryz.f129 0) AJk AJj v:=by
 rintro⟨a0,a1,a2,a3,a4,⟨⟩⟩
 kernel_rfl
theorem AXt:AD (AB Tryz.f129 0) 1=[]:=by kernel_rfl
theorem AXu:Ac Tryz.prog 0 (.loop (AB Tryz.f129 0)) (AFV.loop 0):=AY Mm (AJi) (AA AXt trivial)
theorem AUM:∀ v,Wx v=AT Tryz.prog RA AFV Tryz.f129 AFU AFT AFS v:=by
 rintro⟨a0,⟨⟩⟩
 kernel_rfl
theorem AbZ:AD (AW Tryz.f129) 0=[(0,AB Tryz.f129 0)]:=by kernel_rfl
theorem AOC:AU Tryz.prog 129 (AH 1 AFU AFT AFS AJm):=AN Mm Tryz.func129 (by kernel_rfl) (by kernel_rfl) rfl (fun v=>(AJl v).trans (AUM v)) (AA AbZ ⟨AXu,trivial⟩)
def XS:Env:=RA.ext 129 true true (AH 1 AFU AFT AFS AJm)
theorem PI:Af Tryz.prog XS:=Env.Ai Mm AOC (fun _=>AQ rfl rfl) (fun _=>AO rfl rfl)
abbrev AAX:Hints:={ loop:=fun n=>match n with|0=>Ae 0 19 AEO AEN Fv|_=>fun _ _ _=>none }
theorem AHi:∀ v,Fv v=roundOf Tryz.prog XS AAX 1 0 19 (AB Tryz.f146 0) AEO AEN v:=by
 rintro⟨a0,a1,a2,a3,⟨⟩⟩
 kernel_rfl
theorem AWF:AD (AB Tryz.f146 0) 1=[]:=by kernel_rfl
theorem AWG:Ac Tryz.prog 0 (.loop (AB Tryz.f146 0)) (AAX.loop 0):=AY PI (AHi) (AA AWF trivial)
theorem ARF:∀ v,QS v=AT Tryz.prog XS AAX Tryz.f146 AAW AAV AAU v:=by
 rintro⟨a0,a1,⟨⟩⟩
 kernel_rfl
theorem AaC:AD (AW Tryz.f146) 0=[(0,AB Tryz.f146 0)]:=by kernel_rfl
theorem AMQ:AU Tryz.prog 146 (AH 2 AAW AAV AAU Ou):=AN PI Tryz.func146 (by kernel_rfl) (by kernel_rfl) rfl (fun v=>(AEP v).trans (ARF v)) (AA AaC ⟨AWG,trivial⟩)
def AB3:Env:=XS.ext 146 true true (AH 2 AAW AAV AAU Ou)
theorem WC:Af Tryz.prog AB3:=Env.Ai PI AMQ (fun _=>AQ rfl rfl) (fun _=>AO rfl rfl)
abbrev ANI:Hints:={  }
theorem AC5:∀ v,Iy v=AT Tryz.prog AB3 ANI Tryz.f113 MY MX MW v:=by
 rintro⟨a0,a1,⟨⟩⟩
 kernel_rfl
theorem ANH:AD (AW Tryz.f113) 0=[]:=by kernel_rfl
theorem AA5:AU Tryz.prog 113 (AH 2 MY MX MW Ev):=AN WC Tryz.func113 (by kernel_rfl) (by kernel_rfl) rfl (fun v=>(Qs v).trans (AC5 v)) (AA ANH trivial)
def I9:Env:=AB3.ext 113 true true (AH 2 MY MX MW Ev)
theorem IX:Af Tryz.prog I9:=Env.Ai WC AA5 (fun _=>AQ rfl rfl) (fun _=>AO rfl rfl)
abbrev AQW:Hints:={ loop:=fun n=>match n with|0=>Ae 0 25 ATI ATH KM|_=>fun _ _ _=>none }
theorem AQS:∀ v,KM v=roundOf Tryz.prog I9 AQW 1 0 25 (AB Tryz.f177 0) ATI ATH v:=by
 rintro⟨a0,a1,a2,⟨⟩⟩
 kernel_rfl
theorem AcL:AD (AB Tryz.f177 0) 1=[]:=by kernel_rfl
theorem AcM:Ac Tryz.prog 0 (.loop (AB Tryz.f177 0)) (AQW.loop 0):=AY IX (AQS) (AA AcL trivial)
theorem AZq:∀ v,AG9 v=AT Tryz.prog I9 AQW Tryz.f177 AQV AQU AQT v:=by
 rintro⟨a0,⟨⟩⟩
 kernel_rfl
theorem Ad3:AD (AW Tryz.f177) 0=[(0,AB Tryz.f177 0)]:=by kernel_rfl
theorem AVd:AU Tryz.prog 177 (AH 1 AQV AQU AQT AVe):=AN IX Tryz.func177 (by kernel_rfl) (by kernel_rfl) rfl (fun v=>(ATJ v).trans (AZq v)) (AA Ad3 ⟨AcM,trivial⟩)
def ASZ:Env:=I9.ext 177 true true (AH 1 AQV AQU AQT AVe)
theorem AEw:Af Tryz.prog ASZ:=Env.Ai IX AVd (fun _=>AQ rfl rfl) (fun _=>AO rfl rfl)
abbrev Acs:Hints:={  }
theorem AWb:∀ v,XN v=AT Tryz.prog ASZ Acs Tryz.f201 AH1 AH0 AHz v:=by
 rintro⟨a0,⟨⟩⟩
 kernel_rfl
theorem Acr:AD (AW Tryz.f201) 0=[]:=by kernel_rfl
theorem ARN:AU Tryz.prog 201 (AH 2 AH1 AH0 AHz AMr):=AN AEw Tryz.func201 (by kernel_rfl) (by kernel_rfl) rfl (fun v=>(AMq v).trans (AWb v)) (AA Acr trivial)
def RV:Env:=ASZ.ext 201 false true (AH 2 AH1 AH0 AHz AMr)
theorem K0:Af Tryz.prog RV:=Env.Ai AEw ARN ((by simp)) (fun _=>AO rfl rfl)
abbrev Js:Hints:={ loop:=fun n=>match n with|0=>Ae 0 36 ABF ABD Ee|1=>Ae 0 36 ABE ABC Ed|_=>fun _ _ _=>none }
theorem AC9:∀ v,Ed v=roundOf Tryz.prog RV Js 2 0 36 (AB Tryz.f186 1) ABE ABC v:=by
 rintro⟨a0,a1,a2,a3,⟨⟩⟩
 kernel_rfl
theorem ARx:AD (AB Tryz.f186 1) 2=[]:=by kernel_rfl
theorem ARz:Ac Tryz.prog 0 (.loop (AB Tryz.f186 1)) (Js.loop 1):=AY K0 (AC9) (AA ARx trivial)
theorem ADA:∀ v,Ee v=roundOf Tryz.prog RV Js 1 0 36 (AB Tryz.f186 0) ABF ABD v:=by
 rintro⟨a0,a1,a2,a3,a4,⟨⟩⟩
 kernel_rfl
theorem ARy:AD (AB Tryz.f186 0) 1=[]:=by kernel_rfl
theorem AR0:Ac Tryz.prog 0 (.loop (AB Tryz.f186 0)) (Js.loop 0):=AY K0 (ADA) (AA ARy trivial)
theorem ANN:∀ v,Nc v=AT Tryz.prog RV Js Tryz.f186 TW TV TU v:=by
 rintro⟨a0,⟨⟩⟩
 kernel_rfl
theorem AW2:AD (AW Tryz.f186) 0=[(0,AB Tryz.f186 0),(1,AB Tryz.f186 1)]:=by kernel_rfl
theorem AIN:AU Tryz.prog 186 (AH 1 TW TV TU Iz):=AN K0 Tryz.func186 (by kernel_rfl) (by kernel_rfl) rfl (fun v=>(ABG v).trans (ANN v)) (AA AW2 ⟨AR0,ARz,trivial⟩)
def T1:Env:=RV.ext 186 true true (AH 1 TW TV TU Iz)
theorem RZ:Af Tryz.prog T1:=Env.Ai K0 AIN (fun _=>AQ rfl rfl) (fun _=>AO rfl rfl)
theorem AUl:Tryz.f195.body.isSome=true:=by kernel_rfl
theorem AUk : (Tryz.f195.name == "runtime.NumGoroutine") = false := by kernel_rfl
theorem AUj:loops (AW Tryz.f195)=0:=by kernel_rfl
def I6:Env:=T1.ext 195 false false (C7 Tryz.prog T1 {} Tryz.f195)
theorem IU:Af Tryz.prog I6:=Env.Ai RZ (Cs RZ Tryz.func195 AUl AUk AUj) (by simp) (by simp)
end
end Go.Pev
end
section
namespace Go.Pev
open Go.Proofs
noncomputable section
abbrev H5:Hints:={ loop:=fun n=>match n with|0=>Ae 0 19 LB LA B8|_=>fun _ _ _=>none }
theorem Ox:∀ v,B8 v=roundOf Tryz.prog I6 H5 1 0 19 (AB Tryz.f174 0) LB LA v:=by
 rintro⟨a0,a1,a2,⟨⟩⟩
 kernel_rfl
theorem WX:AD (AB Tryz.f174 0) 1=[]:=by kernel_rfl
theorem WY:Ac Tryz.prog 0 (.loop (AB Tryz.f174 0)) (H5.loop 0):=AY IU (Ox) (AA WX trivial)
theorem S6:∀ v,FF v=AT Tryz.prog I6 H5 Tryz.f174 H4 H3 H0 v:=by
 rintro⟨a0,⟨⟩⟩
 kernel_rfl
theorem AAZ:AD (AW Tryz.f174) 0=[(0,AB Tryz.f174 0)]:=by kernel_rfl
theorem Qd:AU Tryz.prog 174 (AH 2 H4 H3 H0 G8):=AN IU Tryz.func174 (by kernel_rfl) (by kernel_rfl) rfl (fun v=>(LC v).trans (S6 v)) (AA AAZ ⟨WY,trivial⟩)
def IV:Env:=I6.FH 174 1 195 (AH 2 H4 H3 H0 G8)
theorem I7:Af Tryz.prog IV:=Env.Bc IU Qd (AO rfl rfl)
abbrev Wi:Hints:={  }
theorem Qv:∀ v,EM v=AT Tryz.prog IV Wi Tryz.f154 Gx Gw Gv v:=by
 rintro⟨a0,⟨⟩⟩
 kernel_rfl
theorem Wh:AD (AW Tryz.f154) 0=[]:=by kernel_rfl
theorem PB:AU Tryz.prog 154 (AH 2 Gx Gw Gv EC):=AN I7 Tryz.func154 (by kernel_rfl) (by kernel_rfl) rfl (fun v=>(Jq v).trans (Qv v)) (AA Wh trivial)
def EN:Env:=IV.FH 154 1 195 (AH 2 Gx Gw Gv EC)
theorem Eh:Af Tryz.prog EN:=Env.Bc I7 PB (AO rfl rfl)
abbrev AQG:Hints:={ loop:=fun n=>match n with|0=>Ae 0 23 ATA AS9 KH|_=>fun _ _ _=>none }
theorem AQC:∀ v,KH v=roundOf Tryz.prog EN AQG 1 0 23 (AB Tryz.f196 0) ATA AS9 v:=by
 rintro⟨a0,a1,a2,a3,a4,⟨⟩⟩
 kernel_rfl
theorem AcF:AD (AB Tryz.f196 0) 1=[]:=by kernel_rfl
theorem AcG:Ac Tryz.prog 0 (.loop (AB Tryz.f196 0)) (AQG.loop 0):=AY Eh (AQC) (AA AcF trivial)
theorem AZl:∀ v,AG3 v=AT Tryz.prog EN AQG Tryz.f196 AQF AQE AQD v:=by
 rintro⟨a0,⟨⟩⟩
 kernel_rfl
theorem Ady:AD (AW Tryz.f196) 0=[(0,AB Tryz.f196 0)]:=by kernel_rfl
theorem AVU:AU Tryz.prog 196 (AH 1 AQF AQE AQD once):=AN Eh Tryz.func196 (by kernel_rfl) (by kernel_rfl) rfl (fun v=>(ATB v).trans (AZl v)) (AA Ady ⟨AcG,trivial⟩)
def ASX:Env:=EN.ext 196 true true (AH 1 AQF AQE AQD once)
theorem AEu:Af Tryz.prog ASX:=Env.Ai Eh AVU (fun _=>AQ rfl rfl) (fun _=>AO rfl rfl)
abbrev AYN:Hints:={  }
theorem AOl:∀ v,Ph v=AT Tryz.prog ASX AYN Tryz.f176 YY YX YW v:=by
 rintro⟨a0,⟨⟩⟩
 kernel_rfl
theorem AYM:AD (AW Tryz.f176) 0=[]:=by kernel_rfl
theorem AKI:AU Tryz.prog 176 (AH 1 YY YX YW OR):=AN AEu Tryz.func176 (by kernel_rfl) (by kernel_rfl) rfl (fun v=>(ADp v).trans (AOl v)) (AA AYM trivial)
def ABp:Env:=ASX.ext 176 true true (AH 1 YY YX YW OR)
theorem Vv:Af Tryz.prog ABp:=Env.Ai AEu AKI (fun _=>AQ rfl rfl) (fun _=>AO rfl rfl)
abbrev AXZ:Hints:={ fp:=fun n=>match n with|1=>[[],[],[],[],[],[],[],[0],[]]|_=>[] }
theorem ANy:∀ v,PY v=AT Tryz.prog ABp AXZ Tryz.f200 Xe Xd Xc v:=by
 rintro⟨a0,a1,⟨⟩⟩
 kernel_rfl
theorem AXY:AD (AW Tryz.f200) 0=[]:=by kernel_rfl
theorem AJU:AU Tryz.prog 200 (AH 2 Xe Xd Xc Ri):=AN Vv Tryz.func200 (by kernel_rfl) (by kernel_rfl) rfl (fun v=>(ADN v).trans (ANy v)) (AA AXY trivial)
def Q9:Env:=ABp.ext 200 true true (AH 2 Xe Xd Xc Ri)
theorem Ml:Af Tryz.prog Q9:=Env.Ai Vv AJU (fun _=>AQ rfl rfl) (fun _=>AO rfl rfl)
abbrev Y0:Hints:={ loop:=fun n=>match n with|0=>Ae 0 29 ADz ADy Eo|_=>fun _ _ _=>none }
theorem AGN:∀ v,Eo v=roundOf Tryz.prog Q9 Y0 1 0 29 (AB Tryz.f199 0) ADz ADy v:=by
 rintro⟨a0,a1,a2,a3,a4,⟨⟩⟩
 kernel_rfl
theorem AU0:AD (AB Tryz.f199 0) 1=[]:=by kernel_rfl
theorem AU1:Ac Tryz.prog 0 (.loop (AB Tryz.f199 0)) (Y0.loop 0):=AY Ml (AGN) (AA AU0 trivial)
theorem APQ:∀ v,Pw v=AT Tryz.prog Q9 Y0 Tryz.f199 Yz Yy Yx v:=by
 rintro⟨a0,a1,⟨⟩⟩
 kernel_rfl
theorem AYk:AD (AW Tryz.f199) 0=[(0,AB Tryz.f199 0)]:=by kernel_rfl
theorem AKa:AU Tryz.prog 199 (AH 2 Yz Yy Yx AGO):=AN Ml Tryz.func199 (by kernel_rfl) (by kernel_rfl) rfl (fun v=>(AD0 v).trans (APQ v)) (AA AYk ⟨AU1,trivial⟩)
def ABt:Env:=Q9.ext 199 true true (AH 2 Yz Yy Yx AGO)
theorem Vx:Af Tryz.prog ABt:=Env.Ai Ml AKa (fun _=>AQ rfl rfl) (fun _=>AO rfl rfl)
abbrev Abm:Hints:={  }
theorem AUn:∀ v,W5 v=AT Tryz.prog ABt Abm Tryz.f185 AF5 AF4 AF3 v:=by
 rintro⟨a0,a1,⟨⟩⟩
 kernel_rfl
theorem Abl:AD (AW Tryz.f185) 0=[]:=by kernel_rfl
theorem AOv:AU Tryz.prog 185 (AH 2 AF5 AF4 AF3 ADs):=AN Vx Tryz.func185 (by kernel_rfl) (by kernel_rfl) rfl (fun v=>(AKR v).trans (AUn v)) (AA Abl trivial)
def AI4:Env:=ABt.ext 185 true true (AH 2 AF5 AF4 AF3 ADs)
theorem ABr:Af Tryz.prog AI4:=Env.Ai Vx AOv (fun _=>AQ rfl rfl) (fun _=>AO rfl rfl)
abbrev AYP:Hints:={  }
theorem AOn:∀ v,Pj v=AT Tryz.prog AI4 AYP Tryz.f202 Yb Ya YZ v:=by
 rintro⟨a0,⟨⟩⟩
 kernel_rfl
theorem AYO:AD (AW Tryz.f202) 0=[]:=by kernel_rfl
theorem AKJ:AU Tryz.prog 202 (AH 1 Yb Ya YZ Yc):=AN ABr Tryz.func202 (by kernel_rfl) (by kernel_rfl) rfl (fun v=>(ADq v).trans (AOn v)) (AA AYO trivial)
def ABq:Env:=AI4.ext 202 true true (AH 1 Yb Ya YZ Yc)
theorem Vw:Af Tryz.prog ABq:=Env.Ai ABr AKJ (fun _=>AQ rfl rfl) (fun _=>AO rfl rfl)
theorem AUK:Tryz.f180.body.isSome=true:=by kernel_rfl
theorem AUJ : (Tryz.f180.name == "runtime.NumGoroutine") = false := by kernel_rfl
theorem AUI:loops (AW Tryz.f180)=0:=by kernel_rfl
def I5:Env:=ABq.ext 180 false false (C7 Tryz.prog ABq {} Tryz.f180)
theorem IT:Af Tryz.prog I5:=Env.Ai Vw (Cs Vw Tryz.func180 AUK AUJ AUI) (by simp) (by simp)
abbrev Fz:Hints:={ loop:=fun n=>match n with|0=>Ae 1 19 Ip Io Bh|_=>fun _ _ _=>none }
theorem MH:∀ v,Bh v=roundOf Tryz.prog I5 Fz 1 1 19 (AB Tryz.f179 0) Ip Io v:=by
 rintro⟨a0,a1,a2,a3,⟨⟩⟩
 kernel_rfl
theorem QZ:AD (AB Tryz.f179 0) 1=[]:=by kernel_rfl
theorem Qa:Ac Tryz.prog 1 (.loop (AB Tryz.f179 0)) (Fz.loop 0):=AY IT (MH) (AA QZ trivial)
theorem Ov:∀ v,Du v=AT Tryz.prog I5 Fz Tryz.f179 Fy Fx Fw v:=by
 rintro⟨a0,a1,⟨⟩⟩
 kernel_rfl
theorem S4:AD (AW Tryz.f179) 0=[(0,AB Tryz.f179 0)]:=by kernel_rfl
theorem Nv:AU Tryz.prog 179 (AH 2 Fy Fx Fw FD):=AN IT Tryz.func179 (by kernel_rfl) (by kernel_rfl) rfl (fun v=>(Iq v).trans (Ov v)) (AA S4 ⟨Qa,trivial⟩)
def GJ:Env:=I5.FH 179 1 180 (AH 2 Fy Fx Fw FD)
theorem G3:Af Tryz.prog GJ:=Env.Bc IT Nv (AO rfl rfl)
abbrev AXj:Hints:={  }
theorem AN9:∀ v,Pd v=AT Tryz.prog GJ AXj Tryz.f157 Xy Xx Xw v:=by
 rintro⟨a0,a1,⟨⟩⟩
 kernel_rfl
theorem AXi:AD (AW Tryz.f157) 0=[]:=by kernel_rfl
theorem AJd:AU Tryz.prog 157 (AH 2 Xy Xx Xw OK):=AN G3 Tryz.func157 (by kernel_rfl) (by kernel_rfl) rfl (fun v=>(ADX v).trans (AN9 v)) (AA AXi trivial)
def ABj:Env:=GJ.ext 157 true true (AH 2 Xy Xx Xw OK)
theorem Vr:Af Tryz.prog ABj:=Env.Ai G3 AJd (fun _=>AQ rfl rfl) (fun _=>AO rfl rfl)
theorem AdK:Tryz.f198.body.isSome=true:=by kernel_rfl
theorem AdJ : (Tryz.f198.name == "runtime.NumGoroutine") = false := by kernel_rfl
theorem AdI:loops (AW Tryz.f198)=0:=by kernel_rfl
def Ns:Env:=ABj.ext 198 false false (C7 Tryz.prog ABj {} Tryz.f198)
theorem K6:Af Tryz.prog Ns:=Env.Ai Vr (Cs Vr Tryz.func198 AdK AdJ AdI) (by simp) (by simp)
end
end Go.Pev
end
section
namespace Go.Pev
open Go.Proofs
noncomputable section
abbrev ARS:Hints:={ loop:=fun n=>match n with|0=>Ae 0 107 ATd ATc Iu|_=>fun _ _ _=>none,fp:=fun n=>match n with|8=>[[],[],[],[],[],[],[],[],[1000003],[],[],[],[],[],[],[],[],[0],[0],[0],[],[0],[0],[0],[2,26],[],[2,26],[2,26],[],[],[],[],[]]|13=>[[],[0],[0],[0],[2],[],[],[],[0],[0],[0],[6],[],[0],[0],[0],[4],[],[],[]]|3=>[[],[],[],[],[],[],[],[],[11],[],[],[],[8,10,12],[]]|_=>[] }
theorem ARO:∀ v,Iu v=roundOf Tryz.prog Ns ARS 1 0 107 (AB Tryz.f178 0) ATd ATc v:=by
 rintro⟨a0,a1,a2,a3,a4,a5,a6,⟨⟩⟩
 kernel_rfl
theorem Acx:AD (AB Tryz.f178 0) 1=[]:=by kernel_rfl
theorem Acy:Ac Tryz.prog 0 (.loop (AB Tryz.f178 0)) (ARS.loop 0):=AY K6 (ARO) (AA Acx trivial)
theorem AaW:∀ v,AH4 v=AT Tryz.prog Ns ARS Tryz.f178 ARR ARQ ARP v:=by
 rintro⟨a0,a1,⟨⟩⟩
 kernel_rfl
theorem AeA:AD (AW Tryz.f178) 0=[(0,AB Tryz.f178 0)]:=by kernel_rfl
theorem AWk:AU Tryz.prog 178 (AH 2 ARR ARQ ARP AaY):=AN K6 Tryz.func178 (by kernel_rfl) (by kernel_rfl) rfl (fun v=>(ATe v).trans (AaW v)) (AA AeA ⟨Acy,trivial⟩)
def Tw:Env:=Ns.ext 178 true true (AH 2 ARR ARQ ARP AaY)
theorem Jz:Af Tryz.prog Tw:=Env.Ai K6 AWk (fun _=>AQ rfl rfl) (fun _=>AO rfl rfl)
abbrev Ha:Hints:={ loop:=fun n=>match n with|0=>Ae 0 87 ADV ADS Dh|1=>Ae 0 87 ADU ADR Dg|2=>Ae 0 87 ADT ADQ Ej|_=>fun _ _ _=>none,fp:=fun n=>match n with|8=>[[],[],[],[],[],[],[],[],[],[],[],[],[],[],[],[],[],[],[],[],[],[],[],[],[0],[0],[],[],[],[]]|_=>[] }
theorem AFF:∀ v,Ej v=roundOf Tryz.prog Tw Ha 3 0 87 (AB Tryz.f153 2) ADT ADQ v:=by
 rintro⟨a0,a1,a2,⟨⟩⟩
 kernel_rfl
theorem AUA:AD (AB Tryz.f153 2) 3=[]:=by kernel_rfl
theorem AUD:Ac Tryz.prog 0 (.loop (AB Tryz.f153 2)) (Ha.loop 2):=AY Jz (AFF) (AA AUA trivial)
theorem AFG:∀ v,Dg v=roundOf Tryz.prog Tw Ha 2 0 87 (AB Tryz.f153 1) ADU ADR v:=by
 rintro⟨a0,a1,a2,a3,a4,a5,a6,a7,a8,a9,a10,a11,a12,a13,a14,a15,a16,a17,a18,a19,a20,a21,a22,a23,a24,a25,⟨⟩⟩
 kernel_rfl
theorem AUB:AD (AB Tryz.f153 1) 2=[]:=by kernel_rfl
theorem AUE:Ac Tryz.prog 0 (.loop (AB Tryz.f153 1)) (Ha.loop 1):=AY Jz (AFG) (AA AUB trivial)
theorem AFH:∀ v,Dh v=roundOf Tryz.prog Tw Ha 1 0 87 (AB Tryz.f153 0) ADV ADS v:=by
 rintro⟨a0,a1,a2,a3,a4,a5,a6,⟨⟩⟩
 kernel_rfl
theorem AUC:AD (AB Tryz.f153 0) 1=[(1,AB Tryz.f153 1)]:=by kernel_rfl
theorem AUF:Ac Tryz.prog 0 (.loop (AB Tryz.f153 0)) (Ha.loop 0):=AY Jz (AFH) (AA AUC ⟨AUE,trivial⟩)
theorem AN3:∀ v,Pc v=AT Tryz.prog Tw Ha Tryz.f153 Xr Xq Xp v:=by
 rintro⟨a0,⟨⟩⟩
 kernel_rfl
theorem AXh:AD (AW Tryz.f153) 0=[(0,AB Tryz.f153 0),(2,AB Tryz.f153 2)]:=by kernel_rfl
theorem AJb:AU Tryz.prog 153 (AH 1 Xr Xq Xp OJ):=AN Jz Tryz.func153 (by kernel_rfl) (by kernel_rfl) rfl (fun v=>(ADW v).trans (AN3 v)) (AA AXh ⟨AUF,AUD,trivial⟩)
def ABi:Env:=Tw.ext 153 true true (AH 1 Xr Xq Xp OJ)
theorem Vq:Af Tryz.prog ABi:=Env.Ai Jz AJb (fun _=>AQ rfl rfl) (fun _=>AO rfl rfl)
abbrev AdG:Hints:={  }
theorem AXN:∀ v,XR v=AT Tryz.prog ABi AdG Tryz.f184 AIp AIo AIn v:=by
 rintro⟨a0,a1,a2,⟨⟩⟩
 kernel_rfl
theorem AdF:AD (AW Tryz.f184) 0=[]:=by kernel_rfl
theorem ASP:AU Tryz.prog 184 (AH 3 AIp AIo AIn asked):=AN Vq Tryz.func184 (by kernel_rfl) (by kernel_rfl) rfl (fun v=>(ANg v).trans (AXN v)) (AA AdF trivial)
def AJE:Env:=ABi.ext 184 true true (AH 3 AIp AIo AIn asked)
theorem AB9:Af Tryz.prog AJE:=Env.Ai Vq ASP (fun _=>AQ rfl rfl) (fun _=>AO rfl rfl)
abbrev Ad2:Hints:={  }
theorem AZp:∀ v,Sc v=AT Tryz.prog AJE Ad2 Tryz.f118 AQP AQO AQN v:=by
 rintro⟨a0,⟨⟩⟩
 kernel_rfl
theorem Ad1:AD (AW Tryz.f118) 0=[]:=by kernel_rfl
theorem AVZ:AU Tryz.prog 118 (AH 1 AQP AQO AQN AQQ):=AN AB9 Tryz.func118 (by kernel_rfl) (by kernel_rfl) rfl (fun v=>(XF v).trans (AZp v)) (AA Ad1 trivial)
def ASY:Env:=AJE.ext 118 true true (AH 1 AQP AQO AQN AQQ)
theorem AEv:Af Tryz.prog ASY:=Env.Ai AB9 AVZ (fun _=>AQ rfl rfl) (fun _=>AO rfl rfl)
abbrev AR2:Hints:={  }
theorem AIP:∀ v,IN v=AT Tryz.prog ASY AR2 Tryz.f74 PE PD PC v:=by
 rintro⟨a0,a1,⟨⟩⟩
 kernel_rfl
theorem AR1:AD (AW Tryz.f74) 0=[]:=by kernel_rfl
theorem ADB:AU Tryz.prog 74 (AH 2 PE PD PC FP):=AN AEv Tryz.func74 (by kernel_rfl) (by kernel_rfl) rfl (fun v=>(Mb v).trans (AIP v)) (AA AR1 trivial)
def PT:Env:=ASY.ext 74 true true (AH 2 PE PD PC FP)
theorem OE:Af Tryz.prog PT:=Env.Ai AEv ADB (fun _=>AQ rfl rfl) (fun _=>AO rfl rfl)
abbrev AbP:Hints:={ fp:=fun n=>match n with|1=>[[],[],[],[],[],[],[],[]]|_=>[] }
theorem AT6:∀ v,Wu v=AT Tryz.prog PT AbP Tryz.f204 AE6 AE5 AE4 v:=by
 rintro⟨a0,a1,⟨⟩⟩
 kernel_rfl
theorem AbO:AD (AW Tryz.f204) 0=[]:=by kernel_rfl
theorem ANt:AU Tryz.prog 204 (AH 2 AE6 AE5 AE4 BF):=AN OE Tryz.func204 (by kernel_rfl) (by kernel_rfl) rfl (fun v=>(AJH v).trans (AT6 v)) (AA AbO trivial)
def AI1:Env:=PT.ext 204 true true (AH 2 AE6 AE5 AE4 BF)
theorem ABf:Af Tryz.prog AI1:=Env.Ai OE ANt (fun _=>AQ rfl rfl) (fun _=>AO rfl rfl)
abbrev AcU:Hints:={  }
theorem AV6:∀ v,XJ v=AT Tryz.prog AI1 AcU Tryz.f134 AHZ AHY AHX v:=by
 rintro⟨a0,⟨⟩⟩
 kernel_rfl
theorem AcT:AD (AW Tryz.f134) 0=[]:=by kernel_rfl
theorem AQu:AU Tryz.prog 134 (AH 1 AHZ AHY AHX AMM):=AN ABf Tryz.func134 (by kernel_rfl) (by kernel_rfl) rfl (fun v=>(AML v).trans (AV6 v)) (AA AcT trivial)
def AJA:Env:=AI1.ext 134 true true (AH 1 AHZ AHY AHX AMM)
theorem AB1:Af Tryz.prog AJA:=Env.Ai ABf AQu (fun _=>AQ rfl rfl) (fun _=>AO rfl rfl)
abbrev AXK:Hints:={  }
theorem ANf:∀ v,Ng v=AT Tryz.prog AJA AXK Tryz.f100 Td Tc Tb v:=by
 rintro⟨a0,⟨⟩⟩
 kernel_rfl
theorem AXJ:AD (AW Tryz.f100) 0=[]:=by kernel_rfl
theorem AIk:AU Tryz.prog 100 (AH 1 Td Tc Tb bitsLen):=AN AB1 Tryz.func100 (by kernel_rfl) (by kernel_rfl) rfl (fun v=>(ABY v).trans (ANf v)) (AA AXJ trivial)
def T2:Env:=AJA.ext 100 true true (AH 1 Td Tc Tb bitsLen)
theorem Ra:Af Tryz.prog T2:=Env.Ai AB1 AIk (fun _=>AQ rfl rfl) (fun _=>AO rfl rfl)
abbrev AT5:Hints:={ fp:=fun n=>match n with|3=>[[],[0],[0],[],[0],[0],[],[],[0],[1]]|2=>[[],[0],[0],[],[0],[0],[],[],[0],[1]]|1=>[[],[0],[0],[],[0],[0],[],[],[0],[1]]|_=>[] }
theorem AJF:∀ v,Mt v=AT Tryz.prog T2 AT5 Tryz.f191 Rh Rg Rf v:=by
 rintro⟨a0,⟨⟩⟩
 kernel_rfl
theorem AT4:AD (AW Tryz.f191) 0=[]:=by kernel_rfl
theorem AE2:AU Tryz.prog 191 (AH 1 Rh Rg Rf xorNext):=AN Ra Tryz.func191 (by kernel_rfl) (by kernel_rfl) rfl (fun v=>(XY v).trans (AJF v)) (AA AT4 trivial)
def Tk:Env:=T2.ext 191 false true (AH 1 Rh Rg Rf xorNext)
theorem Q8:Af Tryz.prog Tk:=Env.Ai Ra AE2 ((by simp)) (fun _=>AO rfl rfl)
abbrev AVY:Hints:={  }
theorem AL0:∀ v,NG v=AT Tryz.prog Tk AVY Tryz.f190 Sb Sa SZ v:=by
 rintro⟨a0,⟨⟩⟩
 kernel_rfl
theorem AVX:AD (AW Tryz.f190) 0=[]:=by kernel_rfl
theorem AG7:AU Tryz.prog 190 (AH 1 Sb Sa SZ NH):=AN Q8 Tryz.func190 (by kernel_rfl) (by kernel_rfl) rfl (fun v=>(Zt v).trans (AL0 v)) (AA AVX trivial)
def Jx:Env:=Tk.ext 190 true true (AH 1 Sb Sa SZ NH)
theorem HH:Af Tryz.prog Jx:=Env.Ai Q8 AG7 (fun _=>AQ rfl rfl) (fun _=>AO rfl rfl)
abbrev AAS:Hints:={ loop:=fun n=>match n with|0=>Ae 1 53 ATS ATQ ATO|1=>Ae 1 53 ATR ATP ATN|_=>fun _ _ _=>none,fp:=fun n=>match n with|4=>[[],[],[],[],[],[],[],[0],[0],[],[],[],[0],[0],[],[],[]]|6=>[[],[],[],[],[],[],[],[],[0],[0],[],[],[0],[0],[0],[1],[0],[1]]|_=>[] }
theorem AQ5:∀ v,ATN v=roundOf Tryz.prog Jx AAS 2 1 53 (AB Tryz.f207 1) ATR ATP v:=by
 rintro⟨a0,a1,a2,a3,a4,⟨⟩⟩
 kernel_rfl
theorem AcW:AD (AB Tryz.f207 1) 2=[]:=by kernel_rfl
theorem AcY:Ac Tryz.prog 1 (.loop (AB Tryz.f207 1)) (AAS.loop 1):=AY HH (AQ5) (AA AcW trivial)
theorem AQ6:∀ v,ATO v=roundOf Tryz.prog Jx AAS 1 1 53 (AB Tryz.f207 0) ATS ATQ v:=by
 rintro⟨a0,a1,a2,a3,⟨⟩⟩
 kernel_rfl
theorem AcX:AD (AB Tryz.f207 0) 1=[(1,AB Tryz.f207 1)]:=by kernel_rfl
theorem AcZ:Ac Tryz.prog 1 (.loop (AB Tryz.f207 0)) (AAS.loop 0):=AY HH (AQ6) (AA AcX ⟨AcY,trivial⟩)
theorem AZ5:∀ v,AZ6 v=AT Tryz.prog Jx AAS Tryz.f207 AQ9 AQ8 AQ7 v:=by
 rintro⟨a0,a1,a2,⟨⟩⟩
 kernel_rfl
theorem Ad7:AD (AW Tryz.f207) 0=[(0,AB Tryz.f207 0)]:=by kernel_rfl
theorem AWC:AU Tryz.prog 207 (AH 4 AQ9 AQ8 AQ7 Ad8):=AN HH Tryz.func207 (by kernel_rfl) (by kernel_rfl) rfl (fun v=>(Aca v).trans (AZ5 v)) (AA Ad7 ⟨AcZ,trivial⟩)
def AJB:Env:=Jx.FH 207 3 204 (AH 4 AQ9 AQ8 AQ7 Ad8)
theorem Tt:Af Tryz.prog AJB:=Env.Bc HH AWC (AO rfl rfl)
abbrev AFm:Hints:={ loop:=fun n=>match n with|0=>Ae 1 82 AJ1 AJ0 AJz|_=>fun _ _ _=>none,fp:=fun n=>match n with|6=>[[],[],[],[],[],[],[],[],[],[],[],[],[0],[0],[],[],[],[],[0],[0],[0],[1],[0],[1]]|5=>[[],[],[],[],[],[0],[0],[],[],[],[],[0],[0],[],[],[]]|3=>[[],[],[],[],[],[],[],[],[],[],[0],[0],[],[],[],[],[],[0],[0],[],[],[]]|_=>[] }
theorem AJy:∀ v,AJz v=roundOf Tryz.prog AJB AFm 1 1 82 (AB Tryz.f215 0) AJ1 AJ0 v:=by
 rintro⟨a0,a1,a2,a3,⟨⟩⟩
 kernel_rfl
theorem AYA:AD (AB Tryz.f215 0) 1=[]:=by kernel_rfl
theorem AYB:Ac Tryz.prog 1 (.loop (AB Tryz.f215 0)) (AFm.loop 0):=AY Tt (AJy) (AA AYA trivial)
theorem AUZ:∀ v,ASn v=AT Tryz.prog AJB AFm Tryz.f215 AFl AFk AFj v:=by
 rintro⟨a0,a1,a2,a3,⟨⟩⟩
 kernel_rfl
theorem Abh:AD (AW Tryz.f215) 0=[(0,AB Tryz.f215 0)]:=by kernel_rfl
theorem AOZ:AU Tryz.prog 215 (AH 5 AFl AFk AFj AYD):=AN Tt Tryz.func215 (by kernel_rfl) (by kernel_rfl) rfl (fun v=>(AYC v).trans (AUZ v)) (AA Abh ⟨AYB,trivial⟩)
def RD:Env:=AJB.FH 215 4 204 (AH 5 AFl AFk AFj AYD)
theorem Ku:Af Tryz.prog RD:=Env.Bc Tt AOZ (AO rfl rfl)
end
end Go.Pev
end
section
namespace Go.Pev
open Go.Proofs
noncomputable section
abbrev Qg:Hints:={ loop:=fun n=>match n with|0=>Ae 1 60 AMb AMZ AMX|1=>Ae 1 60 AMa AMY AMV|_=>fun _ _ _=>none,fp:=fun n=>match n with|10=>[[],[],[],[],[],[],[],[],[],[],[0],[0],[],[],[0],[0],[0],[1],[0],[1]]|_=>[] }
theorem AMU:∀ v,AMV v=roundOf Tryz.prog RD Qg 2 1 60 (AB Tryz.f208 1) AMa AMY v:=by
 rintro⟨a0,a1,a2,a3,⟨⟩⟩
 kernel_rfl
theorem AaH:AD (AB Tryz.f208 1) 2=[]:=by kernel_rfl
theorem AaJ:Ac Tryz.prog 1 (.loop (AB Tryz.f208 1)) (Qg.loop 1):=AY Ku (AMU) (AA AaH trivial)
theorem AMW:∀ v,AMX v=roundOf Tryz.prog RD Qg 1 1 60 (AB Tryz.f208 0) AMb AMZ v:=by
 rintro⟨a0,a1,a2,a3,a4,⟨⟩⟩
 kernel_rfl
theorem AaI:AD (AB Tryz.f208 0) 1=[]:=by kernel_rfl
theorem AaK:Ac Tryz.prog 1 (.loop (AB Tryz.f208 0)) (Qg.loop 0):=AY Ku (AMW) (AA AaI trivial)
theorem AWP:∀ v,ATZ v=AT Tryz.prog RD Qg Tryz.f208 AHo AHn AHm v:=by
 rintro⟨a0,a1,a2,⟨⟩⟩
 kernel_rfl
theorem Acn:AD (AW Tryz.f208) 0=[(0,AB Tryz.f208 0),(1,AB Tryz.f208 1)]:=by kernel_rfl
theorem ARJ:AU Tryz.prog 208 (AH 4 AHo AHn AHm AaM):=AN Ku Tryz.func208 (by kernel_rfl) (by kernel_rfl) rfl (fun v=>(AaL v).trans (AWP v)) (AA Acn ⟨AaK,AaJ,trivial⟩)
def XV:Env:=RD.FH 208 3 204 (AH 4 AHo AHn AHm AaM)
theorem PO:Af Tryz.prog XV:=Env.Bc Ku ARJ (AO rfl rfl)
abbrev ABS:Hints:={ loop:=fun n=>match n with|0=>Ae 1 67 AEh AEg AEf|_=>fun _ _ _=>none,fp:=fun n=>match n with|10=>[[],[],[],[],[],[],[],[],[],[],[0],[0],[],[],[0],[0],[0],[1],[0],[1]]|_=>[] }
theorem AIh:∀ v,AEf v=roundOf Tryz.prog XV ABS 1 1 67 (AB Tryz.f209 0) AEh AEg v:=by
 rintro⟨a0,a1,a2,a3,a4,a5,⟨⟩⟩
 kernel_rfl
theorem AXD:AD (AB Tryz.f209 0) 1=[]:=by kernel_rfl
theorem AXE:Ac Tryz.prog 1 (.loop (AB Tryz.f209 0)) (ABS.loop 0):=AY PO (AIh) (AA AXD trivial)
theorem ASC:∀ v,ANb v=AT Tryz.prog XV ABS Tryz.f209 ABR ABQ ABP v:=by
 rintro⟨a0,a1,a2,⟨⟩⟩
 kernel_rfl
theorem Aa6:AD (AW Tryz.f209) 0=[(0,AB Tryz.f209 0)]:=by kernel_rfl
theorem ANa:AU Tryz.prog 209 (AH 4 ABR ABQ ABP ASD):=AN PO Tryz.func209 (by kernel_rfl) (by kernel_rfl) rfl (fun v=>(AXF v).trans (ASC v)) (AA Aa6 ⟨AXE,trivial⟩)
def AB7:Env:=XV.FH 209 3 204 (AH 4 ABR ABQ ABP ASD)
theorem WG:Af Tryz.prog AB7:=Env.Bc PO ANa (AO rfl rfl)
abbrev AVP:Hints:={ fp:=fun n=>match n with|1=>[[],[],[],[0],[0],[],[],[0],[0],[],[]]|_=>[] }
theorem ALu:∀ v,AD7 v=AT Tryz.prog AB7 AVP Tryz.f218 SV SU SS v:=by
 rintro⟨a0,a1,a2,a3,⟨⟩⟩
 kernel_rfl
theorem AVO:AD (AW Tryz.f218) 0=[]:=by kernel_rfl
theorem AGx:AU Tryz.prog 218 (AH 5 SV SU SS AGy):=AN WG Tryz.func218 (by kernel_rfl) (by kernel_rfl) rfl (fun v=>(AQA v).trans (ALu v)) (AA AVO trivial)
def Tm:Env:=AB7.FH 218 4 204 (AH 5 SV SU SS AGy)
theorem RJ:Af Tryz.prog Tm:=Env.Bc WG AGx (AO rfl rfl)
abbrev AVg:Hints:={  }
theorem AL4:∀ v,AD8 v=AT Tryz.prog Tm AVg Tryz.f217 Sg Sf Se v:=by
 rintro⟨a0,a1,a2,a3,a4,⟨⟩⟩
 kernel_rfl
theorem AVf:AD (AW Tryz.f217) 0=[]:=by kernel_rfl
theorem AHC:AU Tryz.prog 217 (AH 6 Sg Sf Se AHD):=AN RJ Tryz.func217 (by kernel_rfl) (by kernel_rfl) rfl (fun v=>(AQa v).trans (AL4 v)) (AA AVf trivial)
def To:Env:=Tm.FH 217 5 204 (AH 6 Sg Sf Se AHD)
theorem RL:Af Tryz.prog To:=Env.Bc RJ AHC (AO rfl rfl)
abbrev AVk:Hints:={  }
theorem AL6:∀ v,AD9 v=AT Tryz.prog To AVk Tryz.f216 Sm Sl Sk v:=by
 rintro⟨a0,a1,a2,⟨⟩⟩
 kernel_rfl
theorem AVj:AD (AW Tryz.f216) 0=[]:=by kernel_rfl
theorem AHF:AU Tryz.prog 216 (AH 4 Sm Sl Sk AHG):=AN RL Tryz.func216 (by kernel_rfl) (by kernel_rfl) rfl (fun v=>(AQc v).trans (AL6 v)) (AA AVj trivial)
def Tq:Env:=To.FH 216 3 204 (AH 4 Sm Sl Sk AHG)
theorem RN:Af Tryz.prog Tq:=Env.Bc RL AHF (AO rfl rfl)
abbrev AYm:Hints:={  }
theorem APV:∀ v,AKc v=AT Tryz.prog Tq AYm Tryz.f210 Y3 Y2 Y1 v:=by
 rintro⟨a0,a1,a2,⟨⟩⟩
 kernel_rfl
theorem AYl:AD (AW Tryz.f210) 0=[]:=by kernel_rfl
theorem AKb:AU Tryz.prog 210 (AH 4 Y3 Y2 Y1 APW):=AN RN Tryz.func210 (by kernel_rfl) (by kernel_rfl) rfl (fun v=>(AU2 v).trans (APV v)) (AA AYl trivial)
def RH:Env:=Tq.FH 210 3 204 (AH 4 Y3 Y2 Y1 APW)
theorem Mn:Af Tryz.prog RH:=Env.Bc RN AKb (AO rfl rfl)
abbrev AO0:Hints:={ loop:=fun n=>match n with|0=>Ae 1 34 ASr ASq ASp|_=>fun _ _ _=>none,fp:=fun n=>match n with|3=>[[],[],[],[],[],[],[0],[0],[],[],[0],[0],[0],[1],[0],[1]]|_=>[] }
theorem AOw:∀ v,ASp v=roundOf Tryz.prog RH AO0 1 1 34 (AB Tryz.f211 0) ASr ASq v:=by
 rintro⟨a0,a1,a2,⟨⟩⟩
 kernel_rfl
theorem Abn:AD (AB Tryz.f211 0) 1=[]:=by kernel_rfl
theorem Abo:Ac Tryz.prog 1 (.loop (AB Tryz.f211 0)) (AO0.loop 0):=AY Mn (AOw) (AA Abn trivial)
theorem AYR:∀ v,AYS v=AT Tryz.prog RH AO0 Tryz.f211 AOz AOy AOx v:=by
 rintro⟨a0,a1,a2,⟨⟩⟩
 kernel_rfl
theorem Adc:AD (AW Tryz.f211) 0=[(0,AB Tryz.f211 0)]:=by kernel_rfl
theorem AUo:AU Tryz.prog 211 (AH 4 AOz AOy AOx Ade):=AN Mn Tryz.func211 (by kernel_rfl) (by kernel_rfl) rfl (fun v=>(Abp v).trans (AYR v)) (AA Adc ⟨Abo,trivial⟩)
def PK:Env:=RH.FH 211 3 204 (AH 4 AOz AOy AOx Ade)
theorem HV:Af Tryz.prog PK:=Env.Bc Mn AUo (AO rfl rfl)
abbrev Cx:Hints:={ loop:=fun n=>match n with|0=>Ae 1 141 UW UR UN|1=>Ae 1 141 UU UQ UM|2=>Ae 1 141 UT UP UL|3=>Ae 1 141 US UO UK|_=>fun _ _ _=>none,fp:=fun n=>match n with|11=>[[],[],[],[],[],[],[],[],[0],[0],[],[],[0],[0],[0],[1],[0],[1]]|5=>[[],[],[],[],[],[],[],[0],[0],[],[],[],[0],[0],[],[],[],[]]|17=>[[],[],[],[],[],[],[],[],[0],[0],[],[],[0],[0],[0],[1],[0],[1]]|16=>[[],[],[],[0],[0],[],[],[],[0],[0],[],[],[]]|23=>[[],[],[],[],[],[],[],[],[0],[0],[],[],[0],[0],[0],[1],[0],[1]]|22=>[[],[],[],[0],[0],[],[],[],[0],[0],[],[],[]]|_=>[] }
theorem ZM:∀ v,UK v=roundOf Tryz.prog PK Cx 4 1 141 (AB Tryz.f212 3) US UO v:=by
 rintro⟨a0,a1,a2,a3,a4,a5,⟨⟩⟩
 kernel_rfl
theorem AK9:AD (AB Tryz.f212 3) 4=[]:=by kernel_rfl
theorem ALD:Ac Tryz.prog 1 (.loop (AB Tryz.f212 3)) (Cx.loop 3):=AY HV (ZM) (AA AK9 trivial)
theorem ZN:∀ v,UL v=roundOf Tryz.prog PK Cx 3 1 141 (AB Tryz.f212 2) UT UP v:=by
 rintro⟨a0,a1,a2,a3,a4,a5,⟨⟩⟩
 kernel_rfl
theorem ALA:AD (AB Tryz.f212 2) 3=[]:=by kernel_rfl
theorem ALE:Ac Tryz.prog 1 (.loop (AB Tryz.f212 2)) (Cx.loop 2):=AY HV (ZN) (AA ALA trivial)
theorem ZO:∀ v,UM v=roundOf Tryz.prog PK Cx 2 1 141 (AB Tryz.f212 1) UU UQ v:=by
 rintro⟨a0,a1,a2,a3,a4,⟨⟩⟩
 kernel_rfl
theorem ALB:AD (AB Tryz.f212 1) 2=[]:=by kernel_rfl
theorem ALF:Ac Tryz.prog 1 (.loop (AB Tryz.f212 1)) (Cx.loop 1):=AY HV (ZO) (AA ALB trivial)
theorem ZP:∀ v,UN v=roundOf Tryz.prog PK Cx 1 1 141 (AB Tryz.f212 0) UW UR v:=by
 rintro⟨a0,a1,a2,a3,a4,⟨⟩⟩
 kernel_rfl
theorem ALC:AD (AB Tryz.f212 0) 1=[(1,AB Tryz.f212 1),(2,AB Tryz.f212 2),(3,AB Tryz.f212 3)]:=by kernel_rfl
theorem ALG:Ac Tryz.prog 1 (.loop (AB Tryz.f212 0)) (Cx.loop 0):=AY HV (ZP) (AA ALC ⟨ALF,ALE,ALD,trivial⟩)
theorem AGl:∀ v,ZQ v=AT Tryz.prog PK Cx Tryz.f212 OX OW OV v:=by
 rintro⟨a0,a1,a2,⟨⟩⟩
 kernel_rfl
theorem APr:AD (AW Tryz.f212) 0=[(0,AB Tryz.f212 0)]:=by kernel_rfl
theorem ACY:AU Tryz.prog 212 (AH 4 OX OW OV ZR):=AN HV Tryz.func212 (by kernel_rfl) (by kernel_rfl) rfl (fun v=>(ALH v).trans (AGl v)) (AA APr ⟨ALG,trivial⟩)
def GG:Env:=PK.FH 212 3 204 (AH 4 OX OW OV ZR)
theorem EF:Af Tryz.prog GG:=Env.Bc HV ACY (AO rfl rfl)
abbrev Fk:Hints:={ loop:=fun n=>match n with|0=>Ae 1 90 Ze Zb ZY|1=>Ae 1 90 Zd Za ZX|2=>Ae 1 90 Zc ZZ ZW|_=>fun _ _ _=>none,fp:=fun n=>match n with|8=>[[],[],[],[],[],[],[0],[0],[],[],[0],[0],[0],[1],[0],[1]]|3=>[[],[],[],[],[],[],[],[0],[0],[],[],[0],[0],[],[],[],[]]|5=>[[],[],[],[],[],[],[],[0],[0],[],[],[0],[0],[],[],[]]|1=>[[],[],[],[],[],[],[0],[0],[],[],[0],[0],[0],[1],[0],[1]]|_=>[] }
theorem ACg:∀ v,ZW v=roundOf Tryz.prog GG Fk 3 1 90 (AB Tryz.f213 2) Zc ZZ v:=by
 rintro⟨a0,a1,a2,a3,⟨⟩⟩
 kernel_rfl
theorem APw:AD (AB Tryz.f213 2) 3=[]:=by kernel_rfl
theorem APz:Ac Tryz.prog 1 (.loop (AB Tryz.f213 2)) (Fk.loop 2):=AY EF (ACg) (AA APw trivial)
theorem ACh:∀ v,ZX v=roundOf Tryz.prog GG Fk 2 1 90 (AB Tryz.f213 1) Zd Za v:=by
 rintro⟨a0,a1,a2,a3,⟨⟩⟩
 kernel_rfl
theorem APx:AD (AB Tryz.f213 1) 2=[]:=by kernel_rfl
theorem AP0:Ac Tryz.prog 1 (.loop (AB Tryz.f213 1)) (Fk.loop 1):=AY EF (ACh) (AA APx trivial)
theorem ACi:∀ v,ZY v=roundOf Tryz.prog GG Fk 1 1 90 (AB Tryz.f213 0) Ze Zb v:=by
 rintro⟨a0,a1,a2,a3,⟨⟩⟩
 kernel_rfl
theorem APy:AD (AB Tryz.f213 0) 1=[(1,AB Tryz.f213 1),(2,AB Tryz.f213 2)]:=by kernel_rfl
theorem AP1:Ac Tryz.prog 1 (.loop (AB Tryz.f213 0)) (Fk.loop 0):=AY EF (ACi) (AA APy ⟨AP0,APz,trivial⟩)
theorem ALp:∀ v,AD4 v=AT Tryz.prog GG Fk Tryz.f213 SN SM SK v:=by
 rintro⟨a0,a1,a2,a3,⟨⟩⟩
 kernel_rfl
theorem AVL:AD (AW Tryz.f213) 0=[(0,AB Tryz.f213 0)]:=by kernel_rfl
theorem AGs:AU Tryz.prog 213 (AH 5 SN SM SK AGt):=AN EF Tryz.func213 (by kernel_rfl) (by kernel_rfl) rfl (fun v=>(AP2 v).trans (ALp v)) (AA AVL ⟨AP1,trivial⟩)
def Ex:Env:=GG.FH 213 4 204 (AH 5 SN SM SK AGt)
theorem C4:Af Tryz.prog Ex:=Env.Bc EF AGs (AO rfl rfl)
abbrev E5:Hints:={ loop:=fun n=>match n with|0=>Ae 1 178 AK8 AK3 AKy|1=>Ae 1 178 AK7 AK2 AKw|2=>Ae 1 178 AK6 AK1 AKu|3=>Ae 1 178 AK5 AK0 AKs|4=>Ae 1 178 AK4 AKz AKq|_=>fun _ _ _=>none,fp:=fun n=>match n with|3=>[[],[],[],[],[],[],[],[0],[0],[],[],[0],[0],[],[],[]]|5=>[[],[],[],[],[],[],[],[0],[0],[],[],[0],[0],[],[],[],[]]|18=>[[],[],[],[],[],[],[0],[0],[],[],[0],[0],[0],[1],[0],[1]]|13=>[[],[],[],[],[],[],[],[0],[0],[],[],[0],[0],[],[],[]]|15=>[[],[],[],[],[],[],[],[0],[0],[],[],[0],[0],[],[],[],[]]|21=>[[],[],[],[],[],[],[0],[0],[],[],[0],[0],[0],[1],[0],[1]]|10=>[[],[],[],[],[],[],[0],[0],[],[],[0],[0],[0],[1],[0],[1]]|8=>[[],[],[],[],[],[],[0],[0],[],[],[0],[0],[0],[1],[0],[1]]|1=>[[],[],[],[],[],[],[0],[0],[],[],[0],[0],[0],[1],[0],[1]]|_=>[] }
theorem AKp:∀ v,AKq v=roundOf Tryz.prog Ex E5 5 1 178 (AB Tryz.f214 4) AK4 AKz v:=by
 rintro⟨a0,a1,a2,a3,⟨⟩⟩
 kernel_rfl
theorem AZD:AD (AB Tryz.f214 4) 5=[]:=by kernel_rfl
theorem AZI:Ac Tryz.prog 1 (.loop (AB Tryz.f214 4)) (E5.loop 4):=AY C4 (AKp) (AA AZD trivial)
theorem AKr:∀ v,AKs v=roundOf Tryz.prog Ex E5 4 1 178 (AB Tryz.f214 3) AK5 AK0 v:=by
 rintro⟨a0,a1,a2,a3,⟨⟩⟩
 kernel_rfl
theorem AZE:AD (AB Tryz.f214 3) 4=[]:=by kernel_rfl
theorem AZJ:Ac Tryz.prog 1 (.loop (AB Tryz.f214 3)) (E5.loop 3):=AY C4 (AKr) (AA AZE trivial)
theorem AKt:∀ v,AKu v=roundOf Tryz.prog Ex E5 3 1 178 (AB Tryz.f214 2) AK6 AK1 v:=by
 rintro⟨a0,a1,a2,a3,⟨⟩⟩
 kernel_rfl
theorem AZF:AD (AB Tryz.f214 2) 3=[(3,AB Tryz.f214 3),(4,AB Tryz.f214 4)]:=by kernel_rfl
theorem AZK:Ac Tryz.prog 1 (.loop (AB Tryz.f214 2)) (E5.loop 2):=AY C4 (AKt) (AA AZF ⟨AZJ,AZI,trivial⟩)
theorem AKv:∀ v,AKw v=roundOf Tryz.prog Ex E5 2 1 178 (AB Tryz.f214 1) AK7 AK2 v:=by
 rintro⟨a0,a1,a2,a3,⟨⟩⟩
 kernel_rfl
theorem AZG:AD (AB Tryz.f214 1) 2=[]:=by kernel_rfl
theorem AZL:Ac Tryz.prog 1 (.loop (AB Tryz.f214 1)) (E5.loop 1):=AY C4 (AKv) (AA AZG trivial)
theorem AKx:∀ v,AKy v=roundOf Tryz.prog Ex E5 1 1 178 (AB Tryz.f214 0) AK8 AK3 v:=by
 rintro⟨a0,a1,a2,a3,⟨⟩⟩
 kernel_rfl
theorem AZH:AD (AB Tryz.f214 0) 1=[]:=by kernel_rfl
theorem AZM:Ac Tryz.prog 1 (.loop (AB Tryz.f214 0)) (E5.loop 0):=AY C4 (AKx) (AA AZH trivial)
theorem AVH:∀ v,AS6 v=AT Tryz.prog Ex E5 Tryz.f214 AGk AGj AGi v:=by
 rintro⟨a0,a1,a2,a3,⟨⟩⟩
 kernel_rfl
theorem AcB:AD (AW Tryz.f214) 0=[(0,AB Tryz.f214 0),(1,AB Tryz.f214 1),(2,AB Tryz.f214 2)]:=by kernel_rfl
theorem APq:AU Tryz.prog 214 (AH 5 AGk AGj AGi AZO):=AN C4 Tryz.func214 (by kernel_rfl) (by kernel_rfl) rfl (fun v=>(AZN v).trans (AVH v)) (AA AcB ⟨AZM,AZL,AZK,trivial⟩)
def AI8:Env:=Ex.FH 214 4 204 (AH 5 AGk AGj AGi AZO)
theorem ABx:Af Tryz.prog AI8:=Env.Bc C4 APq (AO rfl rfl)
abbrev APj(self:(List (List Int)×Int×Int×Int×Unit)→Option ((List (List Int)×Unit))):Hints:={ loop:=fun n=>match n with|0=>Ae 1 148 AS1 AS0 (ASz self)|_=>fun _ _ _=>none,fp:=fun n=>match n with|17=>[[],[],[],[],[],[],[],[0],[0],[],[],[0],[0],[],[],[],[]]|_=>[] }
abbrev AGa(self:(List (List Int)×Int×Int×Int×Unit)→Option ((List (List Int)×Unit))):Env:=AI8.ext 206 false true (AH 5 ZG ZF ZE self)
theorem APi(self:(List (List Int)×Int×Int×Int×Unit)→Option ((List (List Int)×Unit))):∀ v,ASz self v=roundOf Tryz.prog (AGa self) (APj self) 1 1 148 (AB Tryz.f206 0) AS1 AS0 v:=by
 rintro⟨a0,a1,a2,a3,a4,a5,⟨⟩⟩
 kernel_rfl
theorem Ab1:AD (AB Tryz.f206 0) 1=[]:=by kernel_rfl
theorem Ab2(self:(List (List Int)×Int×Int×Int×Unit)→Option ((List (List Int)×Unit)))(hE:Af Tryz.prog (AGa self)):Ac Tryz.prog 1 (.loop (AB Tryz.f206 0)) ((APj self).loop 0):=AY hE (APi self) (AA Ab1 trivial)
theorem AYx(self:(List (List Int)×Int×Int×Int×Unit)→Option ((List (List Int)×Unit))):∀ v,Adk self v=AT Tryz.prog (AGa self) (APj self) Tryz.f206 ZG ZF ZE v:=by
 rintro⟨a0,a1,a2,a3,⟨⟩⟩
 kernel_rfl
theorem Adj:AD (AW Tryz.f206) 0=[(0,AB Tryz.f206 0)]:=by kernel_rfl
theorem APk:∀ n,AU Tryz.prog 206 (AH 5 ZG ZF ZE (ZH n)):=by
 intro n
 induction n with
 |zero=>exact VK fun _=>rfl
 |succ n ih=>
  have hE:Af Tryz.prog (AGa (ZH n)):=Env.Ai ABx ih ((by simp)) (fun _=>AO rfl rfl)
  let self:=ZH n
  exact AN hE Tryz.func206 (by kernel_rfl) (by kernel_rfl) rfl (AYx self) (AA Adj ⟨(Ab2 self hE),trivial⟩)
theorem AU8:AU Tryz.prog 206 (AH 5 ZG ZF ZE Ab4):=by
 have e:Ab4=ZH 100:=funext Ab3
 rw[e]
 exact APk _
def ASV:Env:=AI8.FH 206 4 204 (AH 5 ZG ZF ZE Ab4)
theorem AEs:Af Tryz.prog ASV:=Env.Bc ABx AU8 (AO rfl rfl)
abbrev Abe:Hints:={  }
theorem AUV:∀ v,ASm v=AT Tryz.prog ASV Abe Tryz.f203 AFf AFe AFd v:=by
 rintro⟨a0,⟨⟩⟩
 kernel_rfl
theorem Abd:AD (AW Tryz.f203) 0=[]:=by kernel_rfl
theorem AOX:AU Tryz.prog 203 (AH 2 AFf AFe AFd AJu):=AN AEs Tryz.func203 (by kernel_rfl) (by kernel_rfl) rfl (fun v=>(AX7 v).trans (AUV v)) (AA Abd trivial)
def RC:Env:=ASV.FH 203 1 204 (AH 2 AFf AFe AFd AJu)
theorem Kt:Af Tryz.prog RC:=Env.Bc AEs AOX (AO rfl rfl)
end
end Go.Pev
end
