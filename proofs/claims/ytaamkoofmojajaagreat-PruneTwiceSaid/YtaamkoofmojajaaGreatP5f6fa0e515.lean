/- A part of the proofs of this seat: KF KG KH U24a U24b U24c U24d U23a U23b U23c U23d U23e T24b U24f U24g U24h U24i U24j U24k U24l U24m U24n PlnD U21a U21b SIa SIb SIc SId SIe SIf U23f U23g PlnE U23h U23i U21c U21d U21e U23j U23k G24iP1 G24iP2 G24iP3 G24iP4. -/
import Derived.Test.YtaamkoofmojajaaGreatP8b121840a5
import Derived.KernelRfl
import Derived.Test.YtaamkoofmojajaaGreatProg
set_option linter.unusedVariables false
set_option linter.unusedSimpArgs false
set_option linter.unusedSectionVars false
set_option maxRecDepth 100000
section
section
namespace Go.Pev.Pl
theorem ATY{N:Nat}{ts:List Tie}(hN:N≤64){i:Nat}(h:LW N ts i):In (N:Int) (ed (ts.getD i zT)).1∧In (N:Int) (ed (ts.getD i zT)).2.1:=by
 obtain⟨q1,q2,q3,_⟩:=h
 exact⟨⟨by omega,by omega,q1,by show(ts.getD i zT).1<_;omega⟩,⟨by omega,by omega,by show 0≤(ts.getD i zT).2.1;omega,q3⟩⟩
theorem AOG{N:Nat}{ts:List Tie}(hN:N≤64)(h:oks N ts):∀ e∈trs ts ts.length,In (N:Int) e.1∧In (N:Int) e.2.1:=by
 intro e he
 obtain⟨i,hi,rfl⟩:=Abl ts e _ he
 exact ATY hN (h i (by simp[hi]))
theorem AeY{N:Nat}{ts:List Tie}(hN:N≤64)(h:oks N ts):∀ e∈ts.map ed,In (N:Int) e.1∧In (N:Int) e.2.1:=by
 intro e he
 obtain⟨t,ht,rfl⟩:=AfQ.1 he
 obtain⟨i,hi,rfl⟩:=Af7 ht
 have:=ATY hN (h i (by simp[hi]))
 simpa [hi]using this
theorem AQu{N:Nat}(ts:List Tie)(hs:ts.length≤400)(h:oks N ts):Ow (((N:Int),(ts,())),(0:Int),())=some (trs ts ts.length,()):=by
 rw[S6,MG]
 have e:=Cj (step:=Cm) (fun i (a:List Edge)=>((0:Int),a,ts,AM ts,(i:Int),())) (List.range ts.length) (fun i a=>.inl (if(ts.getD i zT).2.2.2.1=true then a++[ed (ts.getD i zT)]else a)) (fun a=>.inl (a,())) (fun i a=>a.length≤i) (by simp;omega)
  (fun i x a hi hx ha=>by
   refine⟨fun m' h' => ?_,fun r h'=>(by cases h')⟩
   cases h'
   have:=Cb hx
   subst this
   rw[Afb]at hi
   have hlv:=(h x (by simp[hi])).2.2.2.1
   constructor
   ·rw[Cm,AK,AI,Ae3 hi]
    simp only[CV zT hi,AK]
    have hfit:fits ((a.length:Int)+(([((ts.getD x zT).1,(ts.getD x zT).2.1,())]:List Edge).length:Int))=true:=BE (by simp;omega)
    rw[AG (by omega),Ap,Ae3 hlv]
    cases ht4:(ts.getD x zT).2.2.2.1
    ·simp
    ·simp only[hfit]
     simp[ed,A5]
   ·split
    ·rw[AfC];simp;omega
    ·omega)
  (fun a _=>by rw[Cm,Afb,AK,AI,Ae2 (by omega)]) [] (AfH _)
 have e':AR Cm many ((0:Int),[],ts,AM ts,(0:Int),())=_:=e
 simp only[e']
 rw[BJ (fun i a=>if(ts.getD i zT).2.2.2.1=true then a++[ed (ts.getD i zT)]else a)]
 rfl
def cnt(out:List Int)(N:Nat):Nat:=((List.range N).filter fun k=>decide (out.getD k 0=(k:Int))).length
theorem AKX{N:Nat}{rings:List (List Int)}{l:List Edge}{out:List Int}(h:FC (N:Int) rings l)(hc:LY (N:Int) l out):rings.length=cnt out N:=by
 have hsz:=h.fr.sz
 have hp:(rings.map hd).Perm (((List.range N).filter fun k=>decide (out.getD k 0=(k:Int))).map fun(k:Nat)=>(k:Int)):=by
  rw[AhH]
  ·intro a
   simp only[AfQ,Afe,Af3,Ae6]
   constructor
   ·rintro⟨A,hA,rfl⟩
    have gA:=h.fr.rg A hA
    have ih:In (N:Int) (hd A):=Nq gA
    have hh:=TO gA.2.1
    have:=AMu h hc hA ih hh
    obtain⟨_,_,a1,a2⟩:=ih
    refine⟨(hd A).toNat,⟨by omega,?_⟩,by omega⟩
    rw[show out.getD (hd A).toNat 0=cl out (hd A)from rfl,← this]
    omega
   ·rintro⟨k,⟨hk,ho⟩,rfl⟩
    have ik:In (N:Int) (k:Int):=⟨hsz.1,hsz.2,by omega,by omega⟩
    obtain⟨A,hA,hm⟩:=h.fr.cov _ ik
    refine⟨A,hA,?_⟩
    rw[AMu h hc hA ik hm]
    unfold cl
    rw[Afy];exact ho
  ·exact(AgY.2 h.fr.up).imp (fun h=>by omega)
  ·refine List.Pairwise.map _ (S:=fun a b=>a≠b) (R:=fun a b=>a≠b) (fun a b h h'=>h (by omega)) ?_
   exact(AiA).filter _
 have:=hp.length_eq
 rw[Afd,Afd]at this
 exact this
theorem N6(N:Nat)(hN:N≤64)(p:List Tie)(q:List Edge)(out:List Int)(ho:out.length=N):AR DW many ((N:Int),p,q,out,(0:Int),(0:Int),())=some (.inl ((N:Int),p,q,(cnt out N:Int),())):=by
 have e:=Cj (step:=DW) (fun i (a:Nat)=>((N:Int),p,q,out,(a:Int),(i:Int),())) (List.range N) (fun k a=>.inl (if out.getD k 0=(k:Int)then a+1 else a)) (fun a=>.inl ((N:Int),p,q,(a:Int),())) (fun i a=>a≤i) (by simp;omega)
  (fun i x a hi hx ha=>by
   refine⟨fun m' h' => ?_,fun r h'=>(by cases h')⟩
   cases h'
   have:=Cb hx
   subst this
   rw[Afb]at hi
   constructor
   ·rw[DW,AI,Ae3 hi]
    simp only[CV 0 (show x<out.length by omega),Ee,Ak]
    rw[AG (by omega),AG (by omega)]
    by_cases h:out.getD x 0=(x:Int)
    ·rw[Ae3 h,AfJ h]
    ·rw[Ae2 h,AfE h]
   ·split<;>omega)
  (fun a _=>by rw[DW,Afb,AI,Ae2 (by omega)]) 0 (AfH _)
 have e':AR DW many ((N:Int),p,q,out,(0:Int),(0:Int),())=_:=e
 rw[e',BJ (fun k a=>if out.getD k 0=(k:Int)then a+1 else a)]
 have key:∀ (xs:List Nat) (a:Nat),xs.foldl (fun a k=>if out.getD k 0=(k:Int)then a+1 else a) a=a+(xs.filter fun k=>decide (out.getD k 0=(k:Int))).length:=by
  intro xs
  induction xs with
  |nil=>intro a;rfl
  |cons x xs ih=>
   intro a
   rw[Af0,ih,AgA]
   by_cases h:out.getD x 0=(x:Int)
   ·simp only[h,AfY,AfG,AfD];omega
   ·simp only[h,AfK,AfL,AfI]
 rw[key,AgF]
 rfl
theorem ABl(n:Int)(ts:List Tie)(hl:ts.length<4611686018427387904):∃ b:Bool,Ch ((n,(ts,())),())=some (b,())∧Fv ((n,(ts,())),())=some (b,())∧(b=true→∃ N:Nat,n=(N:Int)∧1≤N∧N≤64∧ts.length≤400∧oks N ts):=by
 by_cases hn:¬ (1≤n∧n≤64)
 ·refine⟨false,?_,?_,fun h=>by cases h⟩
  ·rw[Fj,Er,Am,Am]
   by_cases h:n<1
   ·simp only[Ae3 h]
   ·simp only[Ae2 h,Ae3 (show 64<n by omega)]
  ·rw[Jf,H0]
   simp only[S7,MJ,Ap]
   by_cases h:1≤n
   ·simp only[Ae3 h,Ae2 (show ¬ n≤64 by omega),AfX]
   ·simp only[Ae2 h,AfX]
 have hn:=AhK.1 hn
 obtain⟨N,rfl⟩:=AfF (show 0≤n by omega)
 have hsz:S8 ((N:Int),())=some (true,()):=by
  simp only[S7,MJ,Ap,Ae3 hn.1,Ae3 hn.2]
 by_cases h4:¬ ts.length≤400
 ·refine⟨false,?_,?_,fun h=>by cases h⟩
  ·rw[Fj,Er]
   simp only[Am,AK]
   rw[Ae2 (show ¬ (N:Int)<1 by omega),Ae2 (show ¬ 64<(N:Int) by omega),Ae3 (show 400<(ts.length:Int) by omega)]
  ·rw[Jf,H0]
   simp only[hsz,AfB,Am,AK]
   rw[Ae3 (show 400<(ts.length:Int) by omega)]
 have h4:=AhK.1 h4
 have R:=Px N (by omega) ts h4
 have L:=AMM N (by omega) ts h4
 by_cases ho:¬ oks N ts
 ·rw[AfE ho]at R L
  refine⟨false,?_,?_,fun h=>by cases h⟩
  ·rw[Fj,Er]
   simp only[Am,AK]
   rw[Ae2 (show ¬ (N:Int)<1 by omega),Ae2 (show ¬ 64<(N:Int) by omega),Ae2 (show ¬ 400<(ts.length:Int) by omega)]
   simp only[R]
  ·rw[Jf,H0]
   simp only[hsz,AfB,Am,AK,AAJ N (by omega)]
   rw[Ae2 (show ¬ 400<(ts.length:Int) by omega)]
   rw[AK]at L
   simp only[L]
 have ho:=AhK.1 ho
 rw[AfJ ho]at R L
 have hin:=AOG (show N≤64 by omega) ho
 have hlen:=AFL ts ts.length
 obtain⟨out,hc,hcl⟩:=DG (N:Int) (trs ts ts.length) hn (by omega) hin
 rcases(AT0 (N:Int) (trs ts ts.length) hn (by omega)).symm with⟨hno,_⟩|⟨_,rings,hf,hfc⟩
 ·exact absurd hin hno
 have hcount:=AKX hfc hcl
 have hol:out.length=N:=by have:=hcl.len;omega
 refine⟨decide ((cnt out N:Int)=(N:Int)-(trs ts ts.length).length),?_,?_,fun _=>⟨N,rfl,by omega,by omega,h4,ho⟩⟩
 ·rw[Fj,Er]
  simp only[Am,AK]
  rw[Ae2 (show ¬ (N:Int)<1 by omega),Ae2 (show ¬ 64<(N:Int) by omega),Ae2 (show ¬ 400<(ts.length:Int) by omega)]
  simp only[R,hc,N6 N (by omega) _ _ out hol,Ak]
  rw[Aj (by omega)]
 ·rw[Jf,H0]
  simp only[hsz,AfB,Am,AK,AAJ N (by omega)]
  rw[Ae2 (show ¬ 400<(ts.length:Int) by omega)]
  rw[AK]at L
  simp only[L,AQu ts h4 ho,hf,CM,Ak,hcount]
  rw[Aj (by omega)]
end Go.Pev.Pl
end
section
namespace Go.Pev.Pl
theorem LY.unique{N:Nat}{l:List Edge}{a b:List Int}(h1:1≤N)(h2:N≤64)(ha:LY (N:Int) l a)(hb:LY (N:Int) l b):a=b:=by
 have la:=ha.len
 have lb:=hb.len
 refine FN (0:Int) (by omega) fun k hk => ?_
 have ik:In (N:Int) (k:Int):=⟨by omega,by omega,by omega,by omega⟩
 have e1:=ha.least _ _ ik (hb.isin _ ik) (hb.con _ ik)
 have e2:=hb.least _ _ ik (ha.isin _ ik) (ha.con _ ik)
 unfold cl at e1 e2
 rw[Afy]at e1 e2
 omega
theorem AEj(xs:List Tie)(a:List Edge):xs.foldl (fun a x=>a++[ed x]) a=a++xs.map ed:=AW7 ed xs a
theorem ARA(n:Int)(ts:List Tie)(hs:ts.length≤400)(h:Fv ((n,(ts,())),())=some (true,())):AAb ((n,(ts,())),())=some (ts.map ed,()):=by
 rw[AEU,QV]
 simp only[h,AfB]
 have e:=Cj (step:=Fx) (fun i (a:List Edge)=>(a,ts,AM ts,(i:Int),())) ts (fun x a=>.inl (a++[ed x])) (fun a=>.inl (a,())) (fun i a=>a.length≤i) (by omega)
  (fun i x a hi hx ha=>by
   refine⟨fun m' h' => ?_,fun r h'=>(by cases h')⟩
   cases h'
   constructor
   ·rw[Fx]
    simp only[AK]
    rw[AI,Ae3 hi]
    simp only[Ac hx]
    rw[BE (by simp;omega),AG (by omega)]
    rfl
   ·rw[AfC];simp;omega)
  (fun a _=>by rw[Fx,AK,AI,Ae2 (by omega)]) [] (AfH _)
 have e':AR Fx many ([],ts,AM ts,(0:Int),())=_:=e
 simp only[e']
 rw[BJ (fun x a=>a++[ed x]),AEj]
 rfl
theorem I2(n:Int)(ts:List Tie)(hs:ts.length≤400)(h:Ch ((n,(ts,())),())=some (true,())):I3 ((n,(ts,())),())=some (ts.map ed,()):=by
 rw[ABB,Nf]
 simp only[h,AfB]
 have e:=Cj (step:=Ed) (fun i (a:List Edge)=>(n,ts,a,(i:Int),())) ts (fun x a=>.inl (a++[ed x])) (fun a=>.inl (a,())) (fun i a=>a.length≤i) (by omega)
  (fun i x a hi hx ha=>by
   refine⟨fun m' h' => ?_,fun r h'=>(by cases h')⟩
   cases h'
   constructor
   ·rw[Ed]
    simp only[AK]
    rw[AI,Ae3 hi]
    simp only[Ac hx]
    rw[BE (by simp;omega),AG (by omega)]
    rfl
   ·rw[AfC];simp;omega)
  (fun a _=>by rw[Ed,AK,AI,Ae2 (by omega)]) [] (AfH _)
 have e':AR Ed many (n,ts,[],(0:Int),())=_:=e
 simp only[e']
 rw[BJ (fun x a=>a++[ed x]),AEj]
 rfl
def InV(N:Nat)(x:Int):Prop:=0≤x∧x<(N:Int)
instance (N:Nat)(x:Int):Decidable (InV N x):=inferInstanceAs (Decidable (_∧_))
theorem AbN{N:Nat}{out:List Int}(ho:out.length=N){u:Int}(h:InV N u):idx out u=some (cl out u):=by
 obtain⟨U,rfl⟩:=AfF h.1
 have:=h.2
 rw[CV 0 (by omega)]
 unfold cl;rw[Afy]
end Go.Pev.Pl
end
section
namespace Go.Pev.Pl
end Go.Pev.Pl
end
section
namespace Go.Pev.Pl
theorem TP(l:List Edge)(u v:Int)(hs:l.length<1073741824):Vw (l,(u,(v,())),())=some (decide (((u,(v,())):Edge)∈l),()):=by
 rw[AMy,Xd]
 have e:=Fg (step:=IF) (fun i=>(l,u,v,(i:Int),())) l (fun x=>decide (x=(u,v,()))) (fun _=>.inl (true,())) (.inr (.inl ())) (by omega)
  (fun i x hi hx=>by
   rw[IF,AK,AI,Ae3 hi]
   simp only[Ac hx,Ak]
   rw[AG (by omega)]
   obtain⟨a,b,⟨⟩⟩:=x
   by_cases h1:a=u
   ·by_cases h2:b=v
    ·simp[h1,h2]
    ·simp[h1,h2]
   ·simp[h1])
  (by rw[IF,AK,AI,Ae2 (by omega)])
 have e':AR IF many (l,u,v,(0:Int),())=_:=e
 simp only[e']
 have hany:(l.any fun x=>decide (x=(u,v,())))=decide (((u,(v,())):Edge)∈l):=by
  rw[Af9]
  simp
 rw[hany]
 generalize decide (((u,(v,())):Edge)∈l)=b
 cases b<;>rfl
def Wt(l:List Edge)(u v:Int):Prop:=((u,(v,())):Edge)∈l∨((v,(u,())):Edge)∈l
instance (l:List Edge)(u v:Int):Decidable (Wt l u v):=inferInstanceAs (Decidable (_∨_))
def Wg(N:Nat)(l:List Edge)(u:Nat):List Edge:=((List.range (N-(u+1))).filter fun i=>decide (Wt l (u:Int) ((u+1+i:Nat):Int))).map fun(i:Nat)=>((u:Int),((u+1+i:Nat):Int),())
def Cl(N:Nat)(l:List Edge):List Edge:=(List.range N).flatMap fun u=>Wg N l u
theorem HH{α β:Type}(P:β→Prop)[DecidablePred P](g:β→α):∀ (xs:List β) (a:List α),xs.foldl (fun a x=>if P x then a++[g x]else a) a=a++(xs.filter fun x=>decide (P x)).map g:=by
 intro xs
 induction xs with
 |nil=>intro a;simp
 |cons x xs ih=>
  intro a
  rw[Af0,ih,AgA]
  by_cases h:P x
  ·simp[h]
  ·simp[h]
theorem AKg(N:Nat)(hN:N≤64)(l:List Edge)(hs:l.length<1073741824)(u:Nat)(hu:u<N)(a:List Edge)(ha:a.length≤64*u):
  AR DX many ((N:Int),l,a,(u:Int),((u+1:Nat):Int),())=some (.inl ((N:Int),l,a++Wg N l u,(u:Int),())):=by
 have e:=Cj (step:=DX) (fun i (a:List Edge)=>((N:Int),l,a,(u:Int),((u+1+i:Nat):Int),())) (List.range (N-(u+1))) (fun i a=>.inl (if Wt l (u:Int) ((u+1+i:Nat):Int)then a++[((u:Int),((u+1+i:Nat):Int),())]else a)) (fun a=>.inl ((N:Int),l,a,(u:Int),())) (fun i a=>a.length≤64*u+i) (by simp;omega)
  (fun i x a hi hx ha=>by
   refine⟨fun m' h' => ?_,fun r h'=>(by cases h')⟩
   cases h'
   have:=Cb hx
   subst this
   rw[Afb]at hi
   constructor
   ·rw[DX,AI,Ae3 (show u+1+x<N by omega)]
    simp only[TP l _ _ hs,AK]
    have hfit:fits ((a.length:Int)+(([((u:Int),((u+1+x:Nat):Int),())]:List Edge).length:Int))=true:=BE (by simp;omega)
    rw[hfit,AG (by omega)]
    by_cases q1:(((u:Int),(((u+1+x:Nat):Int),())):Edge)∈l
    ·rw[Ae3 q1,AfJ (show Wt l (u:Int) ((u+1+x:Nat):Int)from .inl q1)]
     rfl
    ·rw[Ae2 q1]
     by_cases q2:(((((u+1+x:Nat):Int),((u:Int),()))):Edge)∈l
     ·rw[Ae3 q2,AfJ (show Wt l (u:Int) ((u+1+x:Nat):Int)from .inr q2)]
      rfl
     ·rw[Ae2 q2,AfE (show ¬ Wt l (u:Int) ((u+1+x:Nat):Int)from fun h=>by rcases h with h|h;exact q1 h;exact q2 h)]
      rfl
   ·split
    ·rw[AfC];simp;omega
    ·omega)
  (fun a _=>by rw[DX,Afb,AI,Ae2 (by omega)]) a (by omega)
 have e':AR DX many ((N:Int),l,a,(u:Int),((u+1:Nat):Int),())=_:=e
 rw[e',BJ (fun i a=>if Wt l (u:Int) ((u+1+i:Nat):Int)then a++[((u:Int),((u+1+i:Nat):Int),())]else a),HH (fun i:Nat=>Wt l (u:Int) ((u+1+i:Nat):Int)) (fun i:Nat=>((u:Int),((u+1+i:Nat):Int),()))]
 rfl
theorem AKV(N:Nat)(hN:N≤64)(l:List Edge)(u:Nat):(Wg N l u).length≤64:=by
 unfold Wg
 rw[Afd]
 have:=Agg (fun i=>decide (Wt l (u:Int) ((u+1+i:Nat):Int))) (List.range (N-(u+1)))
 rw[Afb]at this
 omega
theorem UY(N:Nat)(hN:N≤64)(l:List Edge)(hs:l.length<1073741824):M9 ((N:Int),l,())=some (Cl N l,()):=by
 rw[ZE,M8]
 have e:=Cj (step:=EZ) (fun i (a:List Edge)=>((N:Int),l,a,(i:Int),())) (List.range N) (fun u a=>.inl (a++Wg N l u)) (fun a=>.inl (a,())) (fun i a=>a.length≤64*i) (by simp;omega)
  (fun i x a hi hx ha=>by
   refine⟨fun m' h' => ?_,fun r h'=>(by cases h')⟩
   cases h'
   have:=Cb hx
   subst this
   rw[Afb]at hi
   have hrow:=AKV N hN l x
   constructor
   ·rw[EZ,AI,Ae3 hi,AG (by omega)]
    simp only[AKg N hN l hs x hi a ha]
    rw[AG (by omega)]
   ·rw[AfC];omega)
  (fun a _=>by rw[EZ,Afb,AI,Ae2 (by omega)]) [] (AfH _)
 have e':AR EZ many ((N:Int),l,[],(0:Int),())=_:=e
 simp only[e']
 rw[BJ (fun u a=>a++Wg N l u)]
 have key:∀ (xs:List Nat) (a:List Edge),xs.foldl (fun a u=>a++Wg N l u) a=a++xs.flatMap fun u=>Wg N l u:=by
  intro xs
  induction xs with
  |nil=>intro a;simp
  |cons x xs ih=>intro a;rw[Af0,ih];simp
 rw[key]
 rfl
end Go.Pev.Pl
end
section
namespace Go.Pev.Pl
theorem Oe(N:Nat)(hN:N≤64)(l:List Edge):(Cl N l).length≤4096:=by
 have key:∀ M,((List.range M).flatMap fun u=>Wg N l u).length≤64*M:=by
  intro M
  induction M with
  |zero=>simp
  |succ M ih=>
   rw[AgP,AhS,AfC]
   have:=AKV N hN l M
   simp only[AgW,List.flatMap_nil,AgL]
   omega
 have:=key N
 unfold Cl
 omega
def Jy(N:Nat)(ts:List Tie)(l:List Edge):List Edge:=(Cl N l).filter fun x => !decide (x∈ts.map ed)
def Yy(l:List Tie)(t:Tie):List Tie:=l.take (l.findIdx fun x => !decide (ahead x t))++t::l.drop (l.findIdx fun x => !decide (ahead x t))
end Go.Pev.Pl
end
section
namespace Go.Pev.Pl
def valid(N:Nat)(t:Tie):Prop:=0≤t.1∧t.1<t.2.1∧t.2.1<(N:Int)∧0≤t.2.2.1∧t.2.2.1≤Hi N
theorem ahead.trans{a b c:Tie}(h:ahead a b)(h':ahead b c):ahead a c:=by
 unfold ahead at *
 omega
theorem KR(N:Nat)(ts:List Tie):oks N ts↔(∀ t∈ts,valid N t)∧ts.Pairwise ahead:=by
 constructor
 ·intro h
  have hv:∀ i,i<ts.length→LW N ts i:=fun i hi=>h i (by simpa using hi)
  refine⟨fun t ht => ?_,?_⟩
  ·obtain⟨i,hi,rfl⟩:=Af7 ht
   obtain⟨q1,q2,q3,q4,q5,_⟩:=hv i hi
   simp only[Ae5,Ae8 hi,Afh]at q1 q2 q3 q4 q5
   exact⟨q1,q2,q3,q4,q5⟩
  ·have key:∀ (d i:Nat),i+d+1<ts.length→ahead (ts.getD i zT) (ts.getD (i+d+1) zT):=by
    intro d
    induction d with
    |zero=>
     intro i hi
     obtain⟨_,_,_,_,_,q⟩:=hv (i+0+1) hi
     rcases q with q|q
     ·omega
     ·simpa using q
    |succ d ih=>
     intro i hi
     have h1:=ih i (by omega)
     obtain⟨_,_,_,_,_,q⟩:=hv (i+(d+1)+1) hi
     rcases q with q|q
     ·omega
     ·rw[show i+(d+1)+1-1=i+d+1 by omega]at q
      exact h1.trans q
   rw[Af4]
   intro i j hi hj hij
   have:=key (j-i-1) i (by omega)
   rw[show i+(j-i-1)+1=j by omega]at this
   simpa only[Ae5,Ae8 hi,Ae8 hj,Afh]using this
 ·rintro⟨h1,h2⟩ i hi
  have hi:i<ts.length:=by simpa using hi
  have e:∀ j (hj:j<ts.length),ts.getD j zT=ts[j]:=fun j hj=>by
   simp only[Ae5,Ae8 hj,Afh]
  obtain⟨q1,q2,q3,q4,q5⟩:=h1 ts[i] (AgC hi)
  unfold LW
  rw[e i hi]
  refine⟨q1,q2,q3,q4,q5,?_⟩
  by_cases h0:i=0
  ·exact .inl h0
  ·right
   rw[e (i-1) (by omega)]
   exact(Af4.1 h2) (i-1) i (by omega) hi (by omega)
theorem AD5(l:List Tie)(t:Tie):(Yy l t).Perm (t::l):=by
 unfold Yy
 refine List.perm_middle.trans ?_
 rw[Afv]
theorem AVD{l:List Tie}{t:Tie}(h:l.Pairwise ahead)(hn:∀ x∈l,¬ (x.1=t.1∧x.2.1=t.2.1)):(Yy l t).Pairwise ahead:=by
 induction l with
 |nil=>simp[Yy]
 |cons a l ih=>
  rw[Aft]at h
  have hna:=hn a (by simp)
  have hnl:∀ x∈l,¬ (x.1=t.1∧x.2.1=t.2.1):=fun x hx=>hn x (by simp[hx])
  by_cases ha:ahead a t
  ·have e:Yy (a::l) t=a::Yy l t:=by
    unfold Yy
    rw[Aha]
    simp[ha]
   rw[e,Aft]
   refine⟨fun x hx => ?_,ih h.2 hnl⟩
   rcases AfA.1 ((AD5 l t).mem_iff.1 hx)with rfl|hx
   ·exact ha
   ·exact h.1 x hx
  ·have e:Yy (a::l) t=t::a::l:=by
    unfold Yy
    rw[Aha]
    simp[ha]
   have hta:ahead t a:=by unfold ahead at *;omega
   rw[e,Aft,Aft]
   refine⟨fun x hx => ?_,h.1,h.2⟩
   rcases AfA.1 hx with rfl|hx
   ·exact hta
   ·exact hta.trans (h.1 x hx)
end Go.Pev.Pl
end
section
namespace Go.Pev.Pl
theorem Ou(N:Nat)(l:List Edge)(x:Edge):x∈Cl N l↔0≤x.1∧x.1<x.2.1∧x.2.1<(N:Int)∧Wt l x.1 x.2.1:=by
 unfold Cl Wg
 simp only[Ah9,AfQ,Afe,Af3,Ae6]
 constructor
 ·rintro⟨u,hu,i,⟨hi,he⟩,rfl⟩
  exact⟨by show(0:Int)≤(u:Int);omega,by show(u:Int)<((u+1+i:Nat):Int);omega,by show((u+1+i:Nat):Int)<(N:Int);omega,he⟩
 ·obtain⟨a,b,⟨⟩⟩:=x
  rintro⟨h1,h2,h3,h4⟩
  simp only at h1 h2 h3 h4
  obtain⟨u,rfl⟩:=AfF h1
  obtain⟨v,rfl⟩:=AfF (show 0≤b by omega)
  refine⟨u,by omega,v-(u+1),⟨by omega,?_⟩,?_⟩
  ·rw[show u+1+(v-(u+1))=v by omega];exact h4
  ·rw[show u+1+(v-(u+1))=v by omega]
def C4(p x:Edge):Prop:=p.1<x.1∨(p.1=x.1∧p.2.1<x.2.1)
theorem UX(N:Nat)(l:List Edge):(Cl N l).Pairwise C4:=by
 unfold Cl
 rw[List.pairwise_flatMap]
 refine⟨fun u _ => ?_,?_⟩
 ·unfold Wg
  rw[AgY]
  refine AhM _ ?_
  refine List.pairwise_lt_range.imp fun h => ?_
  exact .inr ⟨rfl,by show((u+1+_:Nat):Int)<((u+1+_:Nat):Int);omega⟩
 ·refine List.pairwise_lt_range.imp fun h x hx y hy => ?_
  unfold Wg at hx hy
  simp only[AfQ]at hx hy
  obtain⟨i,_,rfl⟩:=hx
  obtain⟨j,_,rfl⟩:=hy
  exact .inl (by simp only;omega)
theorem Sr(N:Nat)(ts:List Tie)(l:List Edge)(x:Edge):x∈Jy N ts l↔(0≤x.1∧x.1<x.2.1∧x.2.1<(N:Int)∧Wt l x.1 x.2.1)∧¬ x∈ts.map ed:=by
 unfold Jy
 rw[Afe,Ou]
 simp
theorem ASN(N:Nat)(ts:List Tie)(l:List Edge):(Jy N ts l).Pairwise C4:=(UX N l).filter _
end Go.Pev.Pl
end
section
namespace Go.Pev.Pl
open Tok
instance (n v:Int):Decidable (In n v):=inferInstanceAs (Decidable (_∧_))
instance (n:Int):Decidable (Sz n):=inferInstanceAs (Decidable (_∧_))
theorem Jj(n v:Int):AMc (n,v,())=some (decide (In n v),()):=by
 rw[Ac6,ARW]
 simp only[Ap,Am]
 by_cases h1:1≤n<;>by_cases h2:n≤64<;>by_cases h3:0≤v<;>simp[In,h1,h2,h3]
theorem AEx(n u v:Int):ANu (n,u,v,())=some (D8 n u v,()):=by
 rw[AbW,AI2]
 simp only[Jj,D8,Ak]
 by_cases h1:In n u
 ·by_cases h2:In n v
  ·by_cases h3:u=v
   ·simp[h1,h2,h3]
   ·obtain⟨a1,a2,a3,a4⟩:=h1
    obtain⟨b1,b2,b3,b4⟩:=h2
    have hb:=Ft a1 a2 a3 (by omega)
    have e1:u*n=n*u:=Int.mul_comm _ _
    have e2:n*(u+1)=n*u+n:=by rw[Ah0,Ah1]
    rw[e1,Aj (n:=n*u) (by omega),Aj (n:=n+n*u) (by omega),Aj (n:=n+n*u+v) (by omega),e2]
    have e3:n+n*u+v=n*u+n+v:=by omega
    simp[In,a1,a2,a3,a4,b3,b4,h3,e3]
  ·simp[h1,h2]
 ·simp[h1]
theorem UO(n t:Int)(ht:-9223372036854775808≤t∧t≤9223372036854775807):XD (n,t,())=some (Nz (B8 n t)):=by
 rw[AOP,R2]
 simp only[Jj,Am,Ap]
 by_cases hi:In n t
 ·simp only[hi,AfG,B8,AfY,Nz]
 ·simp only[hi,AfL]
  by_cases h1:n<1
  ·have hs:¬ Sz n:=fun h=>by have:=h.1;omega
   simp only[h1,AfG,B8,hi,AfK,hs,Agd,Nz]
  ·simp only[h1,AfL]
   by_cases h2:64<n
   ·have hs:¬ Sz n:=fun h=>by have:=h.2;omega
    simp only[h2,AfG,B8,hi,AfK,hs,Agd,Nz]
   ·have a1:1≤n:=by omega
    have a2:n≤64:=by omega
    have hb:=Ft (u:=n) a1 a2 (by omega) (by omega)
    have e3:n*(n+1)=n*n+n:=by rw[Ah0,Ah1]
    rw[Aj (n:=n*n) (by omega),Aj (n:=n+n*n) (by omega)]
    simp only[h2,AfL]
    by_cases h3:t<n
    ·have:¬ n≤t:=by omega
     simp only[h3,AfG,B8,hi,AfK,this,Agd,and_false,Nz]
    ·simp only[h3,AfL]
     by_cases h4:n+n*n≤t
     ·have:¬ t<n*(n+1):=by omega
      simp only[h4,AfG,B8,hi,AfK,this,Agd,and_false,Nz]
     ·obtain⟨d1,d2,d3⟩:=AIU (t:=t) ⟨a1,a2⟩ (by omega) (by omega)
      have q1:=d1.2.2.1
      have q2:=d1.2.2.2
      rw[Aj (n:=t-n) (by omega)]
      have hq:(t-n).tdiv n=t/n-1:=by
       rw[Ag3 (by omega)]
       have:=Int.add_mul_ediv_right t (-1) (show n≠0 by omega)
       rw[show t-n=t + -1*n by omega,this];omega
      have hm:(t-n).tmod n=t % n:=by
       rw[Int.tmod_eq_emod_of_nonneg (by omega)]
       have:=Int.add_mul_emod_self_right t (-1) n
       rw[show t-n=t + -1*n by omega,this]
      simp only[h4,AfL,SM,P2,AGI,Wi]
      rw[AfE (by omega),AfE (by omega),hq,hm,Aj (n:=t/n-1) (by omega)]
      simp only[]
      rw[Ak,B8,AfE hi]
      by_cases h5:t/n-1=t % n
      ·rw[AfE (by intro h;exact h.2.2.2 h5),Ae3 h5];rfl
      ·rw[AfJ ⟨⟨a1,a2⟩,by omega,by omega,h5⟩,Ae2 h5];rfl
theorem AMO(xs ys:List (List Int))(hs:xs.length<9223372036854775808)(hi:∀ x∈xs,x.length<9223372036854775808):AHV (xs,ys,())=some (decide (xs=ys),()):=by
 rw[AQ3,TA,Qi]
 by_cases hl:xs.length=ys.length
 ·rw[Ae3 hl]
  simp only[AfB]
  rcases YV (step:=Fw) (fun i=>(xs,ys,((i:Nat):Int),())) xs.length (fun i => !decide (xs.getD i []=ys.getD i [])) (fun _=>.inl (false,())) (.inr (.inl ())) hs (fun i hii=>by
   have hm:(xs.getD i []).length<9223372036854775808:=hi _ (by simp[hii])
   rw[Fw,AK,AI,Ae3 hii]
   simp (disch:=first|omega|exact hm) only[CV ([]:List Int),AG,ARI]
   by_cases h:xs.getD i []=ys.getD i []
   ·rw[Ae3 h];simp
   ·rw[Ae2 h];simp) (by rw[Fw,AK,AI,Ae2 (by omega)])with⟨k,hk,hP,_,e⟩|⟨h,e⟩
  ·have e':AR Fw many (xs,ys,(0:Int),())=_:=e
   rw[e']
   have:xs≠ys:=Vq ([]:List Int) (j:=k) (by simpa using hP)
   simp[this]
  ·have e':AR Fw many (xs,ys,(0:Int),())=_:=e
   rw[e']
   have:xs=ys:=FN ([]:List Int) hl fun j hj=>by simpa using h j hj
   simp[this]
 ·rw[Ae2 hl]
  have:xs≠ys:=fun e=>hl (by rw[e])
  simp[this]
theorem AMH(N:Nat)(hN:N≤64)(c:Int):∀ (k i n:Nat),i+k=N→k<n→AP Je n ((N:Int),c,(N:Int),BK i,(i:Int),())=some (.inl (c,(N:Int),BK N,())):=by
 intro k
 induction k with
 |zero=>
  intro i n hi hn
  obtain⟨n,rfl⟩:∃ k,n=k+1:=⟨n-1,by omega⟩
  have:i=N:=by omega
  subst this
  rw[AP,Je,AI,Ae2 (by omega)]
 |succ k ih=>
  intro i n hi hn
  obtain⟨n,rfl⟩:∃ k,n=k+1:=⟨n-1,by omega⟩
  rw[AP,Je,AI,Ae3 (by omega)]
  simp only[AK,UT,AfD,AfO]
  rw[BE (by omega),AG (by omega)]
  simp only[Cp,← Ps]
  exact ih (i+1) n (by omega) (by omega)
theorem AQt(n:Int):AHQ (n,())=some (HB n):=by
 have hm:4294967296<many:=by simp only[many];omega
 rw[AV7,AAE,HB]
 simp only[Am]
 by_cases h1:n<1
 ·have:¬ Sz n:=fun h=>by have:=h.1;omega
  simp[h1,this]
 ·by_cases h2:64<n
  ·have:¬ Sz n:=fun h=>by have:=h.2;omega
   simp[h1,h2,this]
  ·obtain⟨N,rfl⟩:=AfF (show 0≤n by omega)
   have hS:Sz (N:Int):=⟨by omega,by omega⟩
   have e:=AMH N (by omega) 0 N 0 many (by omega) (by omega)
   have e':AP Je many ((N:Int),0,(N:Int),[],(0:Int),())=_:=e
   simp[h1,h2,hS,Aa,e']
end Go.Pev.Pl
end
section
namespace Go.Pev.Pl
theorem Lq(xs:List Int)(t:Int)(hs:xs.length<9223372036854775808):NB (xs,t,())=some (pos xs t,()):=by
 rw[APj,SV]
 have e:=Fg (step:=Ht) (fun i=>(xs,t,(i:Int),())) xs (fun x=>decide (x=t)) (fun i=>.inl ((i:Int),())) (.inr (.inl ())) hs
  (fun i x hi hx=>by
   rw[Ht,AK,AI,Ae3 hi]
   simp only[Ac hx,Ak]
   by_cases h:x=t
   ·simp[h]
   ·simp only[h,AfL];rw[AG (by omega)];simp)
  (by rw[Ht,AK,AI,Ae2 (by omega)])
 have e':AR Ht many (xs,t,(0:Int),())=_:=e
 rw[e',AI3,pos]
 by_cases h:t∈xs<;>simp[h]
instance (xs:List Int):Decidable (Rt xs):=inferInstanceAs (Decidable (_∧_∧_))
theorem Ln(xs:List Int):Py (xs,())=some (decide (Rt xs),()):=by
 rw[AO6,SK,AK,Am]
 by_cases hl:xs.length≤1000
 ·rw[Ae2 (by omega)]
  simp only[]
  rcases YV (step:=Fk) (fun i=>(xs,((i:Nat):Int),())) xs.length (fun i=>decide (xs.getD i 0<0)||decide (10000<xs.getD i 0)||decide (xs.getD i 0∈xs.take i)) (fun _=>.inl (false,())) (.inr (.inl ())) (by omega) (fun i hi=>by
   rw[Fk,AK,AI,Ae3 hi]
   have hpl:NB (xs.take i,xs.getD i 0,())=some (pos (xs.take i) (xs.getD i 0),()):=Lq _ _ (by simp;omega)
   simp (disch:=omega) only[CV (0:Int),KA,hpl,AG,Am,Ap]
   by_cases h1:xs.getD i 0<0
   ·simp only[h1,AfG];simp
   ·by_cases h2:10000<xs.getD i 0
    ·simp only[h1,h2,AfG,AfL];simp
    ·by_cases h3:xs.getD i 0∈xs.take i
     ·obtain⟨k,e,_⟩:=AGR h3
      rw[e]
      simp only[h1,h2,h3,AfG,AfL];simp
     ·rw[P8 h3]
      simp only[h1,h2,h3,AfL];simp) (by rw[Fk,AK,AI,Ae2 (by omega)])with⟨k,hk,hP,_,e⟩|⟨h,e⟩
  ·have e':AR Fk many (xs,(0:Int),())=_:=e
   rw[e']
   have:¬ Rt xs:=by
    rintro⟨_,h1,h2⟩
    have hm:xs.getD k 0∈xs:=by
     rw[Ae5,Ae8 hk,Afh];exact AgC hk
    have:=h1 _ hm
    have h3:=(QP xs).1 h2 k hk
    have c1:¬ xs.getD k 0<0:=by omega
    have c2:¬ 10000<xs.getD k 0:=by omega
    rw[Ae2 c1,Ae2 c2,Ae2 h3]at hP
    cases hP
   simp[this]
  ·have e':AR Fk many (xs,(0:Int),())=_:=e
   rw[e']
   have:Rt xs:=by
    have key:∀ j,j<xs.length→¬ xs.getD j 0<0∧¬ 10000<xs.getD j 0∧xs.getD j 0∉xs.take j:=fun j hj=>by
     have:=h j hj
     rw[AhL,AhL,Afs,Afs,Afs]at this
     exact⟨this.1.1,this.1.2,this.2⟩
    refine⟨hl,fun x hx => ?_,(QP xs).2 fun j hj=>(key j hj).2.2⟩
    obtain⟨j,hj,rfl⟩:=Af7 hx
    obtain⟨k1,k2,_⟩:=key j hj
    rw[Ae5,Ae8 hj,Afh]at k1 k2
    omega
   simp[this]
 ·rw[Ae3 (by omega)]
  have:¬ Rt xs:=fun h=>hl h.1
  simp[this]
theorem PD(xs:List Int)(t:Int)(hs:xs.length<9223372036854775808):AA0 (xs,t,())=some (Iz xs t):=by
 rw[AW6,AAz,Iz]
 simp only[Lq xs t hs,Ln]
 by_cases hr:Rt xs
 ·have hl:=hr.1
  simp only[hr,AfG,AfB,Agp]
  by_cases h:t∈xs
  ·have hk:xs.findIdx (fun x=>decide (x=t))<xs.length:=AgT.2 ⟨t,h,by simp⟩
   rw[pos,AfJ h,AfJ h,A6,rot]
   generalize xs.findIdx (fun x=>decide (x=t))=k at *
   rw[Am,Ae2 (by omega)]
   simp only[D9 (AhC hk),KA (AhC hk)]
   rw[BE (by simp only[AK,AfO,Afg];omega)]
   simp only[]
   rw[BE (by simp only[AK,Cp,Afj,AfN,Afg];omega)]
   simp only[Cp,Afj]
  ·rw[P8 h,AfE h,Am]
   simp
 ·simp[hr]
theorem UZ(xs:List Int):XP (xs,())=some (plain xs,()):=by
 rw[APe,SS,plain]
 simp only[Ln]
 by_cases hr:Rt xs
 ·have hl:=hr.1
  simp only[hr,AfG,AfB,Agp]
  cases xs with
  |nil=>simp[AK,D6]
  |cons x xs=>
   rw[AK,Ak,Ae2 (by simp only[AfD];omega)]
   have i0:idx (x::xs) (0:Int)=some x:=by rw[FG];rfl
   simp only[i0]
   have e:=Cj (step:=Hr) (fun i (a:Int)=>(x::xs,a,(i:Int),())) (x::xs) (fun y a=>.inl (Bx a y)) (fun a=>.inl (x::xs,a,())) (fun _ _=>True) (by omega)
    (fun i y a hi hy _=>by
     refine⟨fun m' h' => ?_,fun r h'=>by cases h'⟩
     cases h'
     rw[Hr,AK,AI,Ae3 hi]
     simp only[Ac hy]
     rw[AG (by omega)]
     exact⟨rfl,trivial⟩)
    (fun a _=>by rw[Hr,AK,AI,Ae2 (by omega)]) x trivial
   have e':AR Hr many (x::xs,x,(0:Int),())=_:=e
   rw[e',BJ]
   have hmin:(x::xs).foldl (fun a y=>Bx a y) x=Gk (x::xs):=by
    rw[Af0,Gk]
    have:Bx x x=x:=by rw[Bx];split<;>rfl
    rw[this]
   rw[hmin]
   have hm:=(Ex (xs:=x::xs) (by simp)).1
   simp only[PD (x::xs) _ (by omega),Iz,hr,hm,Ahi,AfY]
   simp
 ·simp[hr]
end Go.Pev.Pl
end
section
namespace Go.Pev.Pl
open Tok
noncomputable instance (n:Int) (xs:List Int):Decidable (TI n xs):=Classical.propDecidable _
end Go.Pev.Pl
end
section
namespace Go.Pev.Pl
open Tok
theorem AFl(n t u:Int)(ht:-9223372036854775808≤t∧t≤9223372036854775807):YJ (n,t,u,())=some (KB n t u,()):=by
 rw[AJ0,OV,KB]
 simp only[UO n t ht,Ak]
 cases B8 n t with
 |none=>rfl
 |some x=>cases x with
  |ver v=>
   by_cases h:v=u<;>simp[Nz,st,h]
  |arc p q=>
   by_cases h:q=u<;>simp[Nz,st,h]
end Go.Pev.Pl
end
section
namespace Go.Pev.Pl
open Tok
theorem Abm(n:Int)(l:List Int)(i:Nat)(hi:i<l.length)(hl:l.length<1073741824)(d5 d6 d7 d8:Bool)(d9 d10:Int)(d11:Bool)(d12 d13 d14 d15 d16:Int)(d17:Bool)(d18 d19 d20 d21 d22 d23 d24 d25 d26:Int)(d27:Bool):
  ∀ (m k cnt:Nat) (acc:List Int),k+m=l.length→acc.length≤k→m<cnt →
  AP JR cnt (n,l,(i:Int),acc,(k:Int),d5,d6,d7,d8,d9,d10,d11,d12,d13,d14,d15,d16,d17,d18,d19,d20,d21,d22,d23,d24,d25,d26,d27,()) =
   some (.inl (n,(i:Int),acc++(List.range' k m).map (fun k=>l.getD ((i+k) % l.length) 0),d5,d6,d7,d8,d9,d10,d11,d12,d13,d14,d15,d16,d17,d18,l,d19,d20,d21,d22,d23,d24,d25,d26,d27,())):=by
 intro m
 induction m with
 |zero=>
  intro k cnt acc hk ha hc
  obtain⟨cnt,rfl⟩:∃ c,cnt=c+1:=⟨cnt-1,by omega⟩
  rw[AP,JR,AK,AI,Ae2 (by omega)]
  simp
 |succ m ih=>
  intro k cnt acc hk ha hc
  obtain⟨cnt,rfl⟩:∃ c,cnt=c+1:=⟨cnt-1,by omega⟩
  have hm:(i+k) % l.length<l.length:=Nat.mod_lt _ (by omega)
  rw[AP,JR,AK,AI,Ae3 (by omega)]
  simp only[]
  rw[wrap_add (by omega),XO (by omega)]
  simp only[CV (0:Int) hm,Ee]
  rw[BE (by simp only[AK,AfD,AfO];omega),AG (by omega)]
  simp only[Cp]
  rw[ih (k+1) cnt _ (by omega) (by simp;omega) (by omega)]
  simp[Ah8]
theorem AOK(n:Int)(l:List Int)(i:Nat)(hi:i<l.length)(h1:1<l.length)(hl:l.length<1073741824)(hr:∀ x∈l, -9223372036854775808≤x∧x≤9223372036854775807):
  Dk (n,l,false,(i:Int),())=if KZ n l i then some (.inl (n,Fl l i,true,((i+1:Nat):Int),()))else some (.inl (n,l,false,((i+1:Nat):Int),())):=by
 have hmany:4294967296<many:=by simp only[many];omega
 have m1:(i+1) % l.length<l.length:=Nat.mod_lt _ (by omega)
 have m2:(i+2) % l.length<l.length:=Nat.mod_lt _ (by omega)
 have m0:(i+l.length-1) % l.length<l.length:=Nat.mod_lt _ (by omega)
 have hin:∀ {k:Nat},k<l.length→l.getD k 0∈l:=fun {k} hk=>by
  rw[Ae5,Ae8 hk,Afh];exact AgC hk
 have w2:IntKind.wrap .i64 ((i:Int)+2)=((i+2:Nat):Int):=by rw[Aj (by omega)];omega
 have w3:IntKind.wrap .i64 ((i:Int)+(l.length:Int))=((i+l.length:Nat):Int):=wrap_add (by omega)
 have w4:IntKind.wrap .i64 (((i+l.length:Nat):Int)-1)=((i+l.length-1:Nat):Int):=Ao (by omega)
 have f4:ile (4:Int) (l.length:Int)=decide (4≤l.length):=by
  rw[Ap]
  by_cases h:4≤l.length
  ·rw[Ae3 h,Ae3 (by omega)]
  ·rw[Ae2 h,Ae2 (by omega)]
 rw[Dk,AK,AI,Ae3 hi]
 simp only[AfX,CV (0:Int) hi]
 rw[AG (by omega),w2,XO (by omega),XO (by omega)]
 simp only[CV (0:Int) m1,CV (0:Int) m2,Ee,UO n _ (hr _ (hin hi)),f4,KZ]
 by_cases h4:4≤l.length
 ·simp only[h4,AfG,AhU]
  cases ht:B8 n (l.getD i 0)with
  |none=>rfl
  |some t=>
   cases t with
   |ver v=>rfl
   |arc u v=>
    simp only[Nz,Ak,AEx]
    by_cases c1:l.getD ((i+1) % l.length) 0=v
    ·simp only[c1,AfG,AhU]
     by_cases c2:l.getD ((i+2) % l.length) 0=D8 n v u
     ·simp only[c2,AfG,AhU,w3,w4]
      rw[XO (by omega)]
      simp only[CV (0:Int) m0,Ee,AFl n _ u (hr _ (hin m0))]
      cases KB n (l.getD ((i+l.length-1) % l.length) 0) u
      ·rfl
      ·simp only[AfY,Aa]
       have e:=Abm n l i hi hl false true true true v v true (D8 n v u) n v u (D8 n v u) true n (i:Int) (l.length:Int) ((i+l.length:Nat):Int) ((i+l.length-1:Nat):Int) (l.length:Int) (((i+l.length-1) % l.length:Nat):Int) (l.getD ((i+l.length-1) % l.length) 0) u true (l.length-3) 3 many [] (by omega) (by simp) (by omega)
       have e':AP JR many (n,l,(i:Int),[],(3:Int),_)=_:=e
       simp only[e',AG (show i+1<9223372036854775808 by omega)]
       rfl
     ·simp only[c2,AfL,Aga,AfI,AfK]
    ·simp only[c1,AfL,Aga,AfI,AfK]
 ·simp only[h4,AfL,Aga,AfI,AfK]
theorem Abn(n:Int)(l:List Int)(h1:1<l.length)(hl:l.length<1073741824)(hr:∀ x∈l, -9223372036854775808≤x∧x≤9223372036854775807):
  ∀ (m i cnt:Nat),i+m=l.length→m+1<cnt →
  (∃ k,k<l.length∧KZ n l k=true∧AP Dk cnt (n,l,false,(i:Int),())=some (.inl (n,Fl l k,true,()))) ∨
  ((∀ k,i≤k→k<l.length→KZ n l k=false)∧AP Dk cnt (n,l,false,(i:Int),())=some (.inl (n,l,false,()))):=by
 intro m
 induction m with
 |zero=>
  intro i cnt hi hc
  obtain⟨cnt,rfl⟩:∃ c,cnt=c+1:=⟨cnt-1,by omega⟩
  right
  refine⟨fun k q1 q2=>by omega,?_⟩
  rw[AP,Dk,AK,AI,Ae2 (by omega)]
 |succ m ih=>
  intro i cnt hi hc
  obtain⟨cnt,rfl⟩:∃ c,cnt=c+1:=⟨cnt-1,by omega⟩
  rw[AP,AOK n l i (by omega) h1 hl hr]
  cases hlf:KZ n l i
  ·simp only[AfI,AfK]
   rcases ih (i+1) cnt (by omega) (by omega)with h|⟨h,e⟩
   ·exact .inl h
   ·refine .inr ⟨fun k q1 q2 => ?_,e⟩
    by_cases ek:k=i
    ·rw[ek];exact hlf
    ·exact h k (by omega) q2
  ·simp only[AfY]
   obtain⟨cnt,rfl⟩:∃ c,cnt=c+1:=⟨cnt-1,by omega⟩
   refine .inl ⟨i,by omega,hlf,?_⟩
   rw[AP,Dk]
   cases ilt ((i+1:Nat):Int) (AM (Fl l i))<;>rfl
theorem Abo(n:Int):∀ (m:Nat) (l:List Int) (cnt:Nat),l.length=m→l.length<1073741824→(∀ x∈l, -9223372036854775808≤x∧x≤9223372036854775807)→l.Nodup→m<cnt →
  (¬ TI n l∧AP M3 cnt (n,l,())=some (.inl (false,()))) ∨
  ∃ l',AP M3 cnt (n,l,())=some (.inr (.inl (n,l',())))∧l'.length≤1∧(TI n l↔TI n l'):=by
 intro m
 induction m using Nat.strongRecOn with
 |_ m ih=>
 intro l cnt hm hl hr hn hc
 have hmany:4294967296<many:=by simp only[many];omega
 obtain⟨cnt,rfl⟩:∃ c,cnt=c+1:=⟨cnt-1,by omega⟩
 rw[AP,M3,AK,Am]
 by_cases h1:1<l.length
 ·rw[Ae3 (by omega)]
  simp only[Aa]
  rcases Abn n l h1 hl hr l.length 0 many (by omega) (by omega)with⟨k,k1,k2,e⟩|⟨k1,e⟩
  ·have e':AP Dk many (n,l,false,(0:Int),())=_:=e
   simp only[e',AfB]
   have hred:=ARC k1 k2
   have hiff:=Ad1 hred hn
   have hlen:(Fl l k).length=l.length-3:=by simp[Fl]
   rcases ih (l.length-3) (by omega) (Fl l k) cnt hlen (by omega) (fun x hx=>hr x (API k1 x hx)) (AVC hred hn) (by omega)with⟨q1,q2⟩|⟨l',q1,q2,q3⟩
   ·exact .inl ⟨fun h=>q1 (hiff.1 h),q2⟩
   ·exact .inr ⟨l',q1,q2,hiff.trans q3⟩
  ·have e':AP Dk many (n,l,false,(0:Int),())=_:=e
   simp only[e',AfX]
   refine .inl ⟨fun h => ?_,by trivial⟩
   obtain⟨l',hl'⟩:=Aed h h1
   obtain⟨i,i1,i2⟩:=APM hl'
   rw[k1 i (by omega) i1]at i2
   cases i2
 ·rw[Ae2 (by omega)]
  exact .inr ⟨l,rfl,by omega,Iff.rfl⟩
theorem AOL(n:Int)(l:List Int)(hl:l.length<1073741824)(hr:∀ x∈l, -9223372036854775808≤x∧x≤9223372036854775807)(hn:l.Nodup):AOM (n,l,())=some (decide (TI n l),()):=by
 have hmany:4294967296<many:=by simp only[many];omega
 rw[AUc,YB,BE (by simp only[AK,AfO];omega)]
 simp only[Cp,Afj,Aa]
 rcases Abo n l.length l many rfl hl hr hn (by omega)with⟨q1,q2⟩|⟨l',q1,q2,q3⟩
 ·rw[q2,Ae2 q1]
 ·rw[q1]
  simp only[AK,Ak]
  match l',q2,q3 with
  |[],_,q3=>
   have:¬ TI n l:=fun h=>Abe n (q3.1 h)
   simp[this]
  |[t],_,q3=>
   rw[Abd]at q3
   have i0:idx [t] (0:Int)=some t:=by rw[FG];rfl
   have d0:AL [t] 0 (0:Int)=t:=rfl
   rw[Ae3 (by simp)]
   simp only[i0,d0,Jj]
   by_cases h:In n t
   ·rw[Ae3 h,Ae3 (q3.2 h)]
   ·rw[Ae2 h,Ae2 (fun h2=>h (q3.1 h2))]
end Go.Pev.Pl
end
section
namespace Go.Pev.Pl
open Tok
noncomputable instance (n:Int) (rings:List (List Int)):Decidable (RF n rings):=Classical.propDecidable _
noncomputable instance (n:Int) (xs:List Int):Decidable (RG n xs):=Classical.propDecidable _
end Go.Pev.Pl
end
end
section
section
namespace Go.Pev.Pl
open Tok
theorem ACb(N:Nat)(hN:N≤64)(l:List Int)(hl:l.length<1073741824)(h0:∀ t∈l,0≤t)(d1:List (List Int))(d3 d5:Int)(d8:List Int)(d9:Int)(d10:Bool)(d11:Int)(d12:List Int)(d13 d14:Bool)(d15 d16:List Int)(d17:List (List Int))(d18:List Int)(d19:List (List Int))(d20 d21:Bool)(d22:List Int)(d23 d24:Int)(d25:Bool):
  ∀ (m k cnt:Nat) (met:List Bool) (seen:List Int),k+m=l.length→MB N met seen→(l.drop k).Nodup→seen.length+m<4611686018427387904→m<cnt →
  ((∀ t∈l.drop k,t<(N:Int)→t∉seen)∧∃ met',AP EX cnt ((N:Int),d1,met,d3,(seen.length:Int),d5,l,(k:Int),d8,d9,d10,d11,d12,d13,d14,d15,d16,d17,d18,d19,d20,d21,d22,d23,d24,d25,()) =
    some (.inr (.inl ((N:Int),d1,met',d3,((seen++(l.drop k).filter (fun t=>decide (t<(N:Int)))).length:Int),d5,d8,d9,d10,d11,d12,d13,d14,d15,d16,d17,d18,d19,d20,d21,d22,d23,d24,d25,())))∧MB N met' (seen++(l.drop k).filter (fun t=>decide (t<(N:Int))))) ∨
  (¬ (∀ t∈l.drop k,t<(N:Int)→t∉seen)∧AP EX cnt ((N:Int),d1,met,d3,(seen.length:Int),d5,l,(k:Int),d8,d9,d10,d11,d12,d13,d14,d15,d16,d17,d18,d19,d20,d21,d22,d23,d24,d25,())=some (.inl (false,()))):=by
 intro m
 induction m with
 |zero=>
  intro k cnt met seen hk hm hn hsl hc
  obtain⟨cnt,rfl⟩:∃ c,cnt=c+1:=⟨cnt-1,by omega⟩
  have e:l.drop k=[]:=AgK (by omega)
  rw[e]
  refine .inl ⟨by simp,met,?_,by simpa using hm⟩
  rw[AP,EX,AK,AI,Ae2 (by omega)]
  simp
 |succ m ih=>
  intro k cnt met seen hk hm hn hsl hc
  obtain⟨cnt,rfl⟩:∃ c,cnt=c+1:=⟨cnt-1,by omega⟩
  have hk':k<l.length:=by omega
  have e:l.drop k=l.getD k 0::l.drop (k+1):=by
   rw[Afn hk',Ae5,Ae8 hk',Afh]
  have hpos:0≤l.getD k 0:=h0 _ (by rw[Ae5,Ae8 hk',Afh];exact AgC hk')
  rw[AP,EX,AK,AI,Ae3 hk']
  simp only[CV (0:Int) hk']
  rw[e]at hn ⊢
  generalize l.getD k 0=t at *
  rw[Aff]at hn
  rw[AG (show k+1<9223372036854775808 by omega),Am]
  by_cases ht:t<(N:Int)
  ·rw[Ae3 ht]
   obtain⟨q,rfl⟩:=AfF hpos
   have hq:q<met.length:=by rw[hm.1];omega
   have hmq:=hm.2 q (by omega)
   simp only[CV false hq,Ee,ABD,hmq]
   by_cases hs:(q:Int)∈seen
   ·rw[Ae3 hs]
    exact .inr ⟨fun h=>h (q:Int) (by simp) ht hs,rfl⟩
   ·rw[Ae2 hs]
    simp only[]
    have hm':MB N (met.set q true) (seen++[(q:Int)]):=by
     refine⟨by simp[hm.1],fun y hy => ?_⟩
     by_cases e2:y=q
     ·subst e2
      simp[Ae5,hq]
     ·have h3:=hm.2 y hy
      have e3:¬ (y:Int)=(q:Int):=by omega
      rw[Ae5,Af1 (Afz e2),← Ae5,h3]
      simp[e3]
    have hlen:(((seen.length:Nat):Int))=((seen.length:Nat):Int):=rfl
    have hw:IntKind.wrap .i64 ((seen.length:Int)+1)=((seen++[(q:Int)]).length:Int):=by
     rw[Aj (by omega)];simp
    rw[hw]
    have hiff:(∀ y∈(q:Int)::l.drop (k+1),y<(N:Int)→y∉seen)↔∀ y∈l.drop (k+1),y<(N:Int)→y∉seen++[(q:Int)]:=by
     constructor
     ·intro h y hy hyn hm2
      simp only[Ae7,AfV]at hm2
      rcases hm2 with h2|rfl
      ·exact h y (AfU _ hy) hyn h2
      ·exact hn.1 hy
     ·intro h y hy hyn hm2
      rcases AfA.1 hy with rfl|hy
      ·exact hs hm2
      ·exact h y hy hyn (by simp[hm2])
    rcases ih (k+1) cnt _ _ (by omega) hm' hn.2 (by simp;omega) (by omega)with⟨q1,met',q2,q3⟩|⟨q1,q2⟩
    ·refine .inl ⟨hiff.2 q1,met',?_,?_⟩
     ·rw[Ahx (by simpa using ht)]
      rw[q2,Afm]
      rfl
     ·rw[Ahx (by simpa using ht)]
      simpa using q3
    ·exact .inr ⟨fun h=>q1 (hiff.1 h),q2⟩
  ·rw[Ae2 ht]
   simp only[]
   have hiff:(∀ y∈t::l.drop (k+1),y<(N:Int)→y∉seen)↔∀ y∈l.drop (k+1),y<(N:Int)→y∉seen:=by
    constructor
    ·intro h y hy;exact h y (AfU _ hy)
    ·intro h y hy hyn
     rcases AfA.1 hy with rfl|hy
     ·exact absurd hyn ht
     ·exact h y hy hyn
   rcases ih (k+1) cnt _ _ (by omega) hm hn.2 (by omega) (by omega)with⟨q1,met',q2,q3⟩|⟨q1,q2⟩
   ·refine .inl ⟨hiff.2 q1,met',?_,?_⟩
    ·rw[Ahy (by simpa using ht)]
     exact q2
    ·rw[Ahy (by simpa using ht)]
     exact q3
   ·exact .inr ⟨fun h=>q1 (hiff.1 h),q2⟩
theorem Wh(N:Nat)(hN1:1≤N)(hN:N≤64)(rings:List (List Int))(hlen:rings.length≤64)(hr:∀ l∈rings,l.length<9223372036854775808∧∀ x∈l, -9223372036854775808≤x∧x≤9223372036854775807):
  ∀ (ls:List (List Int)) (i cnt:Nat) (met:List Bool) (last:Int) (seen:List Int),rings.drop i=ls→i≤rings.length→MB N met seen→seen.length≤i*1073741824→ls.length<cnt →
  (okR (N:Int) seen last ls∧∃ met' seen',AP EY cnt ((N:Int),rings,met,last,(seen.length:Int),(i:Int),())=some (.inr (.inl ((N:Int),rings,(seen'.length:Int),())))∧MB N met' seen'∧seen'=seen++ls.flatten.filter (fun t=>decide (t<(N:Int)))) ∨
  (¬ okR (N:Int) seen last ls∧AP EY cnt ((N:Int),rings,met,last,(seen.length:Int),(i:Int),())=some (.inl (false,()))):=by
 have hmany:4294967296<many:=by simp only[many];omega
 intro ls
 induction ls with
 |nil=>
  intro i cnt met last seen hd hi hm hsl hc
  obtain⟨cnt,rfl⟩:∃ c,cnt=c+1:=⟨cnt-1,by simp at hc;omega⟩
  have:rings.length≤i:=by simpa using hd
  refine .inl ⟨trivial,met,seen,?_,hm,by simp⟩
  rw[AP,EY,AK,AI,Ae2 (by omega)]
 |cons l ls ih=>
  intro i cnt met last seen hd hi hm hsl hc
  simp only[AfD]at hc
  obtain⟨cnt,rfl⟩:∃ c,cnt=c+1:=⟨cnt-1,by omega⟩
  have hi':i<rings.length:=by
   refine Afo fun h => ?_
   rw[AgK (by omega)]at hd
   cases hd
  rw[Afn hi']at hd
  simp only[AfW]at hd
  obtain⟨hd1,hd2⟩:=hd
  have hx:rings[i]? = some l:=by rw[Ae8 hi',hd1]
  have hmem:l∈rings:=AfM hx
  obtain⟨hl,hlr⟩:=hr l hmem
  rw[AP,EY,AK,AI,Ae3 hi',okR]
  simp only[Ac hx,Ln]
  by_cases c2:Rt l
  ·rw[Ae3 c2]
   have hl:l.length<1073741824:=by have:=c2.1;omega
   simp only[AfB]
   cases l with
   |nil=>
    rw[AK,Ak,Ae3 (by simp)]
    exact .inr ⟨fun h=>h.1.2.1 rfl,rfl⟩
   |cons x tl=>
    rw[AK,Ak,Ae2 (by simp only[AfD];omega)]
    simp only[AOL (N:Int) (x::tl) hl hlr c2.2.2]
    by_cases c4:TI (N:Int) (x::tl)
    ·rw[Ae3 c4]
     simp only[AfB,UZ]
     rw[AMO _ _ (by simp) (by
      intro y hy
      simp only[AfV]at hy
      subst hy
      obtain⟨a,b,q1,q2⟩:=Hq c2 (by simp)
      have:=AgZ List.length q1
      rw[q2]
      simp only[AfD,AfC]at this hl ⊢
      omega)]
     have hps:=Y9 c2 (by simp)
     have hps2:([plain (x::tl)]=[x::tl])↔Gk (x::tl)=x:=by simpa using hps
     by_cases c3:Gk (x::tl)=x
     ·rw[Ae3 (hps2.2 c3)]
      have i0:idx (x::tl) (0:Int)=some x:=by rw[FG];rfl
      simp only[AfB,i0,Ahp,Ap]
      by_cases c1:x≤last
      ·rw[Ae3 c1]
       exact .inr ⟨fun h=>by omega,rfl⟩
      ·rw[Ae2 c1]
       simp only[Aa]
       have hRG:RG (N:Int) (x::tl):=⟨c2,by simp,c3,c4⟩
       rcases ACb N hN (x::tl) hl (fun t ht=>(c2.2.1 t ht).1) rings x (i:Int) (x::tl) ((x::tl).length:Int) false (N:Int) (x::tl) true false (x::tl) (plain (x::tl)) [plain (x::tl)] (x::tl) [x::tl] true false (x::tl) x last false (x::tl).length 0 many met seen (by omega) hm (by rw[Ag6];exact c2.2.2) (by omega) (by omega)with⟨q1,met',q2,q3⟩|⟨q1,q2⟩
       ·rw[Ag6]at q1 q3 q2
        have q2':AP EX many ((N:Int),rings,met,x,(seen.length:Int),(i:Int),x::tl,(0:Int),x::tl,((x::tl).length:Int),false,(N:Int),x::tl,true,false,x::tl,plain (x::tl),[plain (x::tl)],x::tl,[x::tl],true,false,x::tl,x,last,false,())=_:=q2
        simp only[q2',AG (show i+1<9223372036854775808 by omega)]
        have hfl:((x::tl).filter (fun t=>decide (t<(N:Int)))).length≤(x::tl).length:=Agg _ _
        rcases ih (i+1) cnt met' x (seen++(x::tl).filter (fun t=>decide (t<(N:Int)))) hd2 (by omega) q3 (by rw[AfC];omega) (by omega)with⟨p1,met2,seen2,p2,p3,p4⟩|⟨p1,p2⟩
        ·refine .inl ⟨⟨hRG,by omega,q1,p1⟩,met2,seen2,p2,p3,?_⟩
         rw[p4,Agl,AgS,Afm]
        ·exact .inr ⟨fun h=>p1 h.2.2.2,p2⟩
       ·rw[Ag6]at q1
        have q2':AP EX many ((N:Int),rings,met,x,(seen.length:Int),(i:Int),x::tl,(0:Int),x::tl,((x::tl).length:Int),false,(N:Int),x::tl,true,false,x::tl,plain (x::tl),[plain (x::tl)],x::tl,[x::tl],true,false,x::tl,x,last,false,())=_:=q2
        simp only[q2']
        exact .inr ⟨fun h=>q1 h.2.2.1,by trivial⟩
     ·rw[Ae2 (fun h=>c3 (hps2.1 h))]
      exact .inr ⟨fun h=>c3 h.1.2.2.1,rfl⟩
    ·rw[Ae2 c4]
     exact .inr ⟨fun h=>c4 h.1.2.2.2,rfl⟩
  ·rw[Ae2 c2]
   exact .inr ⟨fun h=>c2 h.1.1,rfl⟩
theorem Gb(n:Int)(rings:List (List Int))(hlen:rings.length<1073741824)(hr:∀ l∈rings,l.length<9223372036854775808∧∀ x∈l, -9223372036854775808≤x∧x≤9223372036854775807):
  XL ((n,(rings,())),())=some (decide (RF n rings),()):=by
 have hmany:4294967296<many:=by simp only[many];omega
 rw[AO5,SJ]
 simp only[Am,AK]
 by_cases h1:n<1
 ·rw[Ae3 h1,Ae2 (show ¬ RF n rings from fun h=>by have:=h.1.1;omega)]
 ·rw[Ae2 h1]
  simp only[]
  by_cases h2:64<n
  ·rw[Ae3 h2,Ae2 (show ¬ RF n rings from fun h=>by have:=h.1.2;omega)]
  ·rw[Ae2 h2]
   simp only[]
   by_cases h3:n<(rings.length:Int)
   ·rw[Ae3 h3,Ae2 (show ¬ RF n rings from fun h=>by
     have:=ATW (by omega) h.2.1 (by omega) (by omega)
     omega)]
   ·rw[Ae2 h3]
    obtain⟨N,rfl⟩:=AfF (show 0≤n by omega)
    have f1:LQ (N:Int)=true:=(Jq _).2 (by omega)
    have f2:ile (N:Int) (N:Int)=true:=by rw[Ap];simp
    simp only[f1,f2,AhG,Ahk,Aa]
    have hMB:MB N (Jt (AE (N:Int)) false) []:=by
     refine⟨by simp[Jt,IL],fun k hk => ?_⟩
     simp[Jt,IL,hk]
    rcases Wh N (by omega) (by omega) rings (by omega) hr rings 0 many _ (-1) [] (by simp) (by omega) hMB (by simp) (by omega)with⟨p1,met,seen,p2,p3,p4⟩|⟨p1,p2⟩
    ·have p2':AP EY many ((N:Int),rings,Jt (AE (N:Int)) false, -1,(0:Int),(0:Int),())=_:=p2
     simp only[p2',Ak]
     obtain⟨q1,q2⟩:=AVp p1 (by simp)
     rw[← p4]at q1
     have hsub:∀ x∈seen,x∈(List.range N).map (fun(k:Nat)=>(k:Int)):=by
      intro x hx
      rw[p4]at hx
      simp only[Afj,Afe,Ah7,Ae6]at hx
      obtain⟨⟨l,hl,hxl⟩,hxn⟩:=hx
      have:=((q2 l hl).1.2.1 x hxl).1
      rw[AfQ]
      exact⟨x.toNat,by rw[Af3];omega,by omega⟩
     have hv:∀ v,v∈seen↔(v<(N:Int)∧v∈rings.flatten):=fun v=>by rw[p4,Afj,Afe,Ae6,and_comm]
     have hS:Sz (N:Int):=⟨by omega,by omega⟩
     by_cases hc:(seen.length:Int)=(N:Int)
     ·rw[Ae3 hc,Ae3]
      refine⟨hS,p1,fun v v1 v2 => ?_⟩
      have:=QO q1 hsub (by simp;omega) v (by rw[AfQ];exact⟨v.toNat,by rw[Af3];omega,by omega⟩)
      exact((hv v).1 this).2
     ·rw[Ae2 hc,Ae2]
      rintro⟨_,_,h⟩
      have a1:=DD q1 hsub
      have hrn:((List.range N).map (fun(k:Nat)=>(k:Int))).Nodup:=by
       rw[List.Nodup,AgY]
       exact List.nodup_range.imp fun h e=>h (by omega)
      have a2:=DD (a:=(List.range N).map (fun(k:Nat)=>(k:Int))) (b:=seen) hrn fun x hx=>by
       rw[AfQ]at hx
       obtain⟨k,hk,rfl⟩:=hx
       rw[Af3]at hk
       exact(hv _).2 ⟨by omega,h (k:Int) (by omega) (by omega)⟩
      simp only[Afd,Afb]at a1 a2
      omega
    ·have p2':AP EY many ((N:Int),rings,Jt (AE (N:Int)) false, -1,(0:Int),(0:Int),())=_:=p2
     simp only[p2']
     rw[Ae2 (fun h=>p1 h.2.1)]
end Go.Pev.Pl
end
section
namespace Go.Pev.Pl
open Tok
theorem VA(n:Int)(rings:List (List Int))(v:Int)(hlen:rings.length<1073741824)(hr:∀ l∈rings,l.length<9223372036854775808):NA ((n,(rings,())),v,())=some (plc rings v,()):=by
 rw[APi,SU]
 have e:=Fg (step:=Hs) (fun i=>(v,n,rings,(i:Int),())) rings (fun l=>decide (v∈l)) (fun i=>.inl ((i:Int),())) (.inr (.inl ())) (by omega)
  (fun i l hi hx=>by
   have hl:=hr l (AfM hx)
   rw[Hs,AK,AI,Ae3 hi]
   simp only[Ac hx,Lq l v (by omega)]
   rw[AG (by omega),Ap]
   by_cases h:v∈l
   ·obtain⟨k,e,_⟩:=AGR h
    rw[e,Ae3 (by omega),Ae3 h];rfl
   ·rw[P8 h,Ae2 (by omega),Ae2 h];rfl)
  (by rw[Hs,AK,AI,Ae2 (by omega)])
 have e':AR Hs many (v,n,rings,(0:Int),())=_:=e
 simp only[e',plc]
 cases rings.any (fun l=>decide (v∈l))<;>rfl
end Go.Pev.Pl
end
section
namespace Go.Pev.Pl
open Tok
theorem AVE(rest:List (List Int))(r:List Int)(hlen:rest.length<1073741824)(hne:∀ l∈rest,l≠[])(hp:plain r≠[]):ATG (rest,r,())=some (Yz rest (plain r),()):=by
 rw[AYv,AGM]
 simp only[UZ]
 generalize plain r=p at *
 have e:=Fg (step:=Lo) (fun i=>(rest,p,(i:Int),())) rest (fun x => !decide (hd x<hd p)) (fun i=>.inl (rest,p,(i:Int),())) (.inl (rest,p,(rest.length:Int),())) (by omega)
  (fun i x hi hx=>by
   rw[Lo,AK,AI,Ae3 hi]
   simp only[Ac hx,ATs (hne x (AfM hx)),ATs hp,AbA,Am]
   rw[AG (by omega)]
   by_cases h:hd x<hd p
   ·rw[Ae3 h];rfl
   ·rw[Ae2 h];rfl)
  (by rw[Lo,AK,AI,Ae2 (by omega)])
 have e':AR Lo many (rest,p,(0:Int),())=_:=e
 have hk:(if rest.any (fun x => !decide (hd x<hd p))then(.inl (rest,p,((rest.findIdx fun x => !decide (hd x<hd p):Nat):Int),()):(List (List Int)×List Int×Int×Unit)⊕Unit)else .inl (rest,p,(rest.length:Int),())) = .inl (rest,p,((rest.findIdx fun x => !decide (hd x<hd p):Nat):Int),()):=by
  split
  ·rfl
  ·rename_i h
   rw[List.findIdx_eq_length.2 fun x hx=>by
    refine Afo fun hc=>h (AgB.2 ⟨x,hx,by simpa using hc⟩)]
 rw[e',hk]
 have hle:(rest.findIdx fun x => !decide (hd x<hd p))≤rest.length:=List.findIdx_le_length
 rw[Yz]
 generalize (rest.findIdx fun x => !decide (hd x<hd p))=k at *
 simp only[KA hle,D9 hle]
 rw[BE (by simp only[AK,AfO,AfN];omega)]
 simp only[]
 rw[BE (by simp only[AK,Cp,AfC,AfD,AfO,AfN];omega)]
 simp only[]
 rw[BE (by simp only[AK,Cp,AfC,AfD,AfO,AfN,Afg];omega)]
 simp only[Cp,Afj,Afm,AgN]
theorem N4(l:List (List Int))(i:Nat)(hi:i<l.length)(hlen:l.length<1073741824):HS (l,(i:Int),())=some (l.eraseIdx i,()):=by
 rw[AFD,LZ]
 rw[AG (by omega)]
 simp only[KA (AhC hi),D9 (show i+1≤l.length by omega)]
 rw[BE (by simp only[AK,AfO,AfN];omega)]
 simp only[]
 rw[BE (by simp only[AK,Cp,AfC,AfO,AfN,Afg];omega)]
 simp only[Cp,Afj,List.eraseIdx_eq_take_drop_succ]
end Go.Pev.Pl
end
section
namespace Go.Pev.Pl
open Tok
theorem Abr(n:Int)(rings:List (List Int))(v:Int)(hD:Dom rings):tof ((n,(rings,())),v,())=some (if RF n rings∧In n v then plc rings v else -1,()):=by
 rw[AYB,ASz]
 simp only[XF,OR n rings hD.1 hD.2,Hg n rings v hD.1 (fun l hl=>(hD.2 l hl).1)]
 by_cases h1:In n v
 ·by_cases h2:RF n rings<;>simp[h1,h2]
 ·simp[h1]
end Go.Pev.Pl
end
section
namespace Go.Pev.Pl
open Go.RowKit Tok
end Go.Pev.Pl
end
section
namespace Go.Pev.Pl
open Tok
end Go.Pev.Pl
end
section
namespace Go.Pev.Pl
open Tok
theorem AMP{n:Int}{rings:List (List Int)}{u v:Int}(h:FR n rings)(iu:In n u)(iv:In n v)(hp:plc rings u=plc rings v):
  Le ((n,(rings,())),u,v,())=some (n,rings,5,())∧TC ((n,(rings,())),u,v,())=some (n,rings,5,()):=by
 have hD:=h.dom
 have hRF:=Kw.2 h
 constructor
 ·rw[Hk,G9]
  simp only[HY n rings u v hD,hRF,iu,iv,Ahi,AfY,Ak,Hg n rings _ hD.1 (fun l hl=>(hD.2 l hl).1),hp,AfG,AfB]
 ·rw[NX,Jg]
  simp only[Gb n rings hD.1 hD.2,hRF,Jj,iu,iv,AfG,AfB,VA n rings _ hD.1 (fun l hl=>(hD.2 l hl).1),Ak,hp]
theorem AaJ{n:Int}{rings:List (List Int)}{u v:Int}{i j:Nat}{A B:List Int}(h:FR n rings)(iu:In n u)(iv:In n v)(hi:rings[i]? = some A)(hj:rings[j]? = some B)(hu:u∈A)(hv:v∈B)(hij:i≠j):
  ∃ zs rest,Le ((n,(rings,())),u,v,())=some (n,zs,0,())∧TC ((n,(rings,())),u,v,())=some (n,zs,0,())∧FR n zs∧rings.Perm (A::B::rest)∧zs.Perm (plain (A8 n A B u v)::rest)∧Dis n A B:=by
 have hD:=h.dom
 have hRF:=Kw.2 h
 have rA:=h.rg A (AfM hi)
 have rB:=h.rg B (AfM hj)
 have hil:=(Afc.1 hi).1
 have hjl:=(Afc.1 hj).1
 have pu:plc rings u=(i:Int):=h.Y8 hi iu.2.2.2 hu
 have pv:plc rings v=(j:Int):=h.Y8 hj iv.2.2.2 hv
 have hperm:rings.Perm (A::B::(rings.eraseIdx (max i j)).eraseIdx (min i j)):=by
  rcases Aht hij with g|g
  ·rw[AhQ (by omega),Af8 (by omega)]
   exact I1 g hi hj
  ·rw[AhW (by omega),Ahj (by omega)]
   exact(I1 g hj hi).trans (List.Perm.swap _ _ _)
 have hdis:Dis n A B:=by
  have:=Ju hperm h.dis
  rw[Aft]at this
  exact this.1 B (by simp)
 obtain⟨l1,l2,l3,huv,ho⟩:=NW rA.2.2.2 rB.2.2.2 hu hv iu iv hdis
 obtain⟨hRG,hrot⟩:=ABr l1
 have hall:A8 n A B u v=u::D8 n u v::(A6 B v++D8 n v u::(A6 A u).tail):=rfl
 have lA:(A6 A u).length≤1000:=by rw[← (Ca hu).perm.length_eq];exact rA.1.1
 have lB:(A6 B v).length≤1000:=by rw[← (Ca hv).perm.length_eq];exact rB.1.1
 have hsub:((rings.eraseIdx (max i j)).eraseIdx (min i j)).Sublist rings:=(Ahe _ _).trans (Ahe _ _)
 have hw1:HS (rings,((max i j:Nat):Int),())=some (rings.eraseIdx (max i j),()):=N4 _ _ (by omega) hD.1
 have hel:(rings.eraseIdx (max i j)).length=rings.length-1:=by rw[List.length_eraseIdx];rw[AfJ (by omega)]
 have hw2:HS (rings.eraseIdx (max i j),((min i j:Nat):Int),())=some ((rings.eraseIdx (max i j)).eraseIdx (min i j),()):=N4 _ _ (by omega) (by have:=hD.1;omega)
 have hdrop:Co (fun k=>decide ((k:Int)∈[(i:Int),(j:Int)])) 0 rings=(rings.eraseIdx (max i j)).eraseIdx (min i j):=by
  rcases Aht hij with g|g
  ·rw[AhQ (by omega),Af8 (by omega)]
   exact Km _ i j g rings 0 (by omega) fun k _=>AgV.2 (by simp only[AfA,Ag5,Ahg];omega)
  ·rw[AhW (by omega),Ahj (by omega)]
   exact Km _ j i g rings 0 (by omega) fun k _=>AgV.2 (by simp only[AfA,Ag5,Ahg];omega)
 have hrl:((rings.eraseIdx (max i j)).eraseIdx (min i j)).length≤rings.length:=hsub.length_le
 generalize (rings.eraseIdx (max i j)).eraseIdx (min i j)=rest at *
 have hupr:rest.Pairwise (fun a b=>hd a<hd b):=h.up.sublist hsub
 have hner:∀ l∈rest,l≠[]:=fun l hl=>(h.rg l (hsub.subset hl)).2.1
 have hdd:=Ju hperm h.dis
 rw[Aft,Aft]at hdd
 have hheads:∀ x∈rest,hd x≠hd (plain (A8 n A B u v)):=by
  intro x hx e
  have g1:=Nq hRG
  have g2:=(l3 _ g1.2.2.2).1 (hrot.perm.mem_iff.2 (TO hRG.2.1))
  have g3:hd (plain (A8 n A B u v))∈x:=e▸TO (hner x hx)
  rcases g2 with g|g
  ·exact hdd.1 x (by simp[hx]) _ g g1.2.2.2 g3
  ·exact hdd.2.1 x hx _ g g1.2.2.2 g3
 have hup:=ATF hupr hheads
 have hpz:=AD6 rest (plain (A8 n A B u v))
 refine⟨Yz rest (plain (A8 n A B u v)),rest,?_,?_,AUJ h hperm hRG (fun t ht=>by rw[← hrot.perm.mem_iff];exact l3 t ht) hpz hup,hperm,hpz,hdis⟩
 ·obtain⟨ys,y1,y2,y3⟩:=ADZ n rings [(i:Int),(j:Int)] [A8 n A B u v] hD.1 (by simp) (by simp) (fun l hl=>(h.rg l hl).2.1) (by simp;exact hRG.2.1)
  have hys:ys=Yz rest (plain (A8 n A B u v)):=by
   refine US hup (y2.trans ?_) y3
   rw[hdrop]
   exact(Agf (l₁:=rest) (l₂:=[plain (A8 n A B u v)])).trans hpz.symm
  rw[hys]at y1
  rw[Hk,G9]
  have s1:B4 (A6 A u) (0:Int) (1:Int)=some [u]:=by
   have:=R4 (xs:=A6 A u) (l:=0) (h:=1) (by omega) (by rw[l2];simp)
   rw[l2]at this ⊢
   exact this
  have s2:B4 (A6 A u) (1:Int) (AM (A6 A u))=some (A6 A u).tail:=by
   have:=D9 (xs:=A6 A u) (l:=1) (by rw[l2];simp)
   rw[Ag2]at this
   exact this
  have d1:Df 0 (AE (AM [u])) (A6 A u)=[u]:=by rw[l2];rfl
  have d2:Df 1 (AE (AM (A6 A u).tail)) (A6 A u)=(A6 A u).tail:=by
   rw[Df,AK,IL,Ag2,AgH]
  have hcat:I5 ([[u],[D8 n u v],A6 B v,[D8 n v u],(A6 A u).tail],())=some (A8 n A B u v,()):=by
   rw[Me _ (by simp) (by simp;omega)]
   simp[A8]
  have ne:((i:Int))≠(j:Int):=by omega
  simp only[HY n rings u v hD,hRF,iu,iv,Ahi,AfY,Ak,Hg n rings _ hD.1 (fun l hl=>(hD.2 l hl).1),pu,pv,ne,AfG,AfL,AfB,Ac hi,Ac hj,AD2,Iz,rA.1,rB.1,hu,hv,s1,s2,AJz,d1,d2,hcat,y1]
 ·rw[NX,Jg]
  have s2:B4 (A6 A u) (1:Int) (AM (A6 A u))=some (A6 A u).tail:=by
   have:=D9 (xs:=A6 A u) (l:=1) (by rw[l2];simp)
   rw[Ag2]at this
   exact this
  have d2:Df 1 (AE (AM (A6 A u).tail)) (A6 A u)=(A6 A u).tail:=by
   rw[Df,AK,IL,Ag2,AgH]
  have ne:((i:Int))≠(j:Int):=by omega
  have f1:fits (AM [u,D8 n u v]+AM (A6 B v))=true:=BE (by simp only[AK,AfD,AfO];omega)
  have f2:fits (AM (A5 [u,D8 n u v] (A6 B v))+AM [D8 n v u])=true:=BE (by simp only[AK,Cp,AfC,AfD,AfO];omega)
  have f3:fits (AM (A5 (A5 [u,D8 n u v] (A6 B v)) [D8 n v u])+AM (A6 A u).tail)=true:=BE (by simp only[AK,Cp,AfC,AfD,AfO,List.length_tail];omega)
  have hcat:A5 (A5 (A5 [u,D8 n u v] (A6 B v)) [D8 n v u]) (A6 A u).tail=A8 n A B u v:=by simp[Cp,A8]
  have hput:ATG (rest,A8 n A B u v,())=some (Yz rest (plain (A8 n A B u v)),()):=AVE rest _ (by have:=hD.1;omega) hner hRG.2.1
  simp only[Gb n rings hD.1 hD.2,hRF,Jj,iu,iv,AfG,AfB,VA n rings _ hD.1 (fun l hl=>(hD.2 l hl).1),pu,pv,Ak,ne,AfL,Ac hi,Ac hj,PD A u (by have:=rA.1.1;omega),PD B v (by have:=rB.1.1;omega),Iz,rA.1,rB.1,hu,hv,Ahi,AfY,AEx,f1,f2,s2,d2,f3,AaZ,AaY,hw1,hw2,hcat,hput]
theorem AC8{n:Int}{rings:List (List Int)}{u v:Int}(hD:Dom rings)(h:¬ (RF n rings∧In n u∧In n v)):
  ∃ e,e≠0∧(∃ b,e=b∧(b=1∨b=10))∧Le ((n,(rings,())),u,v,())=some (n,rings,e,())∧TC ((n,(rings,())),u,v,())=some (n,rings,e,()):=by
 by_cases h1:RF n rings
 ·have h2:¬ (In n u∧In n v):=fun h2=>h ⟨h1,h2⟩
  refine⟨10,by omega,⟨10,rfl,.inr rfl⟩,?_,?_⟩
  ·rw[Hk,G9]
   simp only[HY n rings u v hD,h1,h2,AfY,AfK,Ak]
   rfl
  ·rw[NX,Jg]
   simp only[Gb n rings hD.1 hD.2,h1,Jj,AfG,AfB]
   by_cases hu:In n u
   ·have hv:¬ In n v:=fun hv=>h2 ⟨hu,hv⟩
    simp[hu,hv]
   ·simp[hu]
 ·refine⟨1,by omega,⟨1,rfl,.inl rfl⟩,?_,?_⟩
  ·rw[Hk,G9]
   simp only[HY n rings u v hD,h1,AfK,Ak]
   rfl
  ·rw[NX,Jg]
   simp only[Gb n rings hD.1 hD.2,h1,AfL,AfX]
theorem ASb{n:Int}{rings:List (List Int)}(u v:Int)(hD:Dom rings):∃ zs e,Le ((n,(rings,())),u,v,())=some (n,zs,e,())∧TC ((n,(rings,())),u,v,())=some (n,zs,e,())∧Dom zs:=by
 by_cases h:RF n rings∧In n u∧In n v
 ·obtain⟨h1,iu,iv⟩:=h
  have hF:=Kw.1 h1
  obtain⟨i,A,pu,hi,hu,_⟩:=Lp (hF.cov u iu)
  obtain⟨j,B,pv,hj,hv,_⟩:=Lp (hF.cov v iv)
  by_cases hij:i=j
  ·obtain⟨q1,q2⟩:=AMP hF iu iv (by rw[pu,pv,hij])
   exact⟨_,_,q1,q2,hD⟩
  ·obtain⟨zs,rest,q1,q2,q3,_⟩:=AaJ hF iu iv hi hj hu hv hij
   exact⟨_,_,q1,q2,q3.dom⟩
 ·obtain⟨e,_,_,q1,q2⟩:=AC8 hD h
  exact⟨_,_,q1,q2,hD⟩
end Go.Pev.Pl
end
section
namespace Go.Pev.Pl
open Tok
def sel(l:List Edge)(bs:List Bool):List Edge:=((l.zip bs).filter fun p=>p.2).map fun p=>p.1
end Go.Pev.Pl
end
section
namespace Go.Pev.Pl
open Tok
instance (n v:Int):Decidable (In n v):=inferInstanceAs (Decidable (_∧_))
instance (n:Int):Decidable (Sz n):=inferInstanceAs (Decidable (_∧_))
end Go.Pev.Pl
end
section
namespace Go.Pev.Pl
instance (xs:List Int):Decidable (Rt xs):=inferInstanceAs (Decidable (_∧_∧_))
end Go.Pev.Pl
end
section
namespace Go.Pev.Pl
open Tok
noncomputable instance (n:Int) (xs:List Int):Decidable (TI n xs):=Classical.propDecidable _
end Go.Pev.Pl
end
section
namespace Go.Pev.Pl
open Tok
noncomputable instance (n:Int) (rings:List (List Int)):Decidable (RF n rings):=Classical.propDecidable _
noncomputable instance (n:Int) (xs:List Int):Decidable (RG n xs):=Classical.propDecidable _
end Go.Pev.Pl
end
section
namespace Go.Pev.Pl
open Tok
theorem AJy(n:Int)(rings:List (List Int))(l:List (Int×Int×Unit))(hD:Dom rings)(hs:l.length<9223372036854775808):AFj ((n,(rings,())),l,())=some (AI0 n rings (l.all fun e=>decide (In n e.1)&&decide (In n e.2.1)),()):=by
 rw[AOT,R3]
 simp only[Gb n rings hD.1 hD.2,AI0]
 by_cases h:RF n rings
 ·simp only[h,AfG,AfB,AfY]
  have e:=Fg (step:=Hl) (fun i=>(l,n,rings,(i:Int),())) l (fun e => !(decide (In n e.1)&&decide (In n e.2.1))) (fun _=>.inl ((10:Int),())) (.inr (.inl ())) hs
   (fun i x hi hx=>by
    rw[Hl,AK,AI,Ae3 hi]
    simp only[Ac hx,Am,Ap]
    rw[AG (by omega)]
    have q1:=ASm (v:=x.1) h.1
    have q2:=ASm (v:=x.2.1) h.1
    by_cases c1:x.1<0
    ·rw[Ae3 c1,Bool.true_or]at q1
     have:decide (In n x.1)=false:=by simpa using q1.symm
     simp[c1,this]
    ·by_cases c2:n≤x.1
     ·rw[Ae3 c2,Bool.or_true]at q1
      have:decide (In n x.1)=false:=by simpa using q1.symm
      simp[c1,c2,this]
     ·rw[Ae2 c1,Ae2 c2]at q1
      have g1:decide (In n x.1)=true:=by simpa using q1.symm
      by_cases c3:x.2.1<0
      ·rw[Ae3 c3,Bool.true_or]at q2
       have:decide (In n x.2.1)=false:=by simpa using q2.symm
       simp[c1,c2,c3,this]
      ·by_cases c4:n≤x.2.1
       ·rw[Ae3 c4,Bool.or_true]at q2
        have:decide (In n x.2.1)=false:=by simpa using q2.symm
        simp[c1,c2,c3,c4,this]
       ·rw[Ae2 c3,Ae2 c4]at q2
        have g2:decide (In n x.2.1)=true:=by simpa using q2.symm
        simp[c1,c2,c3,c4,g1,g2])
   (by rw[Hl,AK,AI,Ae2 (by omega)])
  have e':AR Hl many (l,n,rings,(0:Int),())=_:=e
  rw[e',List.any_eq_not_all_not]
  simp only[Bool.not_not]
  cases l.all fun e=>decide (In n e.1)&&decide (In n e.2.1)<;>rfl
 ·simp[h]
end Go.Pev.Pl
end
section
namespace Go.Pev.Pl
open Tok
end Go.Pev.Pl
end
section
namespace Go.Pev.Pl
open Tok
end Go.Pev.Pl
end
section
namespace Go.Pev.Pl
open Tok
end Go.Pev.Pl
end
section
namespace Go.Pev.Pl
open Tok
theorem AKZ{N:Nat}(h1:1≤N)(hN:N≤64){ts:List Tie}(hs:ts.length≤400)(ho:oks N ts){out:List Int}(hc:LY (N:Int) (trs ts ts.length) out):
  Ch (((N:Int),(ts,())),())=some (decide ((cnt out N:Int)=(N:Int)-(trs ts ts.length).length),()):=by
 have R:=Px N hN ts hs
 rw[AfJ ho]at R
 have hin:=AOG hN ho
 have hlen:=AFL ts ts.length
 obtain⟨o2,e2,c2⟩:=DG (N:Int) (trs ts ts.length) ⟨by omega,by omega⟩ (by omega) hin
 have:=LY.unique h1 hN hc c2
 subst this
 have hol:out.length=N:=by have:=hc.len;omega
 rw[Fj,Er]
 simp only[Am,AK]
 rw[Ae2 (show ¬ (N:Int)<1 by omega),Ae2 (show ¬ 64<(N:Int) by omega),Ae2 (show ¬ 400<(ts.length:Int) by omega)]
 simp only[R,e2,N6 N hN _ _ out hol,Ak]
 rw[Aj (by omega)]
end Go.Pev.Pl
end
section
namespace Go.Pev.Pl
open Tok
theorem Con.perm{l l':List Edge}(h:∀ e,e∈l↔e∈l'){a b:Int}:Con l a b↔Con l' a b:=
 ⟨fun c=>c.mono fun e he=>⟨e,(h e).1 he,.inl ⟨rfl,rfl⟩⟩,fun c=>c.mono fun e he=>⟨e,(h e).2 he,.inl ⟨rfl,rfl⟩⟩⟩
theorem LY.congr{n:Int}{l l':List Edge}{out:List Int}(h:∀ a b,Con l a b↔Con l' a b)(hc:LY n l out):LY n l' out:=
 ⟨hc.len,fun a b ia ib=>(hc.same a b ia ib).trans (h a b),hc.isin,fun a ia=>(h a _).1 (hc.con a ia),fun a b ia ib c=>hc.least a b ia ib ((h a b).2 c)⟩
end Go.Pev.Pl
end
section
namespace Go.Pev.Pl
open Tok
def ADm(x:Edge)(b:Bool):Tie:=(x.1,x.2.1,0,b,())
def XA(ts:List Tie)(xs:List Edge)(bs:List Bool)(k:Nat):List Tie:=(List.range k).foldl (fun a i=>Yy a (ADm (xs.getD i (0,0,())) (bs.getD i false))) ts
end Go.Pev.Pl
end
section
namespace Go.Pev.Pl
open Tok
def AQb(xs:List Edge)(bs:List Bool)(k:Nat):List Tie:=(List.range k).map fun i=>ADm (xs.getD i (0,0,())) (bs.getD i false)
theorem AEz(ts:List Tie)(xs:List Edge)(bs:List Bool)(k:Nat):XA ts xs bs (k+1)=Yy (XA ts xs bs k) (ADm (xs.getD k (0,0,())) (bs.getD k false)):=by
 unfold XA
 rw[AgP,List.foldl_append]
 rfl
theorem Tz(ts:List Tie)(xs:List Edge)(bs:List Bool):∀ k,(XA ts xs bs k).Perm (ts++AQb xs bs k):=by
 intro k
 induction k with
 |zero=>simp[XA,AQb]
 |succ k ih=>
  rw[AEz]
  refine(AD5 _ _).trans ?_
  unfold AQb at *
  rw[AgP,AgM,← Afm]
  refine(List.Perm.cons _ ih).trans ?_
  exact(List.perm_append_singleton _ _).symm
end Go.Pev.Pl
end
section
namespace Go.Pev.Pl
open Tok
theorem AbZ{N:Nat}{ts:List Tie}(h:oks N ts)(hv0:0≤Hi N){xs:List Edge}(bs:List Bool)(hp:xs.Pairwise C4)(hx:∀ e∈xs,0≤e.1∧e.1<e.2.1∧e.2.1<(N:Int))(hn:∀ e∈xs,¬ e∈ts.map ed):oks N (XA ts xs bs xs.length):=by
 rw[KR]at h ⊢
 obtain⟨h1,h2⟩:=h
 have hget:∀ i (hi:i<xs.length),xs.getD i (0,0,())=xs[i]:=fun i hi=>by
  simp only[Ae5,Ae8 hi,Afh]
 have hmem:∀ k,k≤xs.length→∀ t∈XA ts xs bs k,t∈ts∨∃ i,i<k∧t=ADm (xs.getD i (0,0,())) (bs.getD i false):=by
  intro k hk t ht
  rcases Ae7.1 ((Tz ts xs bs k).mem_iff.1 ht)with h|h
  ·exact .inl h
  ·unfold AQb at h
   obtain⟨i,hi,rfl⟩:=AfQ.1 h
   exact .inr ⟨i,by simpa using hi,rfl⟩
 refine⟨fun t ht => ?_,?_⟩
 ·rcases hmem _ (AfH _) t ht with h|⟨i,hi,rfl⟩
  ·exact h1 t h
  ·rw[hget i hi]
   obtain⟨q1,q2,q3⟩:=hx xs[i] (AgC hi)
   exact⟨q1,q2,q3,by show(0:Int)≤0;omega,hv0⟩
 ·have key:∀ k,k≤xs.length→(XA ts xs bs k).Pairwise ahead:=by
   intro k
   induction k with
   |zero=>intro _;exact h2
   |succ k ih=>
    intro hk
    rw[AEz]
    refine AVD (ih (by omega)) fun t ht => ?_
    rw[hget k (by omega)]
    rintro⟨e1,e2⟩
    rcases hmem k (by omega) t ht with h|⟨i,hi,rfl⟩
    ·refine hn xs[k] (AgC (by omega)) (AfQ.2 ⟨t,h,?_⟩)
     unfold ed
     rw[e1,e2]
     rfl
    ·rw[hget i (by omega)]at e1 e2
     have:=(Af4.1 hp) i k (by omega) (by omega) hi
     unfold C4 at this
     simp only[ADm]at e1 e2
     omega
  exact key _ (AfH _)
end Go.Pev.Pl
end
section
namespace Go.Pev.Pl
open Tok
theorem AXy(ts:List Tie):∀ k,k≤ts.length→trs ts k=((ts.take k).filter fun t=>t.2.2.2.1).map ed:=by
 intro k
 induction k with
 |zero=>intro _;simp[trs]
 |succ k ih=>
  intro hk
  have hk':k<ts.length:=by omega
  rw[X2,ih (by omega),Afw hk',AgS,AgM]
  simp only[Ae5,Ae8 hk',Afh]
  cases h:ts[k].2.2.2.1
  ·simp[h]
  ·simp[h]
theorem AFM(ts:List Tie):trs ts ts.length=(ts.filter fun t=>t.2.2.2.1).map ed:=by
 rw[AXy ts _ (AfH _),AgH]
end Go.Pev.Pl
end
section
namespace Go.Pev.Pl
open Tok
theorem AZ7{xs:List Edge}{bs:List Bool}(h:bs.length=xs.length):AQb xs bs xs.length=(xs.zip bs).map fun p=>ADm p.1 p.2:=by
 unfold AQb
 apply Ah5
 ·simp[h]
 ·intro i h1 h2
  have hi:i<xs.length:=by simpa using h1
  simp[hi,show i<bs.length by omega]
theorem AbY(ts:List Tie){xs:List Edge}{bs:List Bool}(h:bs.length=xs.length):(trs (XA ts xs bs xs.length) (XA ts xs bs xs.length).length).Perm (trs ts ts.length++sel xs bs):=by
 rw[AFM,AFM]
 refine(((Tz ts xs bs xs.length).filter _).map ed).trans ?_
 rw[AgS,AgM,AZ7 h,List.filter_map,List.map_map]
 exact List.Perm.refl _
theorem Aba(ts:List Tie)(xs:List Edge)(bs:List Bool):∀ k,(XA ts xs bs k).length=ts.length+k:=by
 intro k
 rw[(Tz ts xs bs k).length_eq]
 simp[AQb]
end Go.Pev.Pl
end
end
section
section
namespace Go.Pev.Pl
open Tok
def AUD(N:Nat)(l:List Edge):Prop:=∀ e∈l,In (N:Int) e.1∧In (N:Int) e.2.1
theorem AbK{N:Nat}(hN:N≤64)(ts:List Tie)(l:List Edge):∀ e∈Jy N ts l,In (N:Int) e.1∧In (N:Int) e.2.1:=by
 intro e he
 obtain⟨⟨a,b,c,_⟩,_⟩:=(Sr N ts l e).1 he
 exact⟨⟨by omega,by omega,a,by omega⟩,⟨by omega,by omega,by omega,c⟩⟩
end Go.Pev.Pl
end
section
namespace Go.Pev.Pl
open Tok
theorem AaW{N:Nat}(h1:1≤N)(hN:N≤64){a:Int}(h:0≤a∧a<(N:Int)):In (N:Int) a:=⟨by omega,by omega,h.1,h.2⟩
theorem AaX{N:Nat}{e:Edge}(h:In (N:Int) e.1∧In (N:Int) e.2.1):InE N e:=⟨⟨h.1.2.2.1,h.1.2.2.2⟩,⟨h.2.2.2.1,h.2.2.2.2⟩⟩
theorem Aea{N:Nat}(h1:1≤N)(hN:N≤64){l:List Edge}{out:List Int}(hc:LY (N:Int) l out):cnt out N=cc N l:=by
 unfold cnt cc
 rw[List.countP_eq_length_filter]
 congr 1
 refine Agz fun k hk => ?_
 have hk:k<N:=by simpa using hk
 have ik:=AaW h1 hN (a:=(k:Int)) ⟨by omega,by omega⟩
 have hg:out.getD k 0=cl out (k:Int):=by unfold cl;rw[Afy]
 rw[hg,Af9,AfZ,H3]
 constructor
 ·intro h j hj hcn
  have:=hc.least (k:Int) (j:Int) ik (AaW h1 hN ⟨by omega,by omega⟩) hcn.symm
  omega
 ·intro h
  have a1:=hc.isin _ ik
  have a2:=hc.con _ ik
  have a3:=hc.least (k:Int) (k:Int) ik ik (.refl _)
  obtain⟨m,hm⟩:=AfF a1.2.2.1
  rw[hm]at a2 a3 ⊢
  by_cases hlt:m<k
  ·exact absurd a2.symm (h m hlt)
  ·omega
theorem FC.congr{n:Int}{rings:List (List Int)}{l l':List Edge}(h:FC n rings l)(hm:∀ e∈l,e∈l')(hc:∀ e∈l',Con l e.1 e.2.1):FC n rings l':=
 ⟨h.fr,fun a b ia ib=>(h.sam a b ia ib).trans ⟨fun c=>c.sub hm,fun c=>c.cut hc⟩,fun A hA u v ho hu=>by
  obtain⟨e,he,q⟩:=h.arcs A hA u v ho hu
  exact⟨e,hm e he,q⟩⟩
theorem AKY{N:Nat}(h1:1≤N)(hN:N≤64){ts:List Tie}(hs:ts.length≤400)(ho:oks N ts):Ch (((N:Int),(ts,())),())=some (true,())↔Fo N (trs ts ts.length):=by
 have hlen:=AFL ts ts.length
 obtain⟨o,_,c⟩:=DG (N:Int) (trs ts ts.length) ⟨by omega,by omega⟩ (by omega) (AOG hN ho)
 rw[AKZ h1 hN hs ho c,Aea h1 hN c]
 unfold Fo
 constructor
 ·intro h
  have:decide ((cc N (trs ts ts.length):Int)=(N:Int)-(trs ts ts.length).length)=true:=by injection h with h;injection h
  have:=Agy this
  omega
 ·intro h
  rw[Ae3 (by omega)]
end Go.Pev.Pl
end
section
namespace Go.Pev.Pl
open Tok
end Go.Pev.Pl
end
section
namespace Go.Pev.Pl.SE
open Go.Sort
def ok(_:Int×Int×Unit):Prop:=True
def okz:Int×Int×Unit:=(0,0,())
theorem Z7:ok okz:=trivial
def lt(x y:Int×Int×Unit):Bool:=decide (x.1<y.1∨(x.1=y.1∧x.2.1<y.2.1))
theorem swo:SWO lt:=⟨fun x=>by simp[lt],fun x y z h1 h2=>by simp only[lt,Ae6]at *;omega,fun x y z h1 h2=>by simp only[lt,Afs]at *;omega⟩
end Go.Pev.Pl.SE
end
section
namespace Go.Pev.Pl.ST
open Go.Sort
def ok(_:Int×Int×Int×Bool×Unit):Prop:=True
def okz:Int×Int×Int×Bool×Unit:=(0,0,0,false,())
theorem Z7:ok okz:=trivial
def lt(x y:Int×Int×Int×Bool×Unit):Bool:=decide (x.1<y.1∨(x.1=y.1∧x.2.1<y.2.1))
theorem swo:SWO lt:=⟨fun x=>by simp[lt],fun x y z h1 h2=>by simp only[lt,Ae6]at *;omega,fun x y z h1 h2=>by simp only[lt,Afs]at *;omega⟩
end Go.Pev.Pl.ST
end
section
namespace Go.Pev.Pl
open Tok
section
variable {α β:Type} [DecidableEq α]
end
end Go.Pev.Pl
end
section
namespace Go.Pev.Pl
open Tok
theorem Ab4:∀ (xs b:List Edge),sel xs (gfl b xs)=LX b xs:=by
 intro xs
 induction xs with
 |nil=>intro b;rfl
 |cons x xs ih=>
  intro b
  have:=ih (b++[x])
  unfold sel at *
  rw[gfl,LX,List.zip_cons_cons,AgA]
  by_cases h:EG b x.1 x.2.1=true
  ·simp[h,this]
  ·simp[h,this]
theorem Adh{N:Nat}{b xs:List Edge}(h:Fo N b)(hx:∀ e∈xs,InE N e):Fo N (b++LX b xs):=by
 have h1:=Nl xs b hx
 have h2:cc N (b++xs)=cc N (b++LX b xs):=ABa fun a c=>ABV xs b
 unfold Fo at *
 rw[AfC]
 omega
theorem UN{N:Nat}(hN:N≤64):0≤Hi N:=by
 have:((List.range 65).all fun k=>decide (0≤Hi k))=true:=by kernel_rfl
 exact Agy (AfT.1 this N (by simp;omega))
noncomputable def grown(N:Nat)(ts:List Tie)(l:List Edge):List Tie:=XA ts (Jy N ts l) (gfl (trs ts ts.length) (Jy N ts l)) (Jy N ts l).length
theorem AWq(N:Nat)(ts:List Tie)(l:List Edge):(grown N ts l).length=ts.length+(Jy N ts l).length:=Aba ..
theorem AWo(N:Nat)(ts:List Tie)(l:List Edge):(trs (grown N ts l) (grown N ts l).length).Perm (trs ts ts.length++LX (trs ts ts.length) (Jy N ts l)):=by
 have:=AbY ts (xs:=Jy N ts l) (bs:=gfl (trs ts ts.length) (Jy N ts l)) (AdL _ _)
 rw[Ab4]at this
 exact this
theorem AWp{N:Nat}(hN:N≤64){ts:List Tie}(ho:oks N ts)(l:List Edge):oks N (grown N ts l):=
 AbZ ho (UN hN) _ (ASN N ts l) (fun e he=>by
  obtain⟨⟨a,b,c,_⟩,_⟩:=(Sr N ts l e).1 he
  exact⟨a,b,c⟩) (fun e he=>((Sr N ts l e).1 he).2)
theorem AXM{N:Nat}(hN:N≤64)(ts:List Tie)(l:List Edge):∀ e∈Jy N ts l,InE N e:=fun e he=>AaX (AbK hN ts l e he)
theorem Aao{N:Nat}(hN:N≤64){ts:List Tie}(h:Fo N (trs ts ts.length))(l:List Edge):Fo N (trs (grown N ts l) (grown N ts l).length):=
 (Adh h (AXM hN ts l)).perm (AWo N ts l).symm
structure RG2(N:Nat)(ts:List Tie):Prop where
 h1:1≤N
 hN:N≤64
 ht:ts.length≤400
 oks:oks N ts
 fo:Fo N (trs ts ts.length)
theorem RG2.r21{N:Nat}{ts:List Tie}(h:RG2 N ts):Ch (((N:Int),(ts,())),())=some (true,()):=(AKY h.h1 h.hN h.ht h.oks).2 h.fo
theorem RG2.lr{N:Nat}{ts:List Tie}(h:RG2 N ts):Fv (((N:Int),(ts,())),())=some (true,()):=by
 obtain⟨b,h1,h2,_⟩:=ABl (N:Int) ts (by have:=h.ht;omega)
 rw[h.r21]at h1
 cases h1
 exact h2
theorem JX(n:Int)(ts:List Tie)(hl:ts.length<4611686018427387904):(Ch ((n,(ts,())),())=some (false,())∧Fv ((n,(ts,())),())=some (false,()))∨∃ N:Nat,n=(N:Int)∧RG2 N ts:=by
 obtain⟨b,h1,h2,h3⟩:=ABl n ts hl
 cases b
 ·exact .inl ⟨h1,h2⟩
 ·obtain⟨N,rfl,q1,q2,q3,q4⟩:=h3 rfl
  exact .inr ⟨N,rfl,q1,q2,q3,q4,(AKY q1 q2 q3 q4).1 h1⟩
theorem RG2.inE{N:Nat}{ts:List Tie}(h:RG2 N ts):∀ e∈ts.map ed,In (N:Int) e.1∧In (N:Int) e.2.1:=AeY h.hN h.oks
theorem RG2.grown{N:Nat}{ts:List Tie}(h:RG2 N ts){l:List Edge}(hf:ts.length+(Jy N ts l).length≤400):RG2 N (grown N ts l):=
 ⟨h.h1,h.hN,by rw[AWq];exact hf,AWp h.hN h.oks l,Aao h.hN h.fo l⟩
end Go.Pev.Pl
end
section
namespace Go.Pev.Pl
open Tok
def Bo(u v:Int)(t:Tie):Bool:=decide (t.1=min u v∧t.2.1=max u v)
theorem ARs{N:Nat}{ts:List Tie}(h:RG2 N ts)(u v:Int):ARt (((N:Int),(ts,())),u,v,())=some (if ts.any (Bo u v)then((ts.findIdx (Bo u v):Nat):Int)else -1,()):=by
 have ht:=h.ht
 rw[AXB,AA4]
 simp only[h.r21,AfB]
 have e:=Fg (step:=Jr) (fun i=>(u,v,(N:Int),ts,(i:Int),())) ts (Bo u v) (fun i=>.inl ((i:Int),())) (.inr (.inl ())) (by omega)
  (fun i x hi hx=>by
   rw[Jr,AK,AI,Ae3 hi]
   simp only[Ac hx,Ir,Qg,Ak]
   rw[AG (by omega)]
   unfold Bo
   by_cases h1:x.1=min u v
   ·by_cases h2:x.2.1=max u v
    ·rw[Ae3 h1,Ae3 h2,Ae3 (show x.1=min u v∧x.2.1=max u v from⟨h1,h2⟩)]
     rfl
    ·rw[Ae3 h1,Ae2 h2,Ae2 (fun h:x.1=min u v∧x.2.1=max u v=>h2 h.2)]
     rfl
   ·rw[Ae2 h1,Ae2 (fun h:x.1=min u v∧x.2.1=max u v=>h1 h.1)]
    rfl)
  (by rw[Jr,AK,AI,Ae2 (by omega)])
 have e':AR Jr many (u,v,(N:Int),ts,(0:Int),())=_:=e
 rw[e']
 by_cases ha:ts.any (Bo u v)=true
 ·rw[AfJ ha,AfJ ha]
 ·rw[AfE ha,AfE ha]
theorem Aa4{N:Nat}{ts:List Tie}(ho:oks N ts){t:Tie}(hm:t∈ts):ts.any (Bo t.1 t.2.1)=true∧∃ k,ts.findIdx (Bo t.1 t.2.1)=k∧k<ts.length∧ts[k]? = some t:=by
 obtain⟨hv,hp⟩:=(KR N ts).1 ho
 obtain⟨_,hlt,_⟩:=hv t hm
 have hself:Bo t.1 t.2.1 t=true:=by
  unfold Bo
  rw[Ahq (by omega),AiB (by omega)]
  simp
 refine⟨AgB.2 ⟨t,hm,hself⟩,_,rfl,AgT.2 ⟨t,hm,hself⟩,?_⟩
 have hk:ts.findIdx (Bo t.1 t.2.1)<ts.length:=AgT.2 ⟨t,hm,hself⟩
 have hg:=Ahh (xs:=ts) (p:=Bo t.1 t.2.1) (w:=hk)
 rw[Ae8 hk]
 obtain⟨j,hj,rfl⟩:=Af7 hm
 generalize ts.findIdx (Bo ts[j].1 ts[j].2.1)=k at hk hg
 unfold Bo at hg
 rw[Ahq (by omega),AiB (by omega),AfZ]at hg
 rw[Af4]at hp
 unfold ahead at hp
 rcases AhJ j k with h|h|h
 ·have:=hp j k hj hk h;omega
 ·subst h;rfl
 ·have:=hp k j hk hj h;omega
end Go.Pev.Pl
end
end
section
namespace Go.Pev.Pl
open Tok
theorem AX0(ts:List Tie)(t:Tie)(k:Int):trk (ts++[t]) k=trk ts k++if t.2.2.2.1=true∧k≤t.2.2.1 then [ed t]else []:=by
 rw[Bf]
 congr 1
 unfold trk
 rw[AgA]
 by_cases h:t.2.2.2.1=true∧k≤t.2.2.1
 ·rw[AfJ h,h.1,Ae3 h.2];rfl
 ·rw[AfE h,AfE]
  ·rfl
  ·rw[Ae9,Ae6];exact h
theorem AJl(k:Int):∀ (ts a:List Tie) (acc:List Edge),acc=trk a k→ts.foldl (fun acc t=>if t.2.2.2.1=true∧k≤t.2.2.1 then acc++[ed t]else acc) acc=trk (a++ts) k:=by
 intro ts
 induction ts with
 |nil=>intro a acc h;simpa using h
 |cons t ts ih=>
  intro a acc h
  rw[Af0,ih (a++[t])]
  ·simp
  ·rw[AX0,← h]
   split<;>simp
theorem ASy(ts:List Tie)(k:Int):(trk ts k).length≤ts.length:=by
 unfold trk
 rw[Afd]
 exact Agg _ _
theorem AFN(ts:List Tie)(k:Int):∀ e∈trk ts k,e∈ts.map ed:=by
 intro e he
 obtain⟨t,h1,_,_,rfl⟩:=C0.1 he
 exact AfQ.2 ⟨t,h1,rfl⟩
theorem AMJ(n:Int)(ts:List Tie)(hs:ts.length≤400)(k:Int):Ow ((n,(ts,())),k,())=some (trk ts k,()):=by
 rw[S6,MG]
 have e:=Cj (step:=Cm) (fun i (a:List Edge)=>(k,a,ts,AM ts,(i:Int),())) ts (fun t a=>.inl (if t.2.2.2.1=true∧k≤t.2.2.1 then a++[ed t]else a)) (fun a=>.inl (a,())) (fun i a=>a.length≤i) (by omega)
  (fun i x a hi hx ha=>by
   refine⟨fun m' h' => ?_,fun r h'=>(by cases h')⟩
   cases h'
   constructor
   ·rw[Cm,AK,AI,Ae3 hi]
    simp only[Ac hx,AK]
    rw[AG (by omega),Ap,BE (by simp only[AfD,AfO];omega)]
    cases h4:x.2.2.2.1
    ·simp
    ·by_cases h5:k≤x.2.2.1
     ·simp[h5,ed,A5]
     ·simp[h5]
   ·split
    ·rw[AfC];simp;omega
    ·omega)
  (fun a _=>by rw[Cm,AK,AI,Ae2 (by omega)]) [] (AfH _)
 have e':AR Cm many (k,[],ts,AM ts,(0:Int),())=_:=e
 simp only[e']
 rw[BJ (fun(t:Tie) (a:List Edge)=>if t.2.2.2.1=true∧k≤t.2.2.1 then a++[ed t]else a),AJl k ts [] [] rfl]
 rfl
theorem Mz(n:Int)(ts:List Tie)(hs:ts.length≤400)(k:Int):Ii ((n,(ts,())),k,())=some (trk ts k,()):=by
 rw[YA,M0]
 have e:=Cj (step:=ET) (fun i (a:List Edge)=>(k,n,ts,a,(i:Int),())) ts (fun t a=>.inl (if t.2.2.2.1=true∧k≤t.2.2.1 then a++[ed t]else a)) (fun a=>.inl (a,())) (fun i a=>a.length≤i) (by omega)
  (fun i x a hi hx ha=>by
   refine⟨fun m' h' => ?_,fun r h'=>(by cases h')⟩
   cases h'
   constructor
   ·rw[ET,AK,AI,Ae3 hi]
    simp only[Ac hx,AK]
    rw[AG (by omega),Ap,BE (by simp only[AfD,AfO];omega)]
    cases h4:x.2.2.2.1
    ·simp
    ·by_cases h5:k≤x.2.2.1
     ·simp[h5,ed,A5]
     ·simp[h5]
   ·split
    ·rw[AfC];simp;omega
    ·omega)
  (fun a _=>by rw[ET,AK,AI,Ae2 (by omega)]) [] (AfH _)
 have e':AR ET many (k,n,ts,[],(0:Int),())=_:=e
 simp only[e']
 rw[BJ (fun(t:Tie) (a:List Edge)=>if t.2.2.2.1=true∧k≤t.2.2.1 then a++[ed t]else a),AJl k ts [] [] rfl]
 rfl
theorem AJj{N:Nat}{ts:List Tie}(h:oks N ts):trs ts ts.length=trk ts 0:=by
 rw[AFM]
 unfold trk
 congr 1
 refine Agz fun t ht => ?_
 have:=((KR N ts).1 h).1 t ht
 rw[Ae3 this.2.2.2.1,Ahk]
theorem RG2.fo0{N:Nat}{ts:List Tie}(h:RG2 N ts):Fo N (trk ts 0):=by rw[← AJj h.oks];exact h.fo
theorem RG2.inK{N:Nat}{ts:List Tie}(h:RG2 N ts)(k:Int):∀ e∈trk ts k,In (N:Int) e.1∧In (N:Int) e.2.1:=fun e he=>h.inE e (AFN ts k e he)
theorem RG2.AeQ{N:Nat}{ts:List Tie}(h:RG2 N ts)(k:Int):(trk ts k).length≤400:=AgD (ASy ts k) h.ht
theorem RG2.AeV{N:Nat}{ts:List Tie}(h:RG2 N ts)(k:Int):∃ zs,NY (((N:Int),(ts,())),k,())=some (((N:Int),(zs,())),0,())∧FC (N:Int) zs (trk ts k):=by
 have hl:=h.AeQ k
 have h1:=h.h1
 have hN:=h.hN
 rcases(AT0 (N:Int) (trk ts k) ⟨by omega,by omega⟩ (by omega)).symm with⟨hno,_⟩|⟨_,zs,e,hF⟩
 ·exact absurd (h.inK k) hno
 refine⟨zs,?_,hF⟩
 rw[Ox,Jh]
 simp only[h.lr,AfB,AMJ (N:Int) ts h.ht k,e]
theorem RG2.AT6{N:Nat}{ts:List Tie}(h:RG2 N ts)(k:Int):∃ out,DH ((N:Int),trk ts k,())=some (out,())∧LY (N:Int) (trk ts k) out:=by
 have:=h.AeQ k
 have h1:=h.h1
 have hN:=h.hN
 exact DG (N:Int) (trk ts k) ⟨by omega,by omega⟩ (by omega) (h.inK k)
end Go.Pev.Pl
end
section
namespace Go.Pev.Pl
open Tok
noncomputable def Ik(p:Prop):Bool:=@decide p (Classical.propDecidable _)
theorem Dq(p:Prop):Ik p=true↔p:=by
 unfold Ik
 exact @decide_eq_true_iff _ (Classical.propDecidable _)
theorem P7{p:Prop}{b:Bool}(h:b=true↔p):b=Ik p:=by rw[Af9,Dq];exact h
def WI(ts:List Tie):Prop:=∀ e∈ts.map ed,Con (trk ts 0) e.1 e.2.1
def AI8(ts:List Tie):Prop:=∀ t∈ts,t.2.2.2.1=false→Con (trk ts t.2.2.1) t.1 t.2.1
def RJ(N:Nat)(ts:List Tie):Prop:=∀ k:Nat,(k:Int)≤Hi N→∀ v:Nat,v<N→csz N (trk ts k) v≤max 1 (N/2 ^ k)
theorem AXT{N:Nat}(h1:1≤N)(hN:N≤64){l l':List Edge}{o o':List Int}(hc:LY (N:Int) l o)(hc':LY (N:Int) l' o')(hl:∀ e∈l,In (N:Int) e.1∧In (N:Int) e.2.1)(hl':∀ e∈l',In (N:Int) e.1∧In (N:Int) e.2.1):
  o=o'↔(∀ e∈l,Con l' e.1 e.2.1)∧(∀ e∈l',Con l e.1 e.2.1):=by
 constructor
 ·rintro rfl
  refine⟨fun e he => ?_,fun e he => ?_⟩
  ·obtain⟨i1,i2⟩:=hl e he
   exact(hc'.same _ _ i1 i2).1 ((hc.same _ _ i1 i2).2 (.edge e he))
  ·obtain⟨i1,i2⟩:=hl' e he
   exact(hc.same _ _ i1 i2).1 ((hc'.same _ _ i1 i2).2 (.edge e he))
 ·rintro⟨q1,q2⟩
  exact LY.unique h1 hN hc (LY.congr (fun a b=>⟨fun c=>c.cut q2,fun c=>c.cut q1⟩) hc')
noncomputable def AQX(ts:List Tie)(t:Tie):Bool := !t.2.2.2.1 && !EG (trk ts t.2.2.1) t.1 t.2.1
theorem Acb(ts:List Tie):(!ts.any (AQX ts))=Ik (AI8 ts):=by
 refine P7 ?_
 rw[AgI,Ag0]
 unfold AQX AI8
 constructor
 ·intro h t ht hf
  have:=h t ht
  rw[hf]at this
  rw[← BW]
  simpa using this
 ·intro h t ht
  cases hf:t.2.2.2.1
  ·have:=h t ht hf
   rw[← BW]at this
   simp[this]
  ·simp
theorem RG2.tie{N:Nat}{ts:List Tie}(h:RG2 N ts){t:Tie}(ht:t∈ts):In (N:Int) t.1∧In (N:Int) t.2.1∧t.1<t.2.1∧0≤t.2.2.1∧t.2.2.1≤Hi N:=by
 have h1:=((KR N ts).1 h.oks).1 t ht
 have h2:=h.inE (ed t) (AfQ.2 ⟨t,ht,rfl⟩)
 exact⟨h2.1,h2.2,h1.2.1,h1.2.2.2.1,h1.2.2.2.2⟩
end Go.Pev.Pl
end
section
namespace Go.Pev.Pl
open Tok
noncomputable def AIw(N:Nat)(ts:List Tie)(k:Nat):Bool:=(List.range N).any fun v=>decide (max 1 (N/2 ^ k)<csz N (trk ts k) (v:Int))
def Be(N:Nat):Nat:=(Hi N).toNat
theorem EK{N:Nat}(hN:N≤64):Hi N=(Be N:Int):=by
 have:=UN hN
 unfold Be
 omega
theorem AFV{N:Nat}(hN:N≤64):Be N<64:=by
 have:((List.range 65).all fun k=>decide (Hi k<64))=true:=by kernel_rfl
 have h1:=Agy (AfT.1 this N (by simp;omega))
 have:=EK hN
 omega
theorem AbV{N:Nat}(hN:N≤64)(ts:List Tie):(!(List.range (Be N+1)).any (AIw N ts))=Ik (RJ N ts):=by
 refine P7 ?_
 rw[AgI,Ag0]
 unfold AIw RJ
 constructor
 ·intro h k hk v hv
  have h1:=h k (by rw[Af3];have:=EK hN;omega)
  rw[AiC,Ag0]at h1
  have:=h1 v (by simpa using hv)
  rw[AfZ]at this
  omega
 ·intro h k hk
  rw[Af3]at hk
  rw[AiC,Ag0]
  intro v hv
  have:=h k (by rw[EK hN];omega) v (by simpa using hv)
  rw[AfZ]
  omega
theorem Ng(N:Nat)(l:List Edge)(v:Int):csz N l v≤N:=by
 unfold csz
 have:=List.countP_le_length (p:=fun(w:Nat)=>EG l v (w:Int)) (l:=List.range N)
 rw[Afb]at this
 exact this
theorem AXm(n:Nat)(h:n<18446744073709551616):IntKind.wrap .u64 (n:Int)=(n:Int):=IntWalk.u64_in _ (by omega)
theorem RG2.snd{N:Nat}{ts:List Tie}(h:RG2 N ts)(hs:WI ts∧AI8 ts∧RJ N ts):Snd N (Be N:Int) ts:=by
 refine⟨fun x hx => ?_,fun x hx=>AaX (h.inE _ (AfQ.2 ⟨x,hx,rfl⟩)),h.fo0,hs.2.1,fun k hk v hv=>hs.2.2 k (by rw[EK h.hN];exact hk) v hv⟩
 rw[← EK h.hN]
 exact(h.tie hx).2.2.2
theorem Snd.parts{N:Nat}{ts:List Tie}(h:RG2 N ts)(hs:Snd N (Be N:Int) ts):WI ts∧AI8 ts∧RJ N ts:=by
 refine⟨fun e he=>(hs.span _ _).1 (.edge e he),hs.lie,fun k hk v hv=>hs.halv k (by rw[← EK h.hN];exact hk) v hv⟩
end Go.Pev.Pl
end
section
namespace Go.Pev.Pl
open Tok
theorem Abp{N:Nat}(hN:N≤64):N/2 ^ Be N≤1:=by
 have:((List.range 65).all fun k=>decide (k/2 ^ Be k≤1))=true:=by kernel_rfl
 exact Agy (AfT.1 this N (by simp;omega))
theorem RG2.below{N:Nat}{ts:List Tie}(h:RG2 N ts)(hs:Snd N (Be N:Int) ts){t:Tie}(ht:t∈ts):t.2.2.1<(Be N:Int):=
 hs.below (Abp h.hN) ht (by have:=(h.tie ht).2.2.1;omega)
end Go.Pev.Pl
end
section
namespace Go.Pev.Pl
open Tok
noncomputable def Eb(N:Nat)(l:List Edge)(v:Int):List Int:=((List.range N).filter fun(w:Nat)=>EG l v (w:Int)).map fun(w:Nat)=>(w:Int)
theorem Hz(N:Nat)(l:List Edge)(v:Int):(Eb N l v).length=csz N l v:=by
 unfold Eb csz
 rw[Afd,List.countP_eq_length_filter]
theorem AAB{N:Nat}{l:List Edge}{v x:Int}:x∈Eb N l v↔(0≤x∧x<(N:Int))∧Con l v x:=by
 unfold Eb
 simp only[AfQ,Afe,Af3,BW]
 constructor
 ·rintro⟨w,⟨h1,h2⟩,rfl⟩
  exact⟨by omega,h2⟩
 ·rintro⟨⟨h1,h2⟩,h3⟩
  obtain⟨w,rfl⟩:=AfF h1
  exact⟨w,⟨by omega,h3⟩,rfl⟩
theorem EC{N:Nat}(h1:1≤N)(hN:N≤64)(ts:List Tie)(ht:ts.length≤400)(hin:∀ e∈ts.map ed,In (N:Int) e.1∧In (N:Int) e.2.1)(v:Nat)(hv:v<N)(k:Int):Fu (((N:Int),(ts,())),(v:Int),k,())=some (Eb N (trk ts k) (v:Int),()):=by
 obtain⟨o,e1,c1⟩:=DG (N:Int) (trk ts k) ⟨by omega,by omega⟩ (by have:=ASy ts k;omega) (fun e he=>hin e (AFN ts k e he))
 have ho:o.length=N:=by have:=c1.len;omega
 have hi:∀ k:Nat,k<N→In (N:Int) (k:Int):=fun k hk=>AaW h1 hN ⟨by omega,by omega⟩
 have hg:∀ k:Nat,o.getD k 0=cl o (k:Int):=fun k=>by unfold cl;rw[Afy]
 rw[QS,Ip]
 simp only[Mz (N:Int) ts ht,e1]
 have e:=Cj (step:=Cz) (fun i (a:List Int)=>((v:Int),(N:Int),ts,o,a,(i:Int),())) (List.range N) (fun(w:Nat) a=>.inl (if EG (trk ts k) (v:Int) (w:Int)=true then a++[(w:Int)]else a)) (fun a=>.inl (a,())) (fun i a=>a.length≤i) (by simp;omega)
  (fun i x a hx0 hx ha=>by
   refine⟨fun m' h' => ?_,fun r h'=>(by cases h')⟩
   cases h'
   have:=Cb hx
   subst this
   rw[Afb]at hx0
   constructor
   ·rw[Cz,AI,Ae3 hx0]
    simp only[CV 0 (show x<o.length by omega),CV 0 (show v<o.length by omega),Ee,Ak]
    rw[BE (by simp only[AK,AfD,AfO];omega),AG (by omega)]
    have:decide (o.getD x 0=o.getD v 0)=EG (trk ts k) (v:Int) (x:Int):=by
     rw[Af9,AfZ,BW,hg,hg,c1.same _ _ (hi x hx0) (hi v hv)]
     exact⟨fun c=>c.symm,fun c=>c.symm⟩
    rw[this]
    cases EG (trk ts k) (v:Int) (x:Int)<;>simp[A5]
   ·split
    ·rw[AfC];simp;omega
    ·omega)
  (fun a _=>by rw[Cz,Afb,AI,Ae2 (by omega)]) [] (AfH _)
 have e':AR Cz many ((v:Int),(N:Int),ts,o,[],(0:Int),())=_:=e
 simp only[e']
 rw[BJ (fun(w:Nat) (a:List Int)=>if EG (trk ts k) (v:Int) (w:Int)=true then a++[(w:Int)]else a),HH (fun w:Nat=>EG (trk ts k) (v:Int) (w:Int)=true) (fun w:Nat=>(w:Int))]
 unfold Eb
 simp
theorem Nb(l:List Int)(x:Int)(hs:l.length<1073741824):MS (l,x,())=some (decide (x∈l),()):=by
 rw[Aal,AH0]
 have e:=Fg (step:=MR) (fun i=>(l,x,(i:Int),())) l (fun y=>decide (y=x)) (fun _=>.inl (true,())) (.inr (.inl ())) (by omega)
  (fun i y hi hy=>by
   rw[MR,AK,AI,Ae3 hi]
   simp only[Ac hy,Ak]
   rw[AG (by omega)]
   by_cases h:y=x<;>simp[h])
  (by rw[MR,AK,AI,Ae2 (by omega)])
 have e':AR MR many (l,x,(0:Int),())=_:=e
 simp only[e']
 rw[AI3]
 by_cases h:x∈l
 ·simp[h]
 ·simp[h]
theorem Qd(n:Int)(ts:List Tie)(v:Int):AMb ((n,(ts,())),v,())=some (decide (0≤v∧v<n),()):=by
 rw[Ac5,ARV,Ap]
 by_cases h:0≤v
 ·rw[Ae3 h,Am]
  by_cases h2:v<n
  ·rw[Ae3 h2,Ae3 (show 0≤v∧v<n from⟨h,h2⟩)]
  ·rw[Ae2 h2,Ae2 (fun q:0≤v∧v<n=>h2 q.2)]
 ·rw[Ae2 h,Ae2 (fun q:0≤v∧v<n=>h q.1)]
noncomputable def BO(N:Nat)(ts:List Tie)(u v k:Int):List Int:=
 if Ik (RG2 N ts)=true then
  if EG (trk ts k) u v=true then []else
  if csz N (trk ts k) u<csz N (trk ts k) v∨(csz N (trk ts k) u=csz N (trk ts k) v∧(Eb N (trk ts k) u).headD 0<(Eb N (trk ts k) v).headD 0)then Eb N (trk ts k) u else Eb N (trk ts k) v
 else []
theorem ADt(N:Nat)(ts:List Tie)(u v k:Int):(BO N ts u v k).length≤N:=by
 unfold BO
 have h1:=Ng N (trk ts k) u
 have h2:=Ng N (trk ts k) v
 split
 ·split
  ·simp
  ·split
   ·rw[Hz];exact h1
   ·rw[Hz];exact h2
 ·simp
theorem NP{N:Nat}{l:List Edge}{v:Nat}(hv:v<N):idx (Eb N l (v:Int)) (0:Int)=some ((Eb N l (v:Int)).headD 0):=by
 have:(v:Int)∈Eb N l (v:Int):=AAB.2 ⟨⟨by omega,by omega⟩,.refl _⟩
 cases hm:Eb N l (v:Int)with
 |nil=>rw[hm]at this;cases this
 |cons a b=>rw[FG];rfl
theorem YT{N:Nat}(hN:N≤64)(ts:List Tie)(ht:ts.length≤400)(u v:Nat)(hu:u<N)(hv:v<N)(k:Int):∃ e,AF2 (((N:Int),(ts,())),(u:Int),(v:Int),k,())=some (BO N ts u v k,e,()):=by
 rw[R9,Lh]
 rcases JX (N:Int) ts (by omega)with⟨r,_⟩|⟨N',hn,h⟩
 ·have:Ik (RG2 N ts)=false:=by
   rw[← AiC,Dq]
   intro h
   rw[h.r21]at r;cases r
  refine⟨1,?_⟩
  unfold BO
  rw[this]
  simp only[r,AfX]
  rfl
 ·have:N'=N:=by omega
  subst this
  have hu1:=EC h.h1 h.hN ts ht h.inE u hu k
  have hv1:=EC h.h1 h.hN ts ht h.inE v hv k
  have l1:=Hz N' (trk ts k) (u:Int)
  have l2:=Hz N' (trk ts k) (v:Int)
  have b1:=Ng N' (trk ts k) (u:Int)
  have hh:=Nb (Eb N' (trk ts k) (u:Int)) (v:Int) (by omega)
  have hd:decide ((v:Int)∈Eb N' (trk ts k) (u:Int))=EG (trk ts k) (u:Int) (v:Int):=by
   rw[Af9,AfZ,BW,AAB]
   exact⟨fun q=>q.2,fun q=>⟨⟨by omega,by omega⟩,q⟩⟩
  rw[hd]at hh
  unfold BO
  rw[(Dq _).2 h,AfJ rfl]
  simp only[h.r21,AfB,Qd,hu1,hv1,hh]
  rw[Ae3 (show 0≤(u:Int)∧(u:Int)<(N':Int) by omega),Ae3 (show 0≤(v:Int)∧(v:Int)<(N':Int) by omega)]
  simp only[AfB]
  cases hc:EG (trk ts k) (u:Int) (v:Int)
  ·simp only[AfI,AfK,AK,l1,l2,AI,Qh]
   by_cases q1:csz N' (trk ts k) (u:Int)<csz N' (trk ts k) (v:Int)
   ·rw[Ae3 q1,AfJ (.inl q1)]
    exact⟨0,rfl⟩
   ·rw[Ae2 q1]
    by_cases q2:csz N' (trk ts k) (u:Int)=csz N' (trk ts k) (v:Int)
    ·rw[Ae3 q2]
     have hg:∀ l:List Int,AL l 0 0=l.headD 0:=fun l=>by cases l<;>rfl
     simp only[NP hu,NP hv,hg,Am]
     by_cases q3:(Eb N' (trk ts k) (u:Int)).headD 0<(Eb N' (trk ts k) (v:Int)).headD 0
     ·rw[Ae3 q3,AfJ (.inr ⟨q2,q3⟩)]
      exact⟨0,rfl⟩
     ·rw[Ae2 q3,AfE (fun q=>by rcases q with q|q;exact q1 q;exact q3 q.2)]
      exact⟨0,rfl⟩
    ·rw[Ae2 q2,AfE (fun q=>by rcases q with q|q;exact q1 q;exact q2 q.1)]
     exact⟨0,rfl⟩
  ·simp only[AfY]
   exact⟨5,rfl⟩
end Go.Pev.Pl
end
section
namespace Go.Pev.Pl
open Tok
abbrev W23:=Int×Bool×Bool×Int×Int×Int×Int×Int×Int×Bool
theorem Pj{α:Type}{A R:List α}{x:α}{i:Nat}(h:A.length=i):(A++x::R)[i]? = some x:=by
 rw[Afu (by omega),h,Agu];rfl
theorem J6{α:Type}{A R:List α}{x y:α}{i:Nat}(h:A.length=i):An (A++x::R) (AE (i:Int)) y=A++y::R:=by
 rw[ABD,List.set_append_right _ _ (by omega),h,Agu];rfl
noncomputable def AY(s:List Int)(w:Int):Bool:=decide (w∈s)
def Fc(S:Int→Bool)(i:Int)(ts:List Tie):Nat:=ts.countP fun t=>t.2.2.2.1&&(decide (t.2.2.1=i)&&both S t)
theorem AL5(w:W23)(wt wf:Bool)(bu bv top:Int)(i:Nat)(hi:i<64)(s:List Int)(hs:s.length≤64)(n:Int)(b:Bool)(O:List Tie)(hO:O.length≤400)(r:Nat)(hr:r<1073741824):
  AR Jc many (w.1,w.2.1,w.2.2.1,w.2.2.2.1,w.2.2.2.2.1,w.2.2.2.2.2.1,w.2.2.2.2.2.2.1,w.2.2.2.2.2.2.2.1,w.2.2.2.2.2.2.2.2.1,w.2.2.2.2.2.2.2.2.2,n,O,wt,wf,bu,bv,(r:Int),top,(i:Int),s,(0:Int),b,()) =
  some (.inl (w.1,w.2.1,w.2.2.1,w.2.2.2.1,w.2.2.2.2.1,w.2.2.2.2.2.1,w.2.2.2.2.2.2.1,w.2.2.2.2.2.2.2.1,w.2.2.2.2.2.2.2.2.1,w.2.2.2.2.2.2.2.2.2,n,O.map (rT (AY s) top i),wt,wf,bu,bv,((r+Fc (AY s) i O:Nat):Int),top,(i:Int),s,b,())):=by
 obtain⟨w0,w1,w2,w3,w4,w5,w6,w7,w8,w9⟩:=w
 simp only
 have key:∀ (R A:List Tie) (j cnt q:Nat),A.length=j→A.length+R.length=O.length→R.length<cnt→q+R.length<2147483648 →
   AP Jc cnt (w0,w1,w2,w3,w4,w5,w6,w7,w8,w9,n,A++R,wt,wf,bu,bv,(q:Int),top,(i:Int),s,(j:Int),b,()) =
   some (.inl (w0,w1,w2,w3,w4,w5,w6,w7,w8,w9,n,A++R.map (rT (AY s) top i),wt,wf,bu,bv,((q+Fc (AY s) i R:Nat):Int),top,(i:Int),s,b,())):=by
  intro R
  induction R with
  |nil=>
   intro A j cnt q hA hl hc hq
   obtain⟨cnt,rfl⟩:∃ c,cnt=c+1:=⟨cnt-1,by omega⟩
   rw[AP,Jc,AK,AI,Ae2 (by simp;omega)]
   simp[Fc]
  |cons x R ih=>
   intro A j cnt q hA hl hc hq
   obtain⟨cnt,rfl⟩:∃ c,cnt=c+1:=⟨cnt-1,by omega⟩
   rw[AfD]at hl hc hq
   have hg:=Pj (R:=R) (x:=x) hA
   have next:∀ (y:Tie) (q':Nat),q'+R.length<2147483648→rT (AY s) top i x=y→q'+Fc (AY s) i R=q+Fc (AY s) i (x::R) →
     AP Jc cnt (w0,w1,w2,w3,w4,w5,w6,w7,w8,w9,n,A++y::R,wt,wf,bu,bv,(q':Int),top,(i:Int),s,((j+1:Nat):Int),b,()) =
     some (.inl (w0,w1,w2,w3,w4,w5,w6,w7,w8,w9,n,A++(x::R).map (rT (AY s) top i),wt,wf,bu,bv,((q+Fc (AY s) i (x::R):Nat):Int),top,(i:Int),s,b,())):=by
    intro y q' hq' hy hcnt
    have:=ih (A++[y]) (j+1) cnt q' (by simp[hA]) (by simp;omega) (by omega) hq'
    rw[Afm]at this
    rw[AgN]at this
    rw[this,hcnt,AfR,hy,Afm]
    rfl
   have hcc:Fc (AY s) i (x::R)=Fc (AY s) i R+if(x.2.2.2.1&&(decide (x.2.2.1=(i:Int))&&both (AY s) x))=true then 1 else 0:=by
    unfold Fc
    rw[AhE]
   rw[AP,Jc,AK,AI,Ae3 (by simp;omega)]
   simp only[Ac hg,CN hg]
   rw[AG (show j+1<9223372036854775808 by omega),AG (show q+1<9223372036854775808 by omega),Ak]
   simp only[Nb s _ (show s.length<1073741824 by omega)]
   cases h4:x.2.2.2.1
   ·simp only[]
    refine next x q (by omega) ?_ ?_
    ·exact Es h4
    ·rw[hcc,h4];simp
   ·by_cases h3:x.2.2.1=(i:Int)
    ·rw[Ae3 h3]
     simp only[]
     by_cases h1:x.1∈s
     ·rw[Ae3 h1]
      simp only[]
      by_cases h2:x.2.1∈s
      ·rw[Ae3 h2]
       simp only[]
       have hb:both (AY s) x=true:=by unfold both AY;rw[Ae3 h1,Ae3 h2];rfl
       rw[J6 hA,Ir,AG (show i+1<9223372036854775808 by omega)]
       refine next _ (q+1) (by omega) ?_ ?_
       ·unfold rT
        rw[AfJ ⟨h4,h3,hb⟩]
        unfold E7
        rw[h3,h4]
        rfl
       ·rw[hcc,h4,Ae3 h3,hb];simp;omega
      ·rw[Ae2 h2]
       simp only[]
       have hb:both (AY s) x=false:=by unfold both AY;rw[Ae2 h2,AhO]
       refine next x q (by omega) ?_ ?_
       ·unfold rT
        rw[AfE (fun hh=>by rw[hb]at hh;exact absurd hh.2.2 (by simp))]
       ·rw[hcc,hb];simp
     ·rw[Ae2 h1]
      simp only[]
      have hb:both (AY s) x=false:=by unfold both AY;rw[Ae2 h1,Aga]
      refine next x q (by omega) ?_ ?_
      ·unfold rT
       rw[AfE (fun hh=>by rw[hb]at hh;exact absurd hh.2.2 (by simp))]
      ·rw[hcc,hb];simp
    ·rw[Ae2 h3]
     simp only[]
     refine next x q (by omega) ?_ ?_
     ·unfold rT
      rw[AfE (fun hh=>h3 hh.2.1)]
     ·rw[hcc,Ae2 h3];simp
 have:=key O [] 0 many r rfl (by simp) (by simp only[many];omega) (by omega)
 rw[Aa]
 exact this
theorem AG9(w:W23)(wt wf:Bool)(bu bv top:Int)(i:Nat)(hi:i<64)(s:List Int)(hs:s.length≤64)(n:Int)(b:Bool)(O:List Tie)(hO:O.length≤400)(r:Nat)(hr:r<1073741824):
  AR Jb many (w.1,w.2.1,w.2.2.1,w.2.2.2.1,w.2.2.2.2.1,w.2.2.2.2.2.1,w.2.2.2.2.2.2.1,w.2.2.2.2.2.2.2.1,w.2.2.2.2.2.2.2.2.1,w.2.2.2.2.2.2.2.2.2,n,O,wt,wf,bu,bv,(r:Int),top,(i:Int),s,(0:Int),b,()) =
  some (match(Aq (AY s) top i O).2.2 with
   |some e=>.inl (n,(Aq (AY s) top i O).1,wt,true,e.1,e.2.1,((r+(Aq (AY s) top i O).2.1:Nat):Int),(0:Int),())
   |none=>.inr (.inl (w.1,w.2.1,w.2.2.1,w.2.2.2.1,w.2.2.2.2.1,w.2.2.2.2.2.1,w.2.2.2.2.2.2.1,w.2.2.2.2.2.2.2.1,w.2.2.2.2.2.2.2.2.1,w.2.2.2.2.2.2.2.2.2,n,(Aq (AY s) top i O).1,wt,wf,bu,bv,((r+(Aq (AY s) top i O).2.1:Nat):Int),top,(i:Int),b,()))):=by
 obtain⟨w0,w1,w2,w3,w4,w5,w6,w7,w8,w9⟩:=w
 simp only
 have key:∀ (R A:List Tie) (j cnt q:Nat),A.length=j→A.length+R.length=O.length→R.length<cnt→q+R.length<2147483648 →
   AP Jb cnt (w0,w1,w2,w3,w4,w5,w6,w7,w8,w9,n,A++R,wt,wf,bu,bv,(q:Int),top,(i:Int),s,(j:Int),b,()) =
   some (match(Aq (AY s) top i R).2.2 with
    |some e=>.inl (n,A++(Aq (AY s) top i R).1,wt,true,e.1,e.2.1,((q+(Aq (AY s) top i R).2.1:Nat):Int),(0:Int),())
    |none=>.inr (.inl (w0,w1,w2,w3,w4,w5,w6,w7,w8,w9,n,A++(Aq (AY s) top i R).1,wt,wf,bu,bv,((q+(Aq (AY s) top i R).2.1:Nat):Int),top,(i:Int),b,()))):=by
  intro R
  induction R with
  |nil=>
   intro A j cnt q hA hl hc hq
   obtain⟨cnt,rfl⟩:∃ c,cnt=c+1:=⟨cnt-1,by omega⟩
   rw[AP,Jb,AK,AI,Ae2 (by simp;omega)]
   rfl
  |cons x R ih=>
   intro A j cnt q hA hl hc hq
   obtain⟨cnt,rfl⟩:∃ c,cnt=c+1:=⟨cnt-1,by omega⟩
   rw[AfD]at hl hc hq
   have hg:=Pj (R:=R) (x:=x) hA
   have next:∀ (y:Tie) (q':Nat),q'+R.length<2147483648→Aq (AY s) top i (x::R)=(y::(Aq (AY s) top i R).1,(Aq (AY s) top i R).2.1+(q'-q),(Aq (AY s) top i R).2.2)→q≤q' →
     AP Jb cnt (w0,w1,w2,w3,w4,w5,w6,w7,w8,w9,n,A++y::R,wt,wf,bu,bv,(q':Int),top,(i:Int),s,((j+1:Nat):Int),b,()) =
     some (match(Aq (AY s) top i (x::R)).2.2 with
     |some e=>.inl (n,A++(Aq (AY s) top i (x::R)).1,wt,true,e.1,e.2.1,((q+(Aq (AY s) top i (x::R)).2.1:Nat):Int),(0:Int),())
     |none=>.inr (.inl (w0,w1,w2,w3,w4,w5,w6,w7,w8,w9,n,A++(Aq (AY s) top i (x::R)).1,wt,wf,bu,bv,((q+(Aq (AY s) top i (x::R)).2.1:Nat):Int),top,(i:Int),b,()))):=by
    intro y q' hq' hy hqq
    have:=ih (A++[y]) (j+1) cnt q' (by simp[hA]) (by simp;omega) (by omega) hq'
    rw[Afm,AgN]at this
    rw[this,hy]
    have e1:A++[y]++(Aq (AY s) top i R).1=A++y::(Aq (AY s) top i R).1:=by simp
    have e2:q'+(Aq (AY s) top i R).2.1=q+((Aq (AY s) top i R).2.1+(q'-q)):=by omega
    rw[e1,e2]
   rw[AP,Jb,AK,AI,Ae3 (by simp;omega)]
   simp only[Ac hg,CN hg]
   rw[AG (show j+1<9223372036854775808 by omega),AG (show q+1<9223372036854775808 by omega),Ak]
   simp only[Nb s _ (show s.length<1073741824 by omega)]
   have skip:(x.2.2.2.1=true∨x.2.2.1≠(i:Int))→Aq (AY s) top i (x::R)=(x::(Aq (AY s) top i R).1,(Aq (AY s) top i R).2.1+(q-q),(Aq (AY s) top i R).2.2):=fun h=>by
    rw[Aq,AfJ h,Agu];rfl
   cases h4:x.2.2.2.1
   ·simp only[]
    by_cases h3:x.2.2.1=(i:Int)
    ·rw[Ae3 h3]
     simp only[AfB]
     have hn:¬ (x.2.2.2.1=true∨x.2.2.1≠(i:Int)):=by rw[h4];simp[h3]
     have found:∀ (hne:Dc (AY s) x) (hnb:both (AY s) x=false),Aq (AY s) top i (x::R)=(Cf x::R,0,some (ed x)):=fun hne hnb=>by
      rw[Aq,AfE hn,AfE (by rw[hnb];simp),AfJ hne]
     by_cases h1:x.1∈s
     ·rw[Ae3 h1]
      simp only[]
      by_cases h2:x.2.1∈s
      ·rw[Ae3 h2]
       simp only[]
       have hb:both (AY s) x=true:=by unfold both AY;rw[Ae3 h1,Ae3 h2];rfl
       rw[J6 hA,Ir,AG (show i+1<9223372036854775808 by omega)]
       refine next _ (q+1) (by omega) ?_ (by omega)
       rw[Aq,AfE hn,AfJ hb]
       unfold E7
       rw[h3,h4,show q+1-q=1 by omega]
       rfl
      ·rw[Ae2 h2]
       simp only[]
       have hb:both (AY s) x=false:=by unfold both AY;rw[Ae2 h2,AhO]
       have hne:Dc (AY s) x:=by unfold Dc AY;rw[Ae3 h1,Ae2 h2];simp
       rw[J6 hA,found hne hb]
       simp only[]
       unfold Cf ed
       rfl
     ·rw[Ae2 h1]
      simp only[]
      by_cases h2:x.2.1∈s
      ·rw[Ae3 h2]
       simp only[]
       have hb:both (AY s) x=false:=by unfold both AY;rw[Ae2 h1,Aga]
       have hne:Dc (AY s) x:=by unfold Dc AY;rw[Ae2 h1,Ae3 h2];simp
       rw[J6 hA,found hne hb]
       simp only[]
       unfold Cf ed
       rfl
      ·rw[Ae2 h2]
       simp only[]
       refine next x q (by omega) ?_ (AfH _)
       have hb:both (AY s) x=false:=by unfold both AY;rw[Ae2 h1,Aga]
       have hne:¬ Dc (AY s) x:=by unfold Dc AY;rw[Ae2 h1,Ae2 h2];simp
       rw[Aq,AfE hn,AfE (by rw[hb];simp),AfE hne,Agu]
       rfl
    ·rw[Ae2 h3]
     simp only[AfX]
     exact next x q (by omega) (skip (.inr h3)) (AfH _)
   ·simp only[]
    exact next x q (by omega) (skip (.inl h4)) (AfH _)
 have:=key O [] 0 many r rfl (by simp) (by simp only[many];omega) (by omega)
 rw[Aa]
 exact this
end Go.Pev.Pl
end
section
namespace Go.Pev.Pl
open Tok
noncomputable def Gu(N u v:Nat)(top:Int):Nat→List Tie→Nat→List Tie×Option Edge×Nat
 |0,O,r=>(O,none,r)
 |i+1,O,r=>match(Aq (AY (BO N O u v i)) top i (O.map (rT (AY (BO N O u v i)) top i))).2.2 with
  |some e=>((Aq (AY (BO N O u v i)) top i (O.map (rT (AY (BO N O u v i)) top i))).1,some e,r+Fc (AY (BO N O u v i)) i O+(Aq (AY (BO N O u v i)) top i (O.map (rT (AY (BO N O u v i)) top i))).2.1)
  |none=>Gu N u v top i (Aq (AY (BO N O u v i)) top i (O.map (rT (AY (BO N O u v i)) top i))).1 (r+Fc (AY (BO N O u v i)) i O+(Aq (AY (BO N O u v i)) top i (O.map (rT (AY (BO N O u v i)) top i))).2.1)
theorem NF(S:Int→Bool)(top i:Int):∀ ts:List Tie,(Aq S top i ts).1.length=ts.length∧(Aq S top i ts).2.1≤ts.length:=by
 intro ts
 induction ts with
 |nil=>exact⟨rfl,AfH _⟩
 |cons t ts ih=>
  rw[Aq]
  split
  ·exact⟨by simp[ih.1],by have:=ih.2;simp;omega⟩
  ·split
   ·exact⟨by simp[ih.1],by have:=ih.2;simp;omega⟩
   ·split
    ·exact⟨by simp,by simp⟩
    ·exact⟨by simp[ih.1],by have:=ih.2;simp;omega⟩
theorem AZU(S:Int→Bool)(top i:Int):∀ ts:List Tie,(Aq S top i ts).1.map ed=ts.map ed:=by
 intro ts
 induction ts with
 |nil=>rfl
 |cons t ts ih=>
  rw[Aq]
  split
  ·rw[AfR,AfR,ih]
  ·split
   ·rw[AfR,AfR,ih];rfl
   ·split
    ·rw[AfR,AfR];rfl
    ·rw[AfR,AfR,ih]
theorem AIa(S:Int→Bool)(i:Int)(ts:List Tie):Fc S i ts≤ts.length:=List.countP_le_length
theorem AG8{N:Nat}(hN:N≤64)(u v:Nat)(hu:u<N)(hv:v<N)(top w8:Int):
  ∀ (m:Nat) (O:List Tie) (r cnt:Nat),m≤64→O.length≤400→r+1000*m<1073741824→m<cnt →
  AP Hy cnt ((0:Int),false,false,(0:Int),(0:Int),(0:Int),(u:Int),(v:Int),w8,true,(N:Int),O,true,false,(0:Int),(0:Int),(r:Int),top,(m:Int)-1,()) =
  some (match(Gu N u v top m O r).2.1 with
   |some e=>.inl ((N:Int),(Gu N u v top m O r).1,true,true,e.1,e.2.1,((Gu N u v top m O r).2.2:Int),(0:Int),())
   |none=>.inr (.inl ((0:Int),false,false,(0:Int),(0:Int),(0:Int),(N:Int),(Gu N u v top m O r).1,true,false,(0:Int),(0:Int),((Gu N u v top m O r).2.2:Int),()))):=by
 intro m
 induction m with
 |zero=>
  intro O r cnt hm hO hr hc
  obtain⟨cnt,rfl⟩:∃ c,cnt=c+1:=⟨cnt-1,by omega⟩
  rw[AP,Hy,Ap,Ae2 (by omega)]
  rfl
 |succ m ih=>
  intro O r cnt hm hO hr hc
  obtain⟨cnt,rfl⟩:∃ c,cnt=c+1:=⟨cnt-1,by omega⟩
  have em:((m+1:Nat):Int)-1=(m:Int):=by omega
  obtain⟨e,hs⟩:=YT hN O hO u v hu hv (m:Int)
  have hsl:=ADt N O u v (m:Int)
  rw[em,AP,Hy,Ap,Ae3 (show(0:Int)≤(m:Int) by omega)]
  simp only[hs]
  have ht:=AL5 ((0:Int),false,false,(0:Int),(0:Int),(0:Int),(u:Int),(v:Int),w8,true) true false 0 0 top m (by omega) (BO N O u v m) (by omega) (N:Int) true O hO r (by omega)
  simp only at ht
  rw[Gu]
  generalize hS:BO N O u v (m:Int)=s at *
  have hcl:=AIa (AY s) (m:Int) O
  have hml:(O.map (rT (AY s) top m)).length≤400:=by rw[Afd];exact hO
  have ho:=AG9 ((0:Int),false,false,(0:Int),(0:Int),(0:Int),(u:Int),(v:Int),w8,true) true false 0 0 top m (by omega) s (by omega) (N:Int) true (O.map (rT (AY s) top m)) hml (r+Fc (AY s) m O) (by omega)
  simp only at ho
  simp only[ht,ho]
  have hpl:=NF (AY s) top m (O.map (rT (AY s) top m))
  cases hp:(Aq (AY s) top m (O.map (rT (AY s) top m))).2.2 with
  |some e=>rfl
  |none=>
   simp only[]
   rw[Aj (by omega)]
   exact ih _ _ cnt (by omega) (by omega) (by omega) (by omega)
def AXn(tree:Bool)(f:Option Edge)(r:Nat):Bool×Bool×Edge×Int×Unit:=(tree,f.isSome,((f.getD (0,0,())).1,((f.getD (0,0,())).2.1,())),(r:Int),())
def AJT:Bool×Bool×Edge×Int×Unit:=(false,(false,(((0:Int),((0:Int),())),((0:Int),()))))
noncomputable def EE(N:Nat)(ts:List Tie)(p:Nat)(t:Tie):List Tie×Option Edge×Nat:=
 if t.2.2.2.1=true then Gu N t.1.toNat t.2.1.toNat (Be N:Int) (t.2.2.1.toNat+1) (ts.take p++ts.drop (p+1)) 0 else(ts.take p++ts.drop (p+1),none,0)
theorem NM{N:Nat}{ts:List Tie}(h:RG2 N ts)(u v:Int):
  (¬ ((0≤u∧u<(N:Int))∧(0≤v∧v<(N:Int)))∧AEJ (((N:Int),(ts,())),u,v,())=some ((N:Int),ts,AJT,10,())) ∨
  (((0≤u∧u<(N:Int))∧(0≤v∧v<(N:Int)))∧ts.any (Bo u v)=false∧AEJ (((N:Int),(ts,())),u,v,())=some ((N:Int),ts,AJT,6,())) ∨
  (((0≤u∧u<(N:Int))∧(0≤v∧v<(N:Int)))∧ts.any (Bo u v)=true∧∃ t,ts[ts.findIdx (Bo u v)]? = some t ∧
   AEJ (((N:Int),(ts,())),u,v,())=some ((N:Int),(EE N ts (ts.findIdx (Bo u v)) t).1,AXn t.2.2.2.1 (EE N ts (ts.findIdx (Bo u v)) t).2.1 (EE N ts (ts.findIdx (Bo u v)) t).2.2,0,())):=by
 have ht:=h.ht
 have hN:=h.hN
 rw[AL6,XU]
 simp only[h.r21,AfB,Qd]
 by_cases hu:0≤u∧u<(N:Int)
 ·rw[Ae3 hu]
  by_cases hv:0≤v∧v<(N:Int)
  ·right
   rw[Ae3 hv]
   simp only[AfB,ARs h]
   cases ha:ts.any (Bo u v)
   ·left
    refine⟨⟨hu,hv⟩,rfl,?_⟩
    simp only[AfI,AfK,Am]
    rw[Ae3 (by omega)]
    rfl
   ·right
    have hk:ts.findIdx (Bo u v)<ts.length:=AgT.2 (AgB.1 ha)
    have hx:ts[ts.findIdx (Bo u v)]? = some ts[ts.findIdx (Bo u v)]:=Ae8 hk
    refine⟨⟨hu,hv⟩,rfl,_,hx,?_⟩
    have hm:ts[ts.findIdx (Bo u v)]∈ts:=AgC hk
    generalize ts[ts.findIdx (Bo u v)]=t at *
    generalize ts.findIdx (Bo u v)=p at *
    obtain⟨i1,i2,hlt,l1,l2⟩:=h.tie hm
    obtain⟨a,ha'⟩:=AfF i1.2.2.1
    obtain⟨b,hb'⟩:=AfF i2.2.2.1
    obtain⟨lv,hlv⟩:=AfF l1
    have haN:a<N:=by have:=i1.2.2.2;omega
    have hbN:b<N:=by have:=i2.2.2.2;omega
    have hT:=EK hN
    have hT64:=AFV hN
    have s1:B4 ts (0:Int) (p:Int)=some (ts.take p):=KA (by omega)
    have s2:B4 ts ((p+1:Nat):Int) (ts.length:Int)=some (ts.drop (p+1)):=D9 (by omega)
    have hfit1:fits (AM ([]:List Tie)+AM (ts.take p))=true:=BE (by simp only[AK,AfO,AfN];omega)
    have hfit2:fits (AM (ts.take p)+AM (ts.drop (p+1)))=true:=BE (by simp only[AK,AfN,Afg];omega)
    have hd0:A5 ([]:List Tie) (ts.take p)=ts.take p:=by simp[A5]
    simp only[AfY,Am]
    rw[Ae2 (show ¬ (p:Int)<0 by omega)]
    simp only[Ac hx,s1,hfit1,hd0]
    rw[AG (by omega)]
    simp only[AK]at hfit2
    simp only[AK,s2,hfit2,M4 N hN,hT,Cp]
    unfold EE
    cases h4:t.2.2.2.1
    ·obtain⟨m,hmany⟩:∃ m,many=m+1:=⟨many-1,by simp only[many]⟩
     have:AR Hy many ((0:Int),false,false,(0:Int),(0:Int),(0:Int),t.1,t.2.1,t.2.2.1,false,(N:Int),ts.take p++ts.drop (p+1),false,false,(0:Int),(0:Int),(0:Int),(Be N:Int),t.2.2.1,()) =
       some (.inr (.inl ((0:Int),false,false,(0:Int),(0:Int),(0:Int),(N:Int),ts.take p++ts.drop (p+1),false,false,(0:Int),(0:Int),(0:Int),()))):=by
      rw[Aa,hmany,AP,Hy]
      cases ile (0:Int) t.2.2.1<;>rfl
     simp only[this]
     rfl
    ·simp only[AfY]
     have hlen:(ts.take p++ts.drop (p+1)).length≤400:=by rw[AfC,AfN,Afg];omega
     have hs:=AG8 hN a b haN hbN (Be N:Int) t.2.2.1 (lv+1) (ts.take p++ts.drop (p+1)) 0 many (by omega) hlen (by omega) (by simp only[many];omega)
     rw[← ha',← hb',show((lv+1:Nat):Int)-1=t.2.2.1 by omega]at hs
     have e2:t.1.toNat=a:=by omega
     have e3:t.2.1.toNat=b:=by omega
     have e4:t.2.2.1.toNat+1=lv+1:=by omega
     rw[e2,e3,e4]
     rw[← Aa]at hs
     have hs':AR Hy many ((0:Int),false,false,(0:Int),(0:Int),(0:Int),t.1,t.2.1,t.2.2.1,true,(N:Int),ts.take p++ts.drop (p+1),true,false,(0:Int),(0:Int),(0:Int),(Be N:Int),t.2.2.1,())=_:=hs
     simp only[hs']
     cases (Gu N a b (Be N:Int) (lv+1) (ts.take p++ts.drop (p+1)) 0).2.1 with
     |some e=>rfl
     |none=>rfl
  ·left
   rw[Ae2 hv]
   exact⟨fun q=>hv q.2,rfl⟩
 ·left
  rw[Ae2 hu]
  exact⟨fun q=>hu q.1,rfl⟩
end Go.Pev.Pl
end
section
namespace Go.Pev.Pl
open Tok
theorem AYj{N:Nat}(h1:1≤N)(hN:N≤64){O:List Tie}(ht:O.length≤400)(hE:(O.map ed).Pairwise C4)(hlt:∀ e∈O.map ed,e.1<e.2.1)(hin:∀ x∈O,InE N (ed x))(hl:∀ x∈O,0≤x.2.2.1∧x.2.2.1≤(Be N:Int))(hfo:Fo N (trk O 0)):RG2 N O:=by
 have ho:oks N O:=by
  rw[KR]
  refine⟨fun t ht => ?_,?_⟩
  ·have a:=hlt (ed t) (AfQ.2 ⟨t,ht,rfl⟩)
   obtain⟨⟨b1,b2⟩,c1,c2⟩:=hin t ht
   have d:=hl t ht
   rw[← EK hN]at d
   exact⟨b1,a,c2,d.1,d.2⟩
  ·rw[AgY]at hE
   exact hE
 exact⟨h1,hN,ht,ho,by rw[AJj ho];exact hfo⟩
theorem RG2.edP{N:Nat}{ts:List Tie}(h:RG2 N ts):(ts.map ed).Pairwise C4:=by
 rw[AgY]
 exact((KR N ts).1 h.oks).2
theorem RG2.Aes{N:Nat}{ts:List Tie}(h:RG2 N ts):∀ e∈ts.map ed,e.1<e.2.1:=by
 intro e he
 obtain⟨t,ht,rfl⟩:=AfQ.1 he
 exact(h.tie ht).2.2.1
theorem AF1{N:Nat}{O:List Tie}(h:RG2 N O){u v i:Nat}(hu:u<N)(hv:v<N)(hn:¬ Con (trk O i) (u:Int) (v:Int)):∃ c,Mo N ((u:Int),((v:Int),())) i O (AY (BO N O u v i)) c:=by
 unfold BO
 rw[(Dq _).2 h,AfJ rfl,AfE (by rw[BW];exact hn)]
 have key:∀ c:Nat,c<N→∀ w:Nat,w<N→(AY (Eb N (trk O i) (c:Int)) (w:Int)=true↔Con (trk O i) (c:Int) (w:Int)):=by
  intro c hc w hw
  unfold AY
  rw[AfZ,AAB]
  exact⟨fun q=>q.2,fun q=>⟨⟨by omega,by omega⟩,q⟩⟩
 split
 ·rename_i q
  exact⟨u,hu,.inl rfl,key u hu,by show 2*_≤csz N (trk O i) (u:Int)+csz N (trk O i) (v:Int);omega⟩
 ·rename_i q
  exact⟨v,hv,.inr rfl,key v hv,by show 2*_≤csz N (trk O i) (u:Int)+csz N (trk O i) (v:Int);omega⟩
theorem AYP{N:Nat}(h1:1≤N)(hN:N≤64){u v:Nat}(hu:u<N)(hv:v<N):∀ (m:Nat) (O:List Tie) (r:Nat),m≤Be N+1→O.length≤400→(O.map ed).Pairwise C4→(∀ e∈O.map ed,e.1<e.2.1)→I9 N (Be N:Int) ((u:Int),((v:Int),())) (m:Int) O →
  (Gu N u v (Be N:Int) m O r).1.map ed=O.map ed∧Snd N (Be N:Int) (Gu N u v (Be N:Int) m O r).1 ∧
  ((Gu N u v (Be N:Int) m O r).2.1=none→¬ Con (trk (Gu N u v (Be N:Int) m O r).1 0) (u:Int) (v:Int)) ∧
  ((Gu N u v (Be N:Int) m O r).2.1≠none→Con (trk (Gu N u v (Be N:Int) m O r).1 0) (u:Int) (v:Int)):=by
 intro m
 induction m with
 |zero=>
  intro O r _ _ _ _ hG
  obtain⟨q1,q2⟩:=hG.end
  exact⟨rfl,q1,fun _=>q2,fun h=>absurd rfl h⟩
 |succ i ih=>
  intro O r hm hO hE hlt hG
  have hG':I9 N (Be N:Int) ((u:Int),((v:Int),())) ((i:Int)+1) O:=hG
  have hit:(i:Int)≤(Be N:Int):=by omega
  have hR:RG2 N O:=AYj h1 hN hO hE hlt hG.ins hG.lvl (hG.fo.front (Pp hG.ins 0) (fun e he=>by rw[AfV]at he;subst he;exact hG.it))
  obtain⟨c,hL⟩:=AF1 hR hu hv (i:=i) (hG'.apart i)
  rw[Gu]
  generalize AY (BO N O u v (i:Int))=S at *
  have hme:((O.map (rT S (Be N:Int) i)).map ed)=O.map ed:=by
   rw[List.map_map]
   exact List.map_congr_left fun t _=>Yx S _ _ t
  have hpe:=AZU S (Be N:Int) i (O.map (rT S (Be N:Int) i))
  have hpl:=NF S (Be N:Int) i (O.map (rT S (Be N:Int) i))
  rw[hme]at hpe
  cases hp:(Aq S (Be N:Int) i (O.map (rT S (Be N:Int) i))).2.2 with
  |none=>
   obtain⟨q1,q2⟩:=AP4 S (Be N:Int) i _ hp
   have hN':=hG'.next hit hL q2
   rw[← q1]at hN'
   simp only[]
   have:=ih (Aq S (Be N:Int) i (O.map (rT S (Be N:Int) i))).1 (r+Fc S i O+(Aq S (Be N:Int) i (O.map (rT S (Be N:Int) i))).2.1) (by omega) (by rw[hpl.1,Afd];exact hO) (by rw[hpe];exact hE) (by rw[hpe];exact hlt) hN'
   rw[hpe]at this
   exact this
  |some e=>
   obtain⟨A,x,B,e1,e2,e3,e4,e5,e6⟩:=AP3 S (Be N:Int) i e _ hp
   obtain⟨q1,q2⟩:=hG'.found hit hL e1 e3 e4 e5
   rw[← e2]at q1 q2
   simp only[]
   exact⟨hpe,q1,fun h=>(by cases h),fun _=>q2⟩
theorem AWx{N:Nat}{ts:List Tie}(h:RG2 N ts)(hs:Snd N (Be N:Int) ts){p:Nat}{t:Tie}(hp:ts[p]? = some t):
  RG2 N (EE N ts p t).1∧Snd N (Be N:Int) (EE N ts p t).1∧(EE N ts p t).1.map ed=(ts.take p++ts.drop (p+1)).map ed ∧
  (t.2.2.2.1=true→((EE N ts p t).2.1≠none↔Con ((ts.take p++ts.drop (p+1)).map ed) t.1 t.2.1))∧(t.2.2.2.1=false→(EE N ts p t).2.1=none∧(EE N ts p t).2.2=0):=by
 have hpl:p<ts.length:=(Afc.1 hp).1
 have hpe:ts[p]=t:=(Afc.1 hp).2
 have hsp:ts=ts.take p++t::ts.drop (p+1):=by
  conv=>lhs;rw[← Afv p ts,Afn hpl,hpe]
 have hm:t∈ts:=hpe▸AgC hpl
 obtain⟨i1,i2,hlt,l1,l2⟩:=h.tie hm
 have hT:=EK h.hN
 have hsub:((ts.take p++ts.drop (p+1)).map ed).Sublist (ts.map ed):=by
  conv=>rhs;rw[hsp]
  exact(List.Sublist.append_left (List.sublist_cons_self _ _) _).map ed
 have hlen:(ts.take p++ts.drop (p+1)).length≤400:=by
  have:=h.ht
  rw[AfC,AfN,Afg];omega
 have hE:=h.edP.sublist hsub
 have hL:∀ e∈(ts.take p++ts.drop (p+1)).map ed,e.1<e.2.1:=fun e he=>h.Aes e (hsub.subset he)
 have fin:∀ O':List Tie,O'.map ed=(ts.take p++ts.drop (p+1)).map ed→Snd N (Be N:Int) O'→RG2 N O':=fun O' he hO=>AYj h.h1 h.hN (by
   have:=AgZ List.length he
   rw[Afd,Afd]at this
   omega) (by rw[he];exact hE) (by rw[he];exact hL) hO.ins hO.lvl hO.fo
 unfold EE
 cases h4:t.2.2.2.1
 ·simp only[AfI,AfK]
  have hO:Snd N (Be N:Int) (ts.take p++ts.drop (p+1)):=by
   rw[hsp]at hs
   exact hs.other h4
  exact⟨fin _ rfl hO,hO,trivial,fun q=>q.elim,fun _=>⟨trivial,trivial⟩⟩
 ·simp only[AfY]
  obtain⟨a,ha⟩:=AfF i1.2.2.1
  obtain⟨b,hb⟩:=AfF i2.2.2.1
  obtain⟨lv,hlv⟩:=AfF l1
  have haN:a<N:=by have:=i1.2.2.2;omega
  have hbN:b<N:=by have:=i2.2.2.2;omega
  have hst:I9 N (Be N:Int) ((a:Int),((b:Int),())) ((lv+1:Nat):Int) (ts.take p++ts.drop (p+1)):=by
   have hs':=hs
   rw[hsp]at hs'
   have:=hs'.Ael h4
   have e1:ed t=((a:Int),((b:Int),())):=by unfold ed;rw[ha,hb]
   rw[e1,hlv]at this
   exact this
  have e2:t.1.toNat=a:=by omega
  have e3:t.2.1.toNat=b:=by omega
  have e4:t.2.2.1.toNat+1=lv+1:=by omega
  rw[e2,e3,e4]
  obtain⟨q1,q2,q3,q4⟩:=AYP h.h1 h.hN haN hbN (lv+1) (ts.take p++ts.drop (p+1)) 0 (by omega) hlen hE hL hst
  refine⟨fin _ q1 q2,q2,q1,fun _ => ?_,fun q=>by cases q⟩
  rw[← q1,q2.span,ha,hb]
  constructor
  ·exact q4
  ·intro hc hn
   exact q3 hn hc
noncomputable def DK(N:Nat)(ts:List Tie)(l:List Edge):List Edge:=(Cl N l).filter fun x=>decide (x∈ts.map ed)
theorem PB{N:Nat}{ts:List Tie}(h:RG2 N ts)(l:List Edge)(hs:l.length<1073741824):
  AAt (((N:Int),(ts,())),l,())=some (if ∀ e∈l,In (N:Int) e.1∧In (N:Int) e.2.1 then(DK N ts l,0,())else([],10,())):=by
 have ht:=h.ht
 have h1:=h.h1
 have hN:=h.hN
 rw[AEg,Qs]
 simp only[h.r21,AfB]
 have e:=Fg (step:=Jn) (fun i=>(l,(N:Int),ts,(i:Int),())) l (fun x => !decide (In (N:Int) x.1∧In (N:Int) x.2.1)) (fun _=>.inl (10,())) (.inr (.inl (l,(N:Int),ts,()))) (by omega)
  (fun i x hi hx=>by
   rw[Jn,AK,AI,Ae3 hi]
   simp only[Ac hx,Qd]
   rw[AG (by omega)]
   have d1:decide (0≤x.1∧x.1<(N:Int))=decide (In (N:Int) x.1):=AgV.2 ⟨fun q=>⟨by omega,by omega,q.1,q.2⟩,fun q=>⟨q.2.2.1,q.2.2.2⟩⟩
   have d2:decide (0≤x.2.1∧x.2.1<(N:Int))=decide (In (N:Int) x.2.1):=AgV.2 ⟨fun q=>⟨by omega,by omega,q.1,q.2⟩,fun q=>⟨q.2.2.1,q.2.2.2⟩⟩
   rw[d1,d2,Bool.decide_and]
   cases decide (In (N:Int) x.1)<;>cases decide (In (N:Int) x.2.1)<;>simp)
  (by rw[Jn,AK,AI,Ae2 (by omega)])
 have e':AR Jn many (l,(N:Int),ts,(0:Int),())=_:=e
 rw[e']
 by_cases hall:∀ e∈l,In (N:Int) e.1∧In (N:Int) e.2.1
 ·have:(l.any fun x => !decide (In (N:Int) x.1∧In (N:Int) x.2.1))=false:=by
   rw[Ag0]
   intro x hx
   simp[hall x hx]
  rw[this,AfJ hall]
  simp only[AfI,AfK,I2 (N:Int) ts h.ht h.r21,UY N hN l hs]
  have hpl:=Oe N hN l
  unfold DK
  generalize Cl N l=p at hpl
  have e2:=Cj (step:=Jm) (fun i (a:List Edge)=>(ts.map ed,p,a,(i:Int),())) p (fun x a=>.inl (if x∈ts.map ed then a++[x]else a)) (fun a=>.inl (a,())) (fun i a=>a.length≤i) (by omega)
   (fun i x a hi hx ha=>by
    refine⟨fun m' h' => ?_,fun r h'=>(by cases h')⟩
    cases h'
    constructor
    ·rw[Jm,AK,AI,Ae3 hi]
     obtain⟨u,v,⟨⟩⟩:=x
     simp only[Ac hx,CN hx,TP (ts.map ed) u v (by rw[Afd];omega),AK]
     have hfit:fits ((a.length:Int)+(([(u,v,())]:List Edge).length:Int))=true:=BE (by simp;omega)
     rw[hfit,AG (by omega)]
     by_cases q:((u,v,()):Edge)∈ts.map ed
     ·rw[Ae3 q,AfJ q]
      rfl
     ·rw[Ae2 q,AfE q]
    ·split
     ·rw[AfC];simp;omega
     ·omega)
   (fun a _=>by rw[Jm,AK,AI,Ae2 (by omega)]) [] (AfH _)
  have e2':AR Jm many (ts.map ed,p,[],(0:Int),())=_:=e2
  simp only[e2']
  rw[BJ (fun(x:Edge) (a:List Edge)=>if x∈ts.map ed then a++[x]else a),HH (fun x:Edge=>x∈ts.map ed) (fun x=>x)]
  simp
 ·have:(l.any fun x => !decide (In (N:Int) x.1∧In (N:Int) x.2.1))=true:=by
   rw[AgB]
   refine Afo fun hn=>hall fun e he => ?_
   refine Afo fun hne=>hn ⟨e,he,by rw[Ae2 hne];rfl⟩
  rw[this,AfE hall]
  rfl
end Go.Pev.Pl
end
section
namespace Go.Pev.Pl
open Tok
noncomputable def AL8(ts:List Tie)(k:Nat):Bool:=ts.any fun t => !t.2.2.2.1&&(decide (t.2.2.1=(k:Int)) && !EG (trk ts k) t.1 t.2.1)
theorem AJ2{N:Nat}{ts:List Tie}(h:RG2 N ts)(s:Int)(k:Nat){o:List Int}(hc:LY (N:Int) (trk ts k) o):
  AR DR many ((N:Int),ts,s,(k:Int),o,(0:Int),())=some (if AL8 ts k then .inl (false,())else .inr (.inl ((N:Int),ts,s,(k:Int),()))):=by
 have ht:=h.ht
 have ho:o.length=N:=by have:=hc.len;omega
 have e:=Fg (step:=DR) (fun i=>((N:Int),ts,s,(k:Int),o,(i:Int),())) ts (fun t => !t.2.2.2.1&&(decide (t.2.2.1=(k:Int)) && !EG (trk ts k) t.1 t.2.1)) (fun _=>.inl (false,())) (.inr (.inl ((N:Int),ts,s,(k:Int),()))) (by omega)
  (fun i x hi hx=>by
   obtain⟨i1,i2,_,l1,l2⟩:=h.tie (AfM hx)
   rw[DR,AK,AI,Ae3 hi]
   simp only[Ac hx,AbN ho (show InV N x.1 from⟨i1.2.2.1,i1.2.2.2⟩),AbN ho (show InV N x.2.1 from⟨i2.2.2.1,i2.2.2.2⟩)]
   have hd:∀ w:Int,AL o (AE w) 0=cl o w:=fun _=>rfl
   rw[AG (by omega),hd,hd,Ak,Ak]
   have:decide (cl o x.1=cl o x.2.1)=EG (trk ts k) x.1 x.2.1:=by
    rw[Af9,AfZ,BW]
    exact hc.same _ _ i1 i2
   rw[this]
   generalize EG (trk ts (k:Int)) x.1 x.2.1=c
   generalize decide (x.2.2.1=(k:Int))=d
   generalize x.2.2.2.1=f
   cases f<;>cases d<;>cases c<;>rfl)
  (by rw[DR,AK,AI,Ae2 (by omega)])
 have e':AR DR many ((N:Int),ts,s,(k:Int),o,(0:Int),())=_:=e
 rw[e']
 rfl
theorem AJ3{N:Nat}{ts:List Tie}(h:RG2 N ts)(k:Nat):
  AR DQ many ((N:Int),ts,((N/2 ^ k:Nat):Int),(k:Int),(0:Int),())=some (if AIw N ts k then .inl (false,())else .inr (.inl ((N:Int),ts,((N/2 ^ k:Nat):Int),(k:Int),()))):=by
 have hN:=h.hN
 have e:=Fg (step:=DQ) (fun i=>((N:Int),ts,((N/2 ^ k:Nat):Int),(k:Int),(i:Int),())) (List.range N) (fun v=>decide (max 1 (N/2 ^ k)<csz N (trk ts k) (v:Int))) (fun _=>.inl (false,())) (.inr (.inl ((N:Int),ts,((N/2 ^ k:Nat):Int),(k:Int),()))) (by simp;omega)
  (fun i x hi hx=>by
   have:=Cb hx
   subst this
   rw[Afb]at hi
   have hle:=Ng N (trk ts k) (x:Int)
   have hdl:N/2 ^ k≤N:=Nat.div_le_self _ _
   rw[DQ,AI,Ae3 hi]
   simp only[EC h.h1 h.hN ts h.ht h.inE x hi,AK,Hz,Qg]
   rw[AG (by omega),Am]
   have:decide (max (1:Int) ((N/2 ^ k:Nat):Int)<(csz N (trk ts k) (x:Int):Int))=decide (max 1 (N/2 ^ k)<csz N (trk ts k) (x:Int)):=AgV.2 (by omega)
   rw[this]
   cases decide (max 1 (N/2 ^ k)<csz N (trk ts k) (x:Int))<;>simp)
  (by rw[DQ,Afb,AI,Ae2 (by omega)])
 have e':AR DQ many ((N:Int),ts,((N/2 ^ k:Nat):Int),(k:Int),(0:Int),())=_:=e
 rw[e']
 rfl
theorem Acd{N:Nat}{ts:List Tie}(h:RG2 N ts):((List.range (Be N+1)).any fun k=>AL8 ts k)=ts.any (AQX ts):=by
 rw[Af9,AgB,AgB]
 constructor
 ·rintro⟨k,_,hk⟩
  unfold AL8 at hk
  rw[AgB]at hk
  obtain⟨t,ht,q⟩:=hk
  simp only[Ae9,Ae6]at q
  refine⟨t,ht,?_⟩
  unfold AQX
  rw[q.2.1,Ae9]
  exact⟨q.1,q.2.2⟩
 ·rintro⟨t,ht,q⟩
  unfold AQX at q
  rw[Ae9]at q
  obtain⟨_,_,_,l1,l2⟩:=h.tie ht
  obtain⟨k,hk⟩:=AfF l1
  have hT:=EK h.hN
  refine⟨k,by rw[Af3];omega,?_⟩
  unfold AL8
  rw[AgB]
  refine⟨t,ht,?_⟩
  rw[hk]at q
  simp only[Ae9,Ae6]
  exact⟨q.1,hk,q.2⟩
theorem UR{N:Nat}{ts:List Tie}(h:RG2 N ts):KC (((N:Int),(ts,())),())=some (Ik (WI ts∧AI8 ts∧RJ N ts),()):=by
 have ht:=h.ht
 have h1:=h.h1
 have hN:=h.hN
 have hT:=AFV h.hN
 have hTe:=EK h.hN
 obtain⟨o1,e1,c1⟩:=DG (N:Int) (ts.map ed) ⟨by omega,by omega⟩ (by rw[Afd];omega) h.inE
 obtain⟨o2,e2,c2⟩:=h.AT6 0
 have l1:o1.length=N:=by have:=c1.len;omega
 have l2:o2.length=N:=by have:=c2.len;omega
 rw[OW,JT]
 simp only[h.r21,AfB,I2 (N:Int) ts h.ht h.r21,e1,Mz (N:Int) ts h.ht,e2]
 have f0:=Fg (step:=EV) (fun i=>((N:Int),ts,o1,o2,(i:Int),())) (List.range N) (fun k => !decide (o1.getD k 0=o2.getD k 0)) (fun _=>.inl (false,())) (.inr (.inl ((N:Int),ts,()))) (by simp;omega)
  (fun i x hi hx=>by
   have:=Cb hx
   subst this
   rw[Afb]at hi
   rw[EV,AI,Ae3 hi]
   simp only[CV 0 (show x<o1.length by omega),CV 0 (show x<o2.length by omega),Ee,Ak]
   rw[AG (by omega)]
   cases decide (o1.getD x 0=o2.getD x 0)<;>simp)
  (by rw[EV,Afb,AI,Ae2 (by omega)])
 have f0':AR EV many ((N:Int),ts,o1,o2,(0:Int),())=_:=f0
 have hsame:(!(List.range N).any fun k => !decide (o1.getD k 0=o2.getD k 0))=Ik (WI ts):=by
  refine P7 ?_
  have e0:(!(List.range N).any fun k => !decide (o1.getD k 0=o2.getD k 0))=true↔o1=o2:=by
   rw[AgI,Ag0]
   constructor
   ·intro hh
    refine FN 0 (by omega) fun k hk => ?_
    have:=hh k (by rw[Af3];omega)
    simpa using this
   ·rintro rfl k _
    simp
  rw[e0,AXT h1 hN c1 c2 h.inE (h.inK 0)]
  exact⟨fun q=>q.1,fun q=>⟨q,fun e he=>.edge e (AFN ts 0 e he)⟩⟩
 have f1:=Fg (step:=EU) (fun i=>((N:Int),ts,((N/2 ^ i:Nat):Int),(i:Int),())) (List.range (Be N+1)) (fun k=>AL8 ts k||AIw N ts k) (fun _=>.inl (false,())) (.inr (.inl ())) (by simp;omega)
  (fun i x hi hx=>by
   have:=Cb hx
   subst this
   rw[Afb]at hi
   obtain⟨o,g1,g2⟩:=h.AT6 x
   have hdl:N/2 ^ x≤N:=Nat.div_le_self _ _
   rw[EU]
   simp only[M4 N h.hN,hTe]
   rw[Bn,Ae3 (by omega)]
   simp only[Mz (N:Int) ts h.ht,g1,AJ2 h _ x g2]
   cases AL8 ts x
   ·simp only[AfI,AfK,AJ3 h x,Bool.false_or]
    cases AIw N ts x
    ·simp only[AfI,AfK]
     rw[AYu (by omega),AG (by omega)]
     simp only[]
     rw[Nat.pow_succ,Nat.div_div_eq_div_mul]
    ·rfl
   ·rfl)
  (by
   rw[EU,Afb]
   simp only[M4 N h.hN,hTe]
   rw[Bn,Ae2 (by omega)])
 have hz:((N/2 ^ 0:Nat):Int)=(N:Int):=by simp
 have f1':AR EU many ((N:Int),ts,((N/2 ^ 0:Nat):Int),(0:Int),())=_:=f1
 rw[hz]at f1'
 have hor:((List.range (Be N+1)).any fun k=>AL8 ts k||AIw N ts k)=(ts.any (AQX ts)||(List.range (Be N+1)).any (AIw N ts)):=by
  rw[← Acd h]
  generalize List.range (Be N+1)=xs
  induction xs with
  |nil=>rfl
  |cons x xs ih=>simp only[List.any_cons,ih];cases AL8 ts x<;>cases AIw N ts x<;>simp
 have b1:=Acb ts
 have b2:=AbV hN ts
 rw[hor]at f1'
 simp only[f0']
 have fin:Ik (WI ts∧AI8 ts∧RJ N ts)=(Ik (WI ts)&&(Ik (AI8 ts)&&Ik (RJ N ts))):=by
  symm
  refine P7 ?_
  rw[Ae9,Ae9,Dq,Dq,Dq]
 rw[fin,← hsame,← b1,← b2]
 cases (List.range N).any fun k => !decide (o1.getD k 0=o2.getD k 0)
 ·simp only[AfI,AfK,f1']
  cases ts.any (AQX ts)<;>cases (List.range (Be N+1)).any (AIw N ts)<;>rfl
 ·rfl
theorem AXG{A B:List Edge}{x:Edge}(h:(A++x::B).Pairwise C4):A++B=(A++x::B).filter fun e=>decide (e≠x):=by
 have hA:∀ e∈A,e≠x:=fun e he=>by
  rw[AhB]at h
  have:=h.2.2 e he x (by simp)
  rintro rfl
  unfold C4 at this;omega
 have hB:∀ e∈B,e≠x:=fun e he=>by
  rw[AhB,Aft]at h
  have:=h.2.1.1 e he
  rintro rfl
  unfold C4 at this;omega
 rw[AgS,AgA,AfE (by simp),Ago.2 (fun e he=>Ae3 (hA e he)),Ago.2 (fun e he=>Ae3 (hB e he))]
theorem AWz{N:Nat}{ts:List Tie}{l:List Edge}{x:Edge}(hx:x∈DK N ts l):0≤x.1∧x.1<x.2.1∧x.2.1<(N:Int)∧x∈ts.map ed:=by
 unfold DK at hx
 rw[Afe,Ou,AfZ]at hx
 exact⟨hx.1.1,hx.1.2.1,hx.1.2.2.1,hx.2⟩
theorem PA(N:Nat)(ts:List Tie)(l:List Edge):(DK N ts l).Pairwise C4:=(UX N l).filter _
theorem AEf(N:Nat)(hN:N≤64)(ts:List Tie)(l:List Edge):(DK N ts l).length≤4096:=AgD (Agg _ _) (Oe N hN l)
theorem AR5{N:Nat}{ts:List Tie}(h:RG2 N ts)(hs:Snd N (Be N:Int) ts)(l:List Edge)(hl:l.length<1073741824):
  (¬ AUD N l∧Tc (((N:Int),(ts,())),l,())=some (((N:Int),(ts,())),[],10,())) ∨
  (AUD N l∧∃ O outs,Tc (((N:Int),(ts,())),l,())=some (((N:Int),(O,())),outs,0,())∧RG2 N O∧Snd N (Be N:Int) O∧O.map ed=(ts.map ed).filter (fun e=>decide (e∉DK N ts l))∧outs.length=(DK N ts l).length):=by
 have hg:=PB h l hl
 rw[Tb,MZ]
 by_cases hall:∀ e∈l,In (N:Int) e.1∧In (N:Int) e.2.1
 ·right
  refine⟨hall,?_⟩
  rw[AfJ hall]at hg
  simp only[hg,CM,AfB]
  have hgl:=AEf N h.hN ts l
  have hgp:=PA N ts l
  have hgm:=fun x=>AWz (N:=N) (ts:=ts) (l:=l) (x:=x)
  generalize DK N ts l=xs at *
  have key:∀ (m i cnt:Nat) (O:List Tie) (outs:List (Bool×Bool×Edge×Int×Unit)),i+m=xs.length→m<cnt→outs.length=i→RG2 N O→Snd N (Be N:Int) O→O.map ed=(ts.map ed).filter (fun e=>decide (e∉xs.take i)) →
    ∃ O' outs',AP B2 cnt ((N:Int),ts,(0:Int),xs,outs,(N:Int),O,(i:Int),())=some (.inr (.inl ((0:Int),outs',(N:Int),O',())))∧RG2 N O'∧Snd N (Be N:Int) O'∧O'.map ed=(ts.map ed).filter (fun e=>decide (e∉xs))∧outs'.length=xs.length:=by
   intro m
   induction m with
   |zero=>
    intro i cnt O outs hi hc ho hR hS hE
    obtain⟨cnt,rfl⟩:∃ c,cnt=c+1:=⟨cnt-1,by omega⟩
    rw[Af5 (by omega)]at hE
    refine⟨O,outs,?_,hR,hS,hE,by omega⟩
    rw[AP,B2,AK,AI,Ae2 (by omega)]
   |succ m ih=>
    intro i cnt O outs hi hc ho hR hS hE
    obtain⟨cnt,rfl⟩:∃ c,cnt=c+1:=⟨cnt-1,by omega⟩
    have hi':i<xs.length:=by omega
    have hx:xs[i]? = some xs[i]:=Ae8 hi'
    have hxm:=hgm xs[i] (AgC hi')
    have hnt:xs[i]∉xs.take i:=fun hh=>by
     obtain⟨j,hj,e⟩:=Agr.1 hh
     have:=(Af4.1 hgp) j i (by omega) hi' (by omega)
     rw[e]at this
     unfold C4 at this;omega
    have htk:xs.take (i+1)=xs.take i++[xs[i]]:=Afw hi'
    rw[AP,B2,AK,AI,Ae3 hi']
    simp only[Ac hx,CN hx]
    generalize xs[i]=x at *
    have hxO:x∈O.map ed:=by rw[hE,Afe];exact⟨hxm.2.2.2,Ae3 hnt⟩
    obtain⟨t,htO,hte⟩:=AfQ.1 hxO
    obtain⟨f1,k,f2,f3,f4⟩:=Aa4 hR.oks htO
    have ex1:t.1=x.1:=by rw[← hte];rfl
    have ex2:t.2.1=x.2.1:=by rw[← hte];rfl
    rw[ex1,ex2]at f1 f2
    have one:=NM hR x.1 x.2.1
    rcases one with⟨q,_⟩|⟨_,q,_⟩|⟨_,_,t',g1,g2⟩
    ·exact absurd ⟨⟨by omega,by omega⟩,by omega,by omega⟩ q
    ·rw[f1]at q;cases q
    ·rw[f2,f4]at g1
     cases g1
     rw[f2]at g2
     obtain⟨r1,r2,r3,_⟩:=AWx hR hS f4
     have hspl:O=O.take k++t::O.drop (k+1):=by
      have hpe:O[k]=t:=(Afc.1 f4).2
      conv=>lhs;rw[← Afv k O,Afn f3,hpe]
     have hE2:(EE N O k t).1.map ed=(ts.map ed).filter (fun e=>decide (e∉xs.take (i+1))):=by
      rw[r3,AgM]
      have hp:=hR.edP
      rw[hspl,AgM,AfR,hte]at hp
      rw[AXG hp]
      have:(O.take k).map ed++x::(O.drop (k+1)).map ed=O.map ed:=by
       conv=>rhs;rw[hspl]
       rw[AgM,AfR,hte]
      rw[this,hE,List.filter_filter]
      refine Agz fun e _ => ?_
      rw[htk,Af9]
      simp only[Ae9,Ae6,Ae7,AfV,not_or]
      exact⟨fun q=>⟨q.2,q.1⟩,fun q=>⟨q.2,q.1⟩⟩
     have fin:=ih (i+1) cnt (EE N O k t).1 (outs++[AXn t.2.2.2.1 (EE N O k t).2.1 (EE N O k t).2.2]) (by omega) (by omega) (by rw[AfC,ho];rfl) r1 r2 hE2
     simp only[g2,CM,AfB]
     rw[BE (by simp only[AK,AfD,AfO];omega),AG (by omega)]
     exact fin
  obtain⟨O,outs,e,r1,r2,r3,r4⟩:=key xs.length 0 many ts [] (by omega) (by simp only[many];omega) rfl h hs (by
   rw[List.take_zero]
   refine(Ago.2 fun e _ => ?_).symm
   simp)
  have e':AR B2 many ((N:Int),ts,(0:Int),xs,[],(N:Int),ts,(0:Int),())=_:=(Aa _ _ _).trans e
  refine⟨O,outs,?_,r1,r2,r3,r4⟩
  simp only[e']
 ·left
  refine⟨hall,?_⟩
  rw[AfE hall]at hg
  simp only[hg,Ak]
  rfl
end Go.Pev.Pl
end
section
namespace Go.Pev.Pl
section
variable {N top:Nat} {ts w:List Tie} (hp:w.Perm ts) (hi:∀ x∈ts,InE N (ed x)) (hl:∀ t∈ts,0≤t.2.2.1∧t.2.2.1≤(top:Int)) (hfo:Fo N (trk ts 0)) (hlie:∀ x∈ts,x.2.2.2.1=false→Con (trk ts x.2.2.1) x.1 x.2.1)
include hp hi
include hl hfo hlie
end
end Go.Pev.Pl
end
section
namespace Go.Pev.Pl
open Tok
end Go.Pev.Pl
end
section
namespace Go.Pev.Pl
open Tok
def bef(x y:Tie):Prop:=y.2.2.1<x.2.2.1∨(x.2.2.1=y.2.2.1∧ahead x y)
theorem bef.trans{x y z:Tie}(h:bef x y)(h':bef y z):bef x z:=by
 unfold bef ahead at *
 omega
def Mrg(u v w:List Tie):Prop:=w.Perm (u++v)∧w.Pairwise bef
end Go.Pev.Pl
end
section
namespace Go.Pev.Pl
open Tok
noncomputable section
end
theorem Mrg.append{u1 u2 v1 v2 w1 w2:List Tie}(h1:Mrg u1 v1 w1)(h2:Mrg u2 v2 w2)(hu:(u1++u2).Pairwise bef)(hv:(v1++v2).Pairwise bef)(c1:∀ x∈u1,∀ y∈v2,bef x y)(c2:∀ y∈v1,∀ x∈u2,bef y x):Mrg (u1++u2) (v1++v2) (w1++w2):=by
 rw[AhB]at hu hv
 refine⟨?_,?_⟩
 ·refine(h1.1.append h2.1).trans ?_
  rw[Afm,Afm]
  refine List.Perm.append_left _ ?_
  rw[← Afm,← Afm]
  exact List.Perm.append_right _ Agf
 ·rw[AhB]
  refine⟨h1.2,h2.2,fun x hx y hy => ?_⟩
  have hx:=Ae7.1 (h1.1.mem_iff.1 hx)
  have hy:=Ae7.1 (h2.1.mem_iff.1 hy)
  rcases hx with hx|hx<;>rcases hy with hy|hy
  ·exact hu.2.2 x hx y hy
  ·exact c1 x hx y hy
  ·exact c2 x hx y hy
  ·exact hv.2.2 x hx y hy
end Go.Pev.Pl
end
section
namespace Go.Pev.Pl
open Tok
end Go.Pev.Pl
end
section
namespace Go.Pev.Pl
open Tok
end Go.Pev.Pl
end
section
namespace Go.Pev.Pl
open Tok
theorem AKQ(l:List Edge)(hs:l.length<1073741824):SC (l,l,())=some (true,()):=by
 rw[ADz,Pu,AK,Ak]
 have e:=Fg (step:=Fi) (fun i=>(l,l,(i:Int),())) l (fun _=>false) (fun _=>.inl (false,())) (.inr (.inl ())) (by omega)
  (fun i x hi hx=>by
   rw[Fi,AK,AI,Ae3 hi]
   simp only[Ac hx,Ak,AfG,AhG,AfB]
   rw[AG (by omega)]
   rfl)
  (by rw[Fi,AK,AI,Ae2 (by omega)])
 have e':AR Fi many (l,l,(0:Int),())=_:=e
 have hf:(l.any fun _=>false)=false:=by simp
 rw[e',hf]
 simp
def lvl(ts:List Tie)(k:Int):List Tie:=ts.filter fun t=>decide (t.2.2.1=k)
end Go.Pev.Pl
end
section
namespace Go.Pev.Pl
open Tok
section
variable (n:Int) (ts:List Tie)
end
end Go.Pev.Pl
end
section
namespace Go.Pev.Pl
open Tok
def mid(f:Int→Int)(xs:List Int)(i:Nat):List Int:=(xs.take i).map f++xs.drop i
def lb(at0:List Int)(v:Int):Int:=at0.getD v.toNat 0
end Go.Pev.Pl
end
section
namespace Go.Pev.Pl
open Tok
end Go.Pev.Pl
end
section
namespace Go.Pev.Pl
section
variable {α β:Type} [DecidableEq α]
theorem AAU(es:List (α×β))(k:α)(v:β)(j:α):AS (Ag es k v) j=if j=k then some v else AS es j:=by
 induction es with
 |nil=>
  simp only[Ag,AS]
  by_cases h:j=k
  ·rw[AfJ h,AfJ h.symm]
  ·rw[AfE h,AfE (Afz h)]
 |cons e es ih=>
  obtain⟨a,x⟩:=e
  by_cases h1:a=k
  ·subst h1
   simp only[Ag,AS,AfY]
   by_cases h:j=a
   ·rw[AfJ h,AfJ h.symm]
   ·rw[AfE h,AfE (Afz h),AfE (Afz h)]
  ·simp only[Ag,AS,h1,AfK,ih]
   by_cases h:a=j
   ·subst h
    rw[AfJ rfl,AfE h1,AfJ rfl]
   ·rw[AfE h,AfE h]
theorem AD8:∀ (es:List (α×β)) (k:α),D4 es k=none→∀ v,Ag es k v=es++[(k,v)]:=by
 intro es
 induction es with
 |nil=>intro k _ v;rfl
 |cons e es ih=>
  intro k h v
  obtain⟨a,b⟩:=e
  by_cases hk:a=k
  ·simp[D4,hk]at h
  ·simp only[D4,hk,AfK,Ahz]at h
   simp only[Ag,hk,AfK,ih k h v,Afa]
theorem AD7:∀ (es:List (α×β)) (k:α) (n:Nat),D4 es k=some n→∀ v,n<es.length∧Ag es k v=es.modify n fun e=>(e.1,v):=by
 intro es
 induction es with
 |nil=>intro k n h;simp[D4]at h
 |cons e es ih=>
  intro k n h v
  obtain⟨a,b⟩:=e
  by_cases hk:a=k
  ·simp only[D4,hk,AfY,Ae4]at h
   subst h
   simp[Ag,hk]
  ·simp only[D4,hk,AfK,AfP]at h
   obtain⟨m,hm,rfl⟩:=h
   obtain⟨h1,h2⟩:=ih k m hm v
   simp only[Ag,hk,AfK,AfD]
   exact⟨by omega,by rw[h2];rfl⟩
theorem AQg(es:List (α×β))(k:α)(z v:β):(ile (0:Int) (Wl es k)&&ilt (Wl es k) (AM (Ag es k z)))=true∧AVt (Ag es k z) (Wl es k) v=Ag es k v:=by
 rw[Ap,Am]
 unfold Wl AVt
 cases h:D4 es k with
 |none=>
  rw[AD8 es k h,AD8 es k h,Option.getD_none,Afy]
  constructor
  ·rw[Ae3 (by omega),Ae3 (by rw[AK,AfC];simp;omega)];rfl
  ·have:∀ (xs:List (α×β)),(xs++[(k,z)]).modify xs.length (fun e=>(e.1,v))=xs++[(k,v)]:=by
    intro xs
    induction xs with
    |nil=>rfl
    |cons x xs ih=>rw[Afa,AfD,List.modify_succ_cons,ih];rfl
   exact this es
 |some n=>
  obtain⟨h1,h2⟩:=AD7 es k n h z
  obtain⟨_,h3⟩:=AD7 es k n h v
  rw[h2,h3,Afh,Afy]
  constructor
  ·rw[Ae3 (by omega),Ae3 (by rw[AK,List.length_modify];omega)];rfl
  ·apply AhI
   intro i
   simp only[List.getElem?_modify]
   cases es[i]? with
   |none=>split<;>rfl
   |some e=>split<;>rfl
end
end Go.Pev.Pl
end
section
namespace Go.Pev.Pl
open Tok
end Go.Pev.Pl
end
section
namespace Go.Pev.Pl
open Tok
theorem QW(p x:Tie):Da (p,x,())=some (if ahead p x then -1 else if p.1=x.1∧p.2.1=x.2.1 then 0 else 1,()):=by
 rw[MK,H5]
 simp only[Ks,AG7]
 congr 2
 unfold PU ahead
 repeat' split
 all_goals omega
theorem AbT{ts:List Tie}(ht:ts.length≤400)(hp:ts.Pairwise ahead)(g:Tie):∃ k:Nat,k≤ts.length∧(∀ j t,ts[j]? = some t→(j<k↔ahead t g)) ∧
  AXf (ts,g,())=some ((k:Int),match ts[k]? with|some t=>decide (t.1=g.1∧t.2.1=g.2.1)|none=>false,()):=by
 have hahead:∀ (i j:Nat) (t t':Tie),i≤j→ts[i]? = some t→ts[j]? = some t'→ahead t' g→ahead t g:=by
  intro i j t t' hij h1 h2 h3
  by_cases e:i=j
  ·subst e
   rw[h1]at h2
   cases h2
   exact h3
  ·have hj:=(Afc.1 h2).1
   have hi:=(Afc.1 h1).1
   have:=Af4.1 hp i j hi hj (by omega)
   rw[(Afc.1 h1).2,(Afc.1 h2).2]at this
   exact this.trans h3
 obtain⟨g1,g2,g3,g4,⟨⟩⟩:=g
 obtain⟨k,_,k2,k3,k4,k5⟩:=Aey (step:=Kt) (fun i j=>(ts,g1,g2,g3,g4,(ts.length:Int),(i:Int),(j:Int),())) (fun i=>match ts[i]? with|some t=>decide (ahead t (g1,g2,g3,g4,()))|none=>false)
  (fun i=>.inl (ts,g1,g2,g3,g4,(ts.length:Int),(i:Int),())) 0 ts.length (AhX _) (by omega)
  (fun i j _ hij hj=>by
   have hm:(i+j)/2<ts.length:=by omega
   have hx:ts[(i+j)/2]? = some ts[(i+j)/2]:=by simp[hm]
   have hs:shr? .u64 (((i+j:Nat)):Int) (1:Int)=some (((i+j)/2:Nat):Int):=XK (i+j) 1 (by omega)
   rw[Kt,AI,Ae3 hij]
   simp only[]
   rw[show((i:Int)+(j:Int))=((i+j:Nat):Int) by omega,Aj (n:=((i+j:Nat):Int)) (by omega),AXm (i+j) (by omega)]
   simp only[hs,Aj (n:=(((i+j)/2:Nat):Int)) (by omega),Ac hx]
   have hc:=QW ts[(i+j)/2] (g1,g2,g3,g4,())
   have hc':Da (((ts[(i+j)/2]).1,((ts[(i+j)/2]).2.1,((ts[(i+j)/2]).2.2.1,((ts[(i+j)/2]).2.2.2.1,())))),(g1,(g2,(g3,(g4,())))),())=_:=hc
   simp only[hc',hx]
   by_cases ha:ahead ts[(i+j)/2] (g1,g2,g3,g4,())
   ·simp only[AfJ ha,Ae3 ha,AfY]
    rw[Am,Ae3 (by omega),AG (by omega)]
   ·simp only[AfE ha,Ae2 ha]
    rw[Am,Ae2 (by split<;>omega)]
    rfl)
  (fun i _ _=>by rw[Kt,AI,Ae2 (by omega)])
  (fun x y _ hxy hy h=>by
   have hx':x<ts.length:=by omega
   have e1:ts[x]? = some ts[x]:=by simp[hx']
   have e2:ts[y]? = some ts[y]:=by simp[hy]
   simp only[e2,AfZ]at h
   simp only[e1,AfZ]
   exact hahead x y _ _ hxy e1 e2 h)
 refine⟨k,k2,fun j t hj => ?_,?_⟩
 ·have hjl:=(Afc.1 hj).1
  constructor
  ·intro h
   have:=k3 j (AhX _) h
   simpa [hj]using this
  ·intro h
   refine Afo fun hn => ?_
   have:=k4 j (by omega) hjl
   simp[hj]at this
   exact this h
 ·rw[AUB,AIv]
  have k5':AR Kt many (ts,g1,g2,g3,g4,AM ts,(0:Int),AM ts,())=_:=k5
  simp only[k5']
  by_cases hk:k<ts.length
  ·have hx:ts[k]? = some ts[k]:=by simp[hk]
   have hna:¬ ahead ts[k] (g1,g2,g3,g4,()):=by
    have:=k4 k (AfH _) hk
    simpa [hx]using this
   have hc:=QW ts[k] (g1,g2,g3,g4,())
   have hc':Da (((ts[k]).1,((ts[k]).2.1,((ts[k]).2.2.1,((ts[k]).2.2.2.1,())))),(g1,(g2,(g3,(g4,())))),())=_:=hc
   rw[AI,Ae3 hk]
   simp only[Ac hx,hc',hx,AfE hna,Ak]
   by_cases he:(ts[k]).1=g1∧(ts[k]).2.1=g2
   ·simp only[AfJ he,Ae3 he,AfG]
   ·simp only[AfE he,Ae2 he]
    rfl
  ·have hx:ts[k]? = none:=Afx (by omega)
   rw[AI,Ae2 hk]
   simp only[hx]
theorem AWJ{N:Nat}{ts:List Tie}(h:RG2 N ts)(u v:Int):AMS (((N:Int),(ts,())),u,v,())=some (if ts.any (Bo u v)then((ts.findIdx (Bo u v):Nat):Int)else -1,()):=by
 have hp:=((KR N ts).1 h.oks).2
 obtain⟨k,k1,k2,k3⟩:=AbT h.ht hp (min u v,max u v,0,false,())
 rw[AMR,XY]
 simp only[h.lr,AfB,AEQ,QU,Ir,Qg]
 have k3':AXf (ts,(min u v,(max u v,((0:Int),(false,())))),())=_:=k3
 simp only[k3']
 cases hx:ts[k]? with
 |none=>
  have hall:ts.any (Bo u v)=false:=by
   rw[Ag0]
   intro t ht hat
   obtain⟨j,hj,rfl⟩:=Af7 ht
   have hj':ts[j]? = some ts[j]:=by simp[hj]
   have hjk:j<k:=by
    have:=List.getElem?_eq_none_iff.1 hx
    omega
   have ha:=(k2 j _ hj').1 hjk
   unfold Bo at hat
   rw[AfZ]at hat
   unfold ahead at ha
   simp only at ha
   omega
  rw[hall]
  rfl
 |some t=>
  by_cases he:t.1=min u v∧t.2.1=max u v
  ·have hk:=(Afc.1 hx)
   obtain⟨hkl,hke⟩:=hk
   have hat:Bo u v t=true:=by unfold Bo;rw[AfZ];exact he
   have hany:ts.any (Bo u v)=true:=AgB.2 ⟨t,AfM hx,hat⟩
   have hfi:ts.findIdx (Bo u v)=k:=by
    rw[List.findIdx_eq hkl,hke]
    refine⟨hat,fun j hj => ?_⟩
    have hj':ts[j]? = some ts[j]:=by simp
    have ha:=(k2 j _ hj').1 hj
    unfold Bo
    rw[Afs]
    unfold ahead at ha
    simp only at ha
    omega
   simp only[Ae3 he,AfB]
   rw[hany,hfi]
   rfl
  ·have hall:ts.any (Bo u v)=false:=by
    rw[Ag0]
    intro t' ht' hat
    obtain⟨j,hj,rfl⟩:=Af7 ht'
    have hj':ts[j]? = some ts[j]:=by simp[hj]
    unfold Bo at hat
    rw[AfZ]at hat
    obtain⟨hkl,hke⟩:=Afc.1 hx
    rcases AhJ j k with hjk|hjk|hjk
    ·have ha:=(k2 j _ hj').1 hjk
     unfold ahead at ha
     simp only at ha
     omega
    ·subst hjk
     rw[hke]at hat
     exact he hat
    ·have ha:=Af4.1 hp k j hkl hj hjk
     rw[hke]at ha
     have hna:¬ ahead t (min u v,max u v,0,false,()):=fun hh=>by
      have:=(k2 k t hx).2 hh
      omega
     unfold ahead at ha hna
     simp only at hna
     omega
   simp only[Ae2 he,AfX]
   rw[hall]
   rfl
end Go.Pev.Pl
end
section
namespace Go.Pev.Pl.SI
open Go.Sort
theorem B0(x y:Int):ED (x,y,())=some (ltInt x y,()):=by
 simp only[AMT,XZ,XW,Sq,Am,D6,ltInt]
 by_cases h:x<y<;>simp[h]
theorem Ac1(a b i:Nat):∀ (j:Nat) (d:Array Int) (n:Nat),j<d.size→d.size<4611686018427387904→j<n →
  AP NZ n (d.toList,(a:Int),(b:Int),(i:Int),(j:Int),())=some (.inl ((insInner ltInt a j d).toList,(a:Int),(b:Int),(i:Int),())):=by
 intro j
 induction j with
 |zero=>
  intro d n hj hs hn
  obtain⟨n,rfl⟩:∃ k,n=k+1:=⟨n-1,by omega⟩
  have h0:ilt (a:Int) ((0:Nat):Int)=false:=by rw[AI];simp
  simp only[AP,NZ,h0,insInner]
 |succ j ih=>
  intro d n hj hs hn
  obtain⟨n,rfl⟩:∃ k,n=k+1:=⟨n-1,by omega⟩
  have e1:IntKind.wrap .i64 (((j+1:Nat):Int)-1)=(j:Int):=by rw[Aj (by omega)];omega
  have hj':j<d.size:=by omega
  simp only[AP,NZ,AI,e1,Ah hj,Ah hj',Ar hj,Ar hj',B0,insInner,Ag9]
  by_cases h1:a<j+1
  ·cases h2:ltInt d[j+1]! d[j]!
   ·simp only[h1,AfG,h2,AhO,AfI,AfK]
   ·simp only[h1,AfG,h2,Ahk,AfY,C1]
    rw[Ah (by simpa using hj')]
    simp only[C7]
    exact ih (swp d (j+1) j) n (by rw[size_swp];omega) (by rw[size_swp];omega) (by omega)
  ·simp only[h1,AfL,Aga,AfI,AfK]
theorem CZ(lt:Int→Int→Bool)(a j:Nat)(d:Array Int):(insInner lt a j d).size=d.size:=by
 induction j generalizing d with
 |zero=>rfl
 |succ j ih=>
  rw[insInner]
  split
  ·rw[ih,size_swp]
  ·rfl
theorem AaR(a b:Nat):∀ (k i:Nat) (d:Array Int) (n:Nat),b-i=k→b≤d.size→d.size<4611686018427387904→d.size<many→k<n →
  AP Na n (d.toList,(a:Int),(b:Int),(i:Int),())=some (.inl ((insOuter ltInt a b i d).toList,())):=by
 intro k
 induction k with
 |zero=>
  intro i d n hk hb hs hm hn
  obtain⟨n,rfl⟩:∃ k,n=k+1:=⟨n-1,by omega⟩
  have h0:¬ i<b:=by omega
  rw[insOuter]
  simp only[AP,Na,AI,h0,AfL,AfK]
 |succ k ih=>
  intro i d n hk hb hs hm hn
  obtain⟨n,rfl⟩:∃ k,n=k+1:=⟨n-1,by omega⟩
  have h0:i<b:=by omega
  have e1:IntKind.wrap .i64 ((i:Int)+1)=((i+1:Nat):Int):=by rw[Aj (by omega)];omega
  rw[insOuter]
  simp only[AP,Na,AI,h0,AfG,AfY,Aa]
  rw[Ac1 a b i i d many (by omega) hs (by omega)]
  simp only[e1]
  exact ih (i+1) _ n (by omega) (by rw[CZ];omega) (by rw[CZ];omega) (by rw[CZ];omega) (by omega)
theorem AaQ(d:Array Int)(a b:Nat)(hab:a≤b)(hb:b≤d.size)(hs:d.size<4294967296):AWW (d.toList,(a:Int),(b:Int),())=some ((insertionSort ltInt d a b).toList,()):=by
 have hm:d.size<many:=by simp only[many];omega
 have e1:IntKind.wrap .i64 ((a:Int)+1)=((a+1:Nat):Int):=by rw[Aj (by omega)];omega
 rw[ATr,AHn]
 simp only[e1,Aa]
 rw[AaR a b (b-(a+1)) (a+1) d many rfl hb (by omega) hm (by omega)]
 rfl
end Go.Pev.Pl.SI
end
section
namespace Go.Pev.Pl.SI
open Go.Sort
theorem AOp(hi first:Nat):∀ (k root:Nat) (d:Array Int) (n:Nat),hi-root=k→root≤hi→first+hi≤d.size→d.size<4294967296→(hi=0∨root<hi)→k<n →
  AP JU n (d.toList,(hi:Int),(first:Int),(root:Int),())=some (.inl ((siftDown ltInt hi first root d).toList,())) ∨
  AP JU n (d.toList,(hi:Int),(first:Int),(root:Int),())=some (.inr (.inl ((siftDown ltInt hi first root d).toList,()))):=by
 intro k
 induction k using Nat.strongRecOn with
 |_ k ih=>
 intro root d n hk hr hf hs hz hn
 obtain⟨n,rfl⟩:∃ k,n=k+1:=⟨n-1,by omega⟩
 rw[siftDown]
 simp (disch:=omega) only[AP,JU,ADY,AG,wrap_add,Bn,AI]
 by_cases h1:hi≤2*root+1
 ·simp only[h1,AfG,ge_iff_le,dite_true,true_or]
 ·have i0:first+root<d.size:=by omega
  have i1:first+(2*root+1)<d.size:=by omega
  simp only[h1,AfL,ge_iff_le,AfK,dite_false]
  simp (disch:=omega) only[Ah,Ar,B0]
  by_cases h2:2*root+1+1<hi
  ·have i2:first+(2*root+2)<d.size:=by omega
   have i3:2*root+1+1=2*root+2:=by omega
   have i4:first+(2*root+1)+1=first+(2*root+2):=by omega
   have h3:2*root+2<hi:=by omega
   simp only[i3,i4,h3,AfG]
   simp (disch:=omega) only[Ah,Ar,B0,C1]
   cases h4:ltInt d[first+(2*root+1)]! d[first+(2*root+2)]!
   ·simp only[AhO,AfI,AfK]
    cases h5:ltInt d[first+root]! d[first+(2*root+1)]!
    ·simp
    ·simp only[AfB,AfI,AfK]
     rw[Ah (by simpa using i1)]
     simp only[C7]
     exact ih (hi-(2*root+1)) (by omega) (2*root+1) _ n rfl (by omega) (by rw[size_swp];omega) (by rw[size_swp];omega) (by omega) (by omega)
   ·simp only[Ahk,AfY]
    cases h5:ltInt d[first+root]! d[first+(2*root+2)]!
    ·simp
    ·simp only[AfB,AfI,AfK,dite_true]
     rw[Ah (by simpa using i2)]
     simp only[C7]
     exact ih (hi-(2*root+2)) (by omega) (2*root+2) _ n rfl (by omega) (by rw[size_swp];omega) (by rw[size_swp];omega) (by omega) (by omega)
  ·simp only[h2,AfL,Aga,AfI,AfK,C1]
   cases h5:ltInt d[first+root]! d[first+(2*root+1)]!
   ·simp
   ·simp only[AfB,AfI,AfK]
    rw[Ah (by simpa using i1)]
    simp only[C7]
    exact ih (hi-(2*root+1)) (by omega) (2*root+1) _ n rfl (by omega) (by rw[size_swp];omega) (by rw[size_swp];omega) (by omega) (by omega)
theorem ADq(d:Array Int)(root hi first:Nat)(hf:first+hi≤d.size)(hs:d.size<4294967296)(hz:hi=0∧root=0∨root<hi):ADr (d.toList,(root:Int),(hi:Int),(first:Int),())=some ((siftDown ltInt hi first root d).toList,()):=by
 have hm:d.size<many:=by simp only[many];omega
 rw[AKG,XI]
 simp only[Aa]
 rcases AOp hi first (hi-root) root d many rfl (by omega) hf hs (by omega) (by omega)with h|h<;>rw[h]
theorem Ba(lt:Int→Int→Bool)(hi first:Nat):∀ (k root:Nat) (d:Array Int),hi-root=k→(siftDown lt hi first root d).size=d.size:=by
 intro k
 induction k using Nat.strongRecOn with
 |_ k ih=>
 intro root d hk
 rw[siftDown]
 split
 ·rfl
 ·split
  ·split
   ·rfl
   ·split
    ·rw[ih (hi-(2*root+2)) (by omega) _ _ rfl,size_swp]
    ·rfl
  ·split
   ·rfl
   ·rw[ih (hi-(2*root+1)) (by omega) _ _ rfl,size_swp]
theorem AMs(hi first:Nat):∀ (k:Nat) (d:Array Int) (n:Nat),(hi=0∧k≤1∨k≤hi)→first+hi≤d.size→d.size<4294967296→k<n →
  AP Jl n (d.toList,(first:Int),(0:Int),(hi:Int),(k:Int)-1,())=some (.inl ((heapBuild ltInt hi first k d).toList,(first:Int),(0:Int),(hi:Int),())):=by
 intro k
 induction k with
 |zero=>
  intro d n hk hf hs hn
  obtain⟨n,rfl⟩:∃ k,n=k+1:=⟨n-1,by omega⟩
  rw[AP,Jl,Ap,Ae2 (by omega)]
  rfl
 |succ k ih=>
  intro d n hk hf hs hn
  obtain⟨n,rfl⟩:∃ k,n=k+1:=⟨n-1,by omega⟩
  have e0:((k+1:Nat):Int)-1=(k:Int):=by omega
  rw[AP,Jl,e0,Ap,Ae3 (by omega)]
  simp only[ADq d k hi first hf hs (by omega)]
  rw[Aj (by omega)]
  exact ih _ n (by omega) (by rw[Ba _ _ _ _ _ _ rfl];omega) (by rw[Ba _ _ _ _ _ _ rfl];omega) (by omega)
theorem DS(lt:Int→Int→Bool)(hi first:Nat):∀ (k:Nat) (d:Array Int),(heapBuild lt hi first k d).size=d.size:=by
 intro k
 induction k with
 |zero=>intro d;rfl
 |succ k ih=>intro d;rw[heapBuild,ih,Ba _ _ _ _ _ _ rfl]
theorem AWj(first:Nat):∀ (k:Nat) (d:Array Int) (n:Nat),first+k≤d.size→d.size<4294967296→k<n →
  AP Jk n (d.toList,(first:Int),(0:Int),(k:Int)-1,())=some (.inl ((heapPop ltInt first k d).toList,())):=by
 intro k
 induction k with
 |zero=>
  intro d n hf hs hn
  obtain⟨n,rfl⟩:∃ k,n=k+1:=⟨n-1,by omega⟩
  rw[AP,Jk,Ap,Ae2 (by omega)]
  rfl
 |succ k ih=>
  intro d n hf hs hn
  obtain⟨n,rfl⟩:∃ k,n=k+1:=⟨n-1,by omega⟩
  have e0:((k+1:Nat):Int)-1=(k:Int):=by omega
  have i0:first<d.size:=by omega
  have i1:first+k<d.size:=by omega
  rw[AP,Jk,e0,Ap,Ae3 (by omega)]
  simp (disch:=omega) only[wrap_add,Ah,Ar,C1]
  rw[Ah (by simpa using i1)]
  simp only[C7]
  have:=ADq (swp d first (first+k)) 0 k first (by rw[size_swp];omega) (by rw[size_swp];omega) (by omega)
  simp only[Int.natCast_zero]at this
  simp only[this]
  rw[Aj (by omega)]
  exact ih _ n (by rw[Ba _ _ _ _ _ _ rfl,size_swp];omega) (by rw[Ba _ _ _ _ _ _ rfl,size_swp];omega) (by omega)
theorem AWi(d:Array Int)(a b:Nat)(hab:a<b)(hb:b≤d.size)(hs:d.size<4294967296):AEe (d.toList,(a:Int),(b:Int),())=some ((heapSort ltInt d a b).toList,()):=by
 have hm:4294967296<many:=by simp only[many];omega
 rw[AMr,Xb]
 simp (disch:=omega) only[Bd,Ao,AYu,Aa]
 have e:(((b-a-1)/2:Nat):Int)=(((b-a-1)/2+1:Nat):Int)-1:=by omega
 rw[e,AMs (b-a) a _ d many (by omega) (by omega) hs (by omega)]
 have e2:(((b-a-1:Nat)):Int)=((b-a:Nat):Int)-1:=by omega
 simp (disch:=omega) only[Ao,e2]
 rw[AWj a (b-a) _ many (by rw[DS];omega) (by rw[DS];omega) (by omega)]
 rfl
end Go.Pev.Pl.SI
end
section
namespace Go.Pev.Pl.SI
open Go.Sort
theorem AU8:∀ (k i j:Nat) (d:Array Int) (n:Nat),j-i=k→(j<d.size)→d.size<4294967296→k<n →
  AP Pz n (d.toList,(i:Int),(j:Int),())=some (.inl ((reverseLoop i j d).toList,())):=by
 intro k
 induction k using Nat.strongRecOn with
 |_ k ih=>
 intro i j d n hk hj hs hn
 obtain⟨n,rfl⟩:∃ k,n=k+1:=⟨n-1,by omega⟩
 rw[reverseLoop,AP,Pz]
 simp only[AI]
 by_cases h:i<j
 ·have hi:i<d.size:=by omega
  simp only[h,AfG,AfY,Ah hj,Ah hi,Ar hi,Ar hj,C1]
  rw[Ah (by simpa using hj)]
  simp (disch:=omega) only[C7,AG,Ao]
  exact ih (j-1-(i+1)) (by omega) (i+1) (j-1) _ n rfl (by rw[size_swp];omega) (by rw[size_swp];omega) (by omega)
 ·simp only[h,AfL,AfK]
theorem AYm(d:Array Int)(a b:Nat)(hab:a<b)(hb:b≤d.size)(hs:d.size<4294967296):AU9 (d.toList,(a:Int),(b:Int),())=some ((reverseRange d a b).toList,()):=by
 have hm:4294967296<many:=by simp only[many];omega
 rw[ATE,AGE]
 simp (disch:=omega) only[Ao,Aa]
 rw[AU8 (b-1-a) a (b-1) d many rfl (by omega) hs (by omega)]
 rfl
theorem D2{d:Array Int}{i j:Nat}(hi:i<d.size)(hj:j<d.size):idx (An d.toList (AE (i:Int)) (AL d.toList (AE (j:Int)) 0)) (j:Int)=some (d.setIfInBounds i d[j]!)[j]! ∧
  An (An d.toList (AE (i:Int)) (AL d.toList (AE (j:Int)) 0)) (AE (j:Int)) (AL d.toList (AE (i:Int)) 0)=(swp d i j).toList:=by
 rw[Ar hi,Ar hj,C1,C1]
 exact⟨Ah (by simpa using hj),rfl⟩
theorem AF6(step:List Int×Int×Int×Int×Unit→Option ((List Int×Int×Int×Int×Unit)⊕(List Int×Int×Int×Int×Unit)⊕Unit))(p:Int→Bool)(d:Array Int)(a j:Nat)(hs:d.size<4294967296)(hj:j<d.size)
  (h:∀ i:Nat,i≤d.size→step (d.toList,(a:Int),(i:Int),(j:Int),())=if i≤j∧p d[i]! then some (.inl (d.toList,(a:Int),((i+1:Nat):Int),(j:Int),()))else some (.inr (.inl (d.toList,(a:Int),(i:Int),(j:Int),())))) :
  ∀ (k i n:Nat),j+1-i=k→i≤d.size→k<n→AP step n (d.toList,(a:Int),(i:Int),(j:Int),())=some (.inl (d.toList,(a:Int),((scanUp p d j i:Nat):Int),(j:Int),())):=by
 intro k
 induction k using Nat.strongRecOn with
 |_ k ih=>
 intro i n hk hi hn
 obtain⟨n,rfl⟩:∃ k,n=k+1:=⟨n-1,by omega⟩
 rw[scanUp,AP,h i hi]
 by_cases h1:i≤j∧p d[i]! = true
 ·rw[AfJ h1,AfJ (by simpa using h1)]
  exact ih (j+1-(i+1)) (by omega) (i+1) n rfl (by omega) (by omega)
 ·rw[AfE h1,AfE (by simpa using h1)]
theorem SA(step:List Int×Int×Int×Int×Unit→Option ((List Int×Int×Int×Int×Unit)⊕(List Int×Int×Int×Int×Unit)⊕Unit))(p:Int→Bool)(d:Array Int)(a i:Nat)(hi:1≤i)
  (h:∀ j:Nat,j<d.size→step (d.toList,(a:Int),(i:Int),(j:Int),())=if i≤j∧p d[j]! then some (.inl (d.toList,(a:Int),(i:Int),((j-1:Nat):Int),()))else some (.inr (.inl (d.toList,(a:Int),(i:Int),(j:Int),())))) :
  ∀ (j n:Nat),j<d.size→j<n→AP step n (d.toList,(a:Int),(i:Int),(j:Int),())=some (.inl (d.toList,(a:Int),(i:Int),((scanDown p d i j:Nat):Int),())):=by
 intro j
 induction j with
 |zero=>
  intro n hj hn
  obtain⟨n,rfl⟩:∃ k,n=k+1:=⟨n-1,by omega⟩
  rw[AP,h 0 hj,AfE (by omega)]
  rfl
 |succ j ih=>
  intro n hj hn
  obtain⟨n,rfl⟩:∃ k,n=k+1:=⟨n-1,by omega⟩
  rw[scanDown,AP,h (j+1) hj]
  by_cases h1:i≤j+1∧p d[j+1]! = true
  ·rw[AfJ h1,AfJ (by simpa using h1)]
   exact ih n (by omega) (by omega)
  ·rw[AfE h1,AfE (by simpa using h1)]
section
variable (d:Array Int) (a i j:Nat) (hs:d.size<4294967296) (ha:a<d.size) (hj:j<d.size)
include hs ha hj
theorem ALi(hi:i≤d.size):L4 (d.toList,(a:Int),(i:Int),(j:Int),())=if i≤j∧(fun x=>ltInt x d[a]!) d[i]! = true then some (.inl (d.toList,(a:Int),((i+1:Nat):Int),(j:Int),()))else some (.inr (.inl (d.toList,(a:Int),(i:Int),(j:Int),()))):=by
 rw[L4]
 simp only[Bn]
 by_cases h:i≤j
 ·have hi':i<d.size:=by omega
  simp (disch:=omega) only[h,AfG,Ah,Ar,B0,AG,Agp]
  cases ltInt d[i]! d[a]!<;>simp
 ·simp only[h,AfL,Agd,AfK]
theorem ALd(hi:i≤d.size):Lz (d.toList,(a:Int),(i:Int),(j:Int),())=if i≤j∧(fun x=>ltInt x d[a]!) d[i]! = true then some (.inl (d.toList,(a:Int),((i+1:Nat):Int),(j:Int),()))else some (.inr (.inl (d.toList,(a:Int),(i:Int),(j:Int),()))):=by
 rw[Lz]
 simp only[Bn]
 by_cases h:i≤j
 ·have hi':i<d.size:=by omega
  simp (disch:=omega) only[h,AfG,Ah,Ar,B0,AG,Agp]
  cases ltInt d[i]! d[a]!<;>simp
 ·simp only[h,AfL,Agd,AfK]
theorem ALg(hi:1≤i):L3 (d.toList,(a:Int),(i:Int),(j:Int),())=if i≤j∧(fun x => !ltInt x d[a]!) d[j]! = true then some (.inl (d.toList,(a:Int),(i:Int),((j-1:Nat):Int),()))else some (.inr (.inl (d.toList,(a:Int),(i:Int),(j:Int),()))):=by
 rw[L3]
 simp only[Bn]
 by_cases h:i≤j
 ·simp (disch:=omega) only[h,AfG,Ah,Ar,B0,Ao,Agp]
  cases ltInt d[j]! d[a]!<;>simp
 ·simp only[h,AfL,Agd,AfK]
theorem ALb(hi:1≤i):Ly (d.toList,(a:Int),(i:Int),(j:Int),())=if i≤j∧(fun x => !ltInt x d[a]!) d[j]! = true then some (.inl (d.toList,(a:Int),(i:Int),((j-1:Nat):Int),()))else some (.inr (.inl (d.toList,(a:Int),(i:Int),(j:Int),()))):=by
 rw[Ly]
 simp only[Bn]
 by_cases h:i≤j
 ·simp (disch:=omega) only[h,AfG,Ah,Ar,B0,Ao,Agp]
  cases ltInt d[j]! d[a]!<;>simp
 ·simp only[h,AfL,Agd,AfK]
theorem ACz(hi:i≤d.size):Hw (d.toList,(a:Int),(i:Int),(j:Int),())=if i≤j∧(fun x => !ltInt d[a]! x) d[i]! = true then some (.inl (d.toList,(a:Int),((i+1:Nat):Int),(j:Int),()))else some (.inr (.inl (d.toList,(a:Int),(i:Int),(j:Int),()))):=by
 rw[Hw]
 simp only[Bn]
 by_cases h:i≤j
 ·have hi':i<d.size:=by omega
  simp (disch:=omega) only[h,AfG,Ah,Ar,B0,AG,Agp]
  cases ltInt d[a]! d[i]!<;>simp
 ·simp only[h,AfL,Agd,AfK]
theorem ACx(hi:1≤i):Hv (d.toList,(a:Int),(i:Int),(j:Int),())=if i≤j∧(fun x=>ltInt d[a]! x) d[j]! = true then some (.inl (d.toList,(a:Int),(i:Int),((j-1:Nat):Int),()))else some (.inr (.inl (d.toList,(a:Int),(i:Int),(j:Int),()))):=by
 rw[Hv]
 simp only[Bn]
 by_cases h:i≤j
 ·simp (disch:=omega) only[h,AfG,Ah,Ar,B0,Ao,Agp]
  cases ltInt d[a]! d[j]!<;>simp
 ·simp only[h,AfL,Agd,AfK]
end
theorem DT(p:Int→Bool)(d:Array Int)(j i:Nat)(hj:j<d.size)(hi:i≤d.size):scanUp p d j i≤d.size:=by
 suffices h:∀ (k i:Nat),j+1-i=k→i≤d.size→scanUp p d j i≤d.size from h _ i rfl hi
 intro k
 induction k using Nat.strongRecOn with
 |_ k ih=>
 intro i hk hi
 rw[scanUp]
 split
 ·rename_i h
  have:i≤j:=by simp at h;exact h.1
  exact ih (j+1-(i+1)) (by omega) (i+1) rfl (by omega)
 ·exact hi
theorem AP9(a:Nat):∀ (k i j:Nat) (d:Array Int) (n:Nat),j+1-i=k→a<d.size→1≤i→i≤d.size→j<d.size→d.size<4294967296→k<n →
  AP L0 n (d.toList,(a:Int),(i:Int),(j:Int),())=some (.inl ((partLoop ltInt a i j d).2.toList,(a:Int),(((partLoop ltInt a i j d).1:Nat):Int),()))∧(partLoop ltInt a i j d).1≤j∧(partLoop ltInt a i j d).2.size=d.size:=by
 intro k
 induction k using Nat.strongRecOn with
 |_ k ih=>
 intro i j d n hk ha hi hi' hj hs hn
 have hm:4294967296<many:=by simp only[many];omega
 obtain⟨n,rfl⟩:∃ k,n=k+1:=⟨n-1,by omega⟩
 rw[partLoop_eq,AP,L0]
 have u1:=scanUp_ge (fun x=>ltInt x d[a]!) d j i
 have u2:=DT (fun x=>ltInt x d[a]!) d j i hj hi'
 rw[Aa,AF6 _ (fun x=>ltInt x d[a]!) d a j hs hj (fun i h=>ALd d a i j hs ha hj h) _ i many rfl hi' (by omega)]
 generalize scanUp (fun x=>ltInt x d[a]!) d j i=i2 at *
 have v1:=scanDown_le (fun x => !ltInt x d[a]!) d i2 j
 simp only[Aa]
 rw[SA _ (fun x => !ltInt x d[a]!) d a i2 (by omega) (fun j h=>ALb d a i2 j hs ha h (by omega)) j many hj (by omega)]
 generalize scanDown (fun x => !ltInt x d[a]!) d i2 j=j2 at *
 simp only[AI]
 by_cases h:j2<i2
 ·simp only[h,AfG,Ag9,AfY]
  exact⟨trivial,v1,trivial⟩
 ·have hi2:i2<d.size:=by omega
  have hj2:j2<d.size:=by omega
  simp only[h,AfL,Ag9,AfK,Ah hi2,Ah hj2,(D2 hi2 hj2).1,(D2 hi2 hj2).2]
  simp (disch:=omega) only[AG,Ao]
  obtain⟨q1,q2,q3⟩:=ih (j2-1+1-(i2+1)) (by omega) (i2+1) (j2-1) (swp d i2 j2) n rfl (by rw[size_swp];omega) (by omega) (by rw[size_swp];omega) (by rw[size_swp];omega) (by rw[size_swp];omega) (by omega)
  exact⟨q1,by omega,by rw[q3,size_swp]⟩
theorem AVb(d:Array Int)(a b p:Nat)(ha:a≤p)(hp:p<b)(hb:b≤d.size)(hs:d.size<4294967296):
  QH (d.toList,(a:Int),(b:Int),(p:Int),())=some ((partition ltInt d a b p).2.2.toList,(((partition ltInt d a b p).1:Nat):Int),(partition ltInt d a b p).2.1,()):=by
 have hm:4294967296<many:=by simp only[many];omega
 have ha':a<d.size:=by omega
 have hp':p<d.size:=by omega
 rw[ALt,XR,partition]
 simp only[Ah ha',Ah hp',(D2 ha' hp').1,(D2 ha' hp').2]
 have hs':=hs
 rw[← size_swp d a p]at ha' hs' hb
 generalize swp d a p=d at *
 simp (disch:=omega) only[AG,Ao,Aa]
 have u1:=scanUp_ge (fun x=>ltInt x d[a]!) d (b-1) (a+1)
 have u2:=DT (fun x=>ltInt x d[a]!) d (b-1) (a+1) (by omega) (by omega)
 rw[AF6 _ (fun x=>ltInt x d[a]!) d a (b-1) hs' (by omega) (fun i h=>ALi d a i (b-1) hs' ha' (by omega) h) _ (a+1) many rfl (by omega) (by omega)]
 generalize scanUp (fun x=>ltInt x d[a]!) d (b-1) (a+1)=i2 at *
 have v1:=scanDown_le (fun x => !ltInt x d[a]!) d i2 (b-1)
 simp only[]
 rw[SA _ (fun x => !ltInt x d[a]!) d a i2 (by omega) (fun j h=>ALg d a i2 j hs' ha' h (by omega)) (b-1) many (by omega) (by omega)]
 generalize scanDown (fun x => !ltInt x d[a]!) d i2 (b-1)=j2 at *
 simp only[AI]
 have hj2:j2<d.size:=by omega
 by_cases h:j2<i2
 ·simp only[h,AfG,Ag9,AfY,Ah ha',Ah hj2,(D2 hj2 ha').1,(D2 hj2 ha').2]
 ·have hi2:i2<d.size:=by omega
  simp only[h,AfL,Ag9,AfK,Ah hi2,Ah hj2,(D2 hi2 hj2).1,(D2 hi2 hj2).2]
  simp (disch:=omega) only[AG,Ao]
  obtain⟨q1,q2,q3⟩:=AP9 a (j2-1+1-(i2+1)) (i2+1) (j2-1) (swp d i2 j2) many rfl (by rw[size_swp];omega) (by omega) (by rw[size_swp];omega) (by rw[size_swp];omega) (by rw[size_swp];omega) (by omega)
  simp only[q1]
  rw[size_swp]at q3
  generalize partLoop ltInt a (i2+1) (j2-1) (swp d i2 j2)=r at *
  have h1:r.1<r.2.size:=by omega
  have h2:a<r.2.size:=by omega
  simp only[Ah h1,Ah h2,(D2 h1 h2).1,(D2 h1 h2).2]
theorem AG2(a:Nat):∀ (k i j:Nat) (d:Array Int) (n:Nat),j+1-i=k→a<d.size→1≤i→i≤d.size→j<d.size→d.size<4294967296→k<n →
  AP Hx n (d.toList,(a:Int),(i:Int),(j:Int),())=some (.inl ((partEqLoop ltInt a i j d).2.toList,(((partEqLoop ltInt a i j d).1:Nat):Int),())):=by
 intro k
 induction k using Nat.strongRecOn with
 |_ k ih=>
 intro i j d n hk ha hi hi' hj hs hn
 have hm:4294967296<many:=by simp only[many];omega
 obtain⟨n,rfl⟩:∃ k,n=k+1:=⟨n-1,by omega⟩
 rw[partEqLoop_eq,AP,Hx]
 have u1:=scanUp_ge (fun x => !ltInt d[a]! x) d j i
 have u2:=DT (fun x => !ltInt d[a]! x) d j i hj hi'
 rw[Aa,AF6 _ (fun x => !ltInt d[a]! x) d a j hs hj (fun i h=>ACz d a i j hs ha hj h) _ i many rfl hi' (by omega)]
 generalize scanUp (fun x => !ltInt d[a]! x) d j i=i2 at *
 have v1:=scanDown_le (fun x=>ltInt d[a]! x) d i2 j
 simp only[Aa]
 rw[SA _ (fun x=>ltInt d[a]! x) d a i2 (by omega) (fun j h=>ACx d a i2 j hs ha h (by omega)) j many hj (by omega)]
 generalize scanDown (fun x=>ltInt d[a]! x) d i2 j=j2 at *
 simp only[AI]
 by_cases h:j2<i2
 ·simp only[h,AfG,Ag9,AfY]
 ·have hi2:i2<d.size:=by omega
  have hj2:j2<d.size:=by omega
  simp only[h,AfL,Ag9,AfK,Ah hi2,Ah hj2,(D2 hi2 hj2).1,(D2 hi2 hj2).2]
  simp (disch:=omega) only[AG,Ao]
  exact ih (j2-1+1-(i2+1)) (by omega) (i2+1) (j2-1) (swp d i2 j2) n rfl (by rw[size_swp];omega) (by omega) (by rw[size_swp];omega) (by rw[size_swp];omega) (by rw[size_swp];omega) (by omega)
theorem ALz(d:Array Int)(a b p:Nat)(ha:a≤p)(hp:p<b)(hb:b≤d.size)(hs:d.size<4294967296):
  NH (d.toList,(a:Int),(b:Int),(p:Int),())=some ((partitionEqual ltInt d a b p).2.toList,(((partitionEqual ltInt d a b p).1:Nat):Int),()):=by
 have hm:4294967296<many:=by simp only[many];omega
 have ha':a<d.size:=by omega
 have hp':p<d.size:=by omega
 rw[Z2,NG,partitionEqual]
 simp only[Ah ha',Ah hp',(D2 ha' hp').1,(D2 ha' hp').2]
 have hs':=hs
 rw[← size_swp d a p]at ha' hs' hb
 generalize swp d a p=d at *
 simp (disch:=omega) only[AG,Ao,Aa]
 rw[AG2 a _ (a+1) (b-1) d many rfl ha' (by omega) (by omega) (by omega) hs' (by omega)]
end Go.Pev.Pl.SI
end
section
namespace Go.Pev.Pl.SI
open Go.Sort
theorem E5(d:Array Int)(b:Nat):∀ (k i:Nat),b-i=k→i≤b→i≤scanSorted ltInt d b i∧scanSorted ltInt d b i≤b:=by
 intro k
 induction k using Nat.strongRecOn with
 |_ k ih=>
 intro i hk hi
 rw[scanSorted]
 split
 ·rename_i h
  have:i<b:=by simp at h;exact h.1
  have:=ih (b-(i+1)) (by omega) (i+1) rfl (by omega)
  omega
 ·omega
theorem ACn(d:Array Int)(a b s:Nat)(hb:b≤d.size)(hs:d.size<4294967296):∀ (k i n:Nat),b-i=k→1≤i→i≤b→k<n →
  AP Ge n (d.toList,(a:Int),(b:Int),(i:Int),(s:Int),())=some (.inl (d.toList,(a:Int),(b:Int),((scanSorted ltInt d b i:Nat):Int),(s:Int),())):=by
 intro k
 induction k using Nat.strongRecOn with
 |_ k ih=>
 intro i n hk h1 hi hn
 obtain⟨n,rfl⟩:∃ k,n=k+1:=⟨n-1,by omega⟩
 rw[scanSorted,AP,Ge]
 simp only[AI]
 by_cases h:i<b
 ·have i0:i<d.size:=by omega
  have i1:i-1<d.size:=by omega
  simp (disch:=omega) only[h,AfG,Ao,AG,Ah,Ar,B0,AhU]
  cases h2:ltInt d[i]! d[i-1]!
  ·simp only[AfX,AfY]
   exact ih (b-(i+1)) (by omega) (i+1) n rfl (by omega) (by omega) (by omega)
  ·simp only[AfB,AfI,AfK]
 ·simp only[h,AfL,Aga,AfI,AfK]
theorem ACp(a b i s:Nat):∀ (j:Nat) (d:Array Int) (n:Nat),j<d.size→d.size<4294967296→j<n →
  AP Ev n (d.toList,(a:Int),(b:Int),(i:Int),(s:Int),(j:Int),())=some (.inl ((shiftDown ltInt j d).toList,(a:Int),(b:Int),(i:Int),(s:Int),())):=by
 intro j
 induction j with
 |zero=>
  intro d n hj hs hn
  obtain⟨n,rfl⟩:∃ k,n=k+1:=⟨n-1,by omega⟩
  rw[AP,Ev,Ap,Ae2 (by omega)]
  rfl
 |succ j ih=>
  intro d n hj hs hn
  obtain⟨n,rfl⟩:∃ k,n=k+1:=⟨n-1,by omega⟩
  have hj':j<d.size:=by omega
  rw[shiftDown,AP,Ev,Ap,Ae3 (by omega)]
  simp (disch:=omega) only[Ao,Nat.add_sub_cancel,Ah,Ar,B0]
  cases h2:ltInt d[j+1]! d[j]!
  ·simp only[AfX,AfY]
  ·have e1:=D2 hj hj'
   simp only[Ar hj,Ar hj']at e1
   simp only[AfB,AfI,AfK,e1]
   exact ih _ n (by rw[size_swp];omega) (by rw[size_swp];omega) (by omega)
theorem VQ(a b i s:Nat):∀ (k j:Nat) (d:Array Int) (n:Nat),b-j=k→1≤j→b≤d.size→d.size<4294967296→k<n →
  AP Eu n (d.toList,(a:Int),(b:Int),(i:Int),(s:Int),(j:Int),())=some (.inl ((shiftUp ltInt b j d).toList,(a:Int),(b:Int),(i:Int),(s:Int),())):=by
 intro k
 induction k using Nat.strongRecOn with
 |_ k ih=>
 intro j d n hk h1 hb hs hn
 obtain⟨n,rfl⟩:∃ k,n=k+1:=⟨n-1,by omega⟩
 rw[shiftUp,AP,Eu]
 simp only[AI]
 by_cases h:j<b
 ·have i0:j<d.size:=by omega
  have i1:j-1<d.size:=by omega
  simp (disch:=omega) only[h,AfG,AfY,Ao,AG,Ah,Ar,B0]
  cases h2:ltInt d[j]! d[j-1]!
  ·simp only[AfX,AfY]
  ·have e1:=D2 i0 i1
   simp only[Ar i0,Ar i1]at e1
   simp only[AfB,AfI,AfK,e1]
   exact ih (b-(j+1)) (by omega) (j+1) _ n rfl (by omega) (by rw[size_swp];omega) (by rw[size_swp];omega) (by omega)
 ·simp only[h,AfL,AfK]
theorem Hm:∀ (j:Nat) (d:Array Int),(shiftDown ltInt j d).size=d.size:=by
 intro j
 induction j with
 |zero=>intro d;rfl
 |succ j ih=>
  intro d
  rw[shiftDown]
  split
  ·rfl
  ·rw[ih,size_swp]
theorem CB(b:Nat):∀ (k j:Nat) (d:Array Int),b-j=k→(shiftUp ltInt b j d).size=d.size:=by
 intro k
 induction k using Nat.strongRecOn with
 |_ k ih=>
 intro j d hk
 rw[shiftUp]
 split
 ·split
  ·rfl
  ·rw[ih (b-(j+1)) (by omega) (j+1) _ rfl,size_swp]
 ·rfl
theorem ACo(a b:Nat)(hab:a<b):∀ (k i s:Nat) (d:Array Int) (n:Nat),s+k=5→a+1≤i→i≤b→b≤d.size→d.size<4294967296→k<n →
  AP CR n (d.toList,(a:Int),(b:Int),(i:Int),(s:Int),())=some (.inl ((partialIns ltInt a b k i d).1.toList,(partialIns ltInt a b k i d).2,())) ∨
  ((partialIns ltInt a b k i d).2=false∧AP CR n (d.toList,(a:Int),(b:Int),(i:Int),(s:Int),())=some (.inr (.inl ((partialIns ltInt a b k i d).1.toList,())))):=by
 intro k
 induction k with
 |zero=>
  intro i s d n hk h1 hi hb hs hn
  obtain⟨n,rfl⟩:∃ k,n=k+1:=⟨n-1,by omega⟩
  rw[AP,CR,Am,Ae2 (by omega)]
  exact .inr ⟨rfl,rfl⟩
 |succ k ih=>
  intro i s d n hk h1 hi hb hs hn
  have hm:4294967296<many:=by simp only[many];omega
  have es:IntKind.wrap .i64 ((s:Int)+1)=((s+1:Nat):Int):=AG (by omega)
  obtain⟨n,rfl⟩:∃ k,n=k+1:=⟨n-1,by omega⟩
  rw[AP,CR,Am,Ae3 (by omega),partialIns]
  simp only[Aa,ACn d a b s hb hs (b-i) i many rfl (by omega) hi (by omega)]
  have hsc:=E5 d b _ i rfl hi
  generalize scanSorted ltInt d b i=i2 at *
  simp only[Qh]
  by_cases h2:i2=b
  ·simp only[h2,AfG,AfY,true_or]
  ·simp (disch:=omega) only[h2,AfL,AfK,Bd,Am,Ap]
   by_cases h3:b-a<50
   ·rw[AfJ h3,Ae3 (by omega)]
    exact .inl rfl
   ·have i0:i2<d.size:=by omega
    have i1:i2-1<d.size:=by omega
    rw[AfE h3,Ae2 (by omega)]
    simp (disch:=omega) only[Ao,AG,Ah i0,Ah i1,(D2 i0 i1).1,(D2 i0 i1).2]
    have hsz:=size_swp d i2 (i2-1)
    generalize swp d i2 (i2-1)=d2 at *
    by_cases h4:i2-a≥2
    ·rw[AfJ h4,Ae3 (show(2:Int)≤((i2-a:Nat):Int) by omega)]
     simp only[ACp a b i2 s (i2-1) d2 many (by omega) (by omega) (by omega)]
     have hsz2:=Hm (i2-1) d2
     generalize shiftDown ltInt (i2-1) d2=d3 at *
     simp (disch:=omega) only[Bd,AG]
     by_cases h5:b-i2≥2
     ·rw[AfJ h5,Ae3 (show(2:Int)≤((b-i2:Nat):Int) by omega)]
      simp only[VQ a b i2 s _ (i2+1) d3 many rfl (by omega) (by omega) (by omega) (by omega)]
      simp only[es]
      exact ih i2 (s+1) (shiftUp ltInt b (i2+1) d3) n (by omega) (by omega) (by omega) (by rw[CB b (b-(i2+1)) (i2+1) _ rfl];omega) (by rw[CB b (b-(i2+1)) (i2+1) _ rfl];omega) (by omega)
     ·rw[AfE h5,Ae2 (show ¬ (2:Int)≤((b-i2:Nat):Int) by omega)]
      simp only[es]
      exact ih i2 (s+1) d3 n (by omega) (by omega) (by omega) (by omega) (by omega) (by omega)
    ·rw[AfE h4,Ae2 (show ¬ (2:Int)≤((i2-a:Nat):Int) by omega)]
     by_cases h5:b-i2≥2
     ·rw[AfJ h5,Ae3 (show(2:Int)≤((b-i2:Nat):Int) by omega)]
      simp only[VQ a b i2 s _ (i2+1) d2 many rfl (by omega) (by omega) (by omega) (by omega)]
      simp only[es]
      exact ih i2 (s+1) (shiftUp ltInt b (i2+1) d2) n (by omega) (by omega) (by omega) (by rw[CB b (b-(i2+1)) (i2+1) _ rfl];omega) (by rw[CB b (b-(i2+1)) (i2+1) _ rfl];omega) (by omega)
     ·rw[AfE h5,Ae2 (show ¬ (2:Int)≤((b-i2:Nat):Int) by omega)]
      simp only[es]
      exact ih i2 (s+1) d2 n (by omega) (by omega) (by omega) (by omega) (by omega) (by omega)
theorem AGt(d:Array Int)(a b:Nat)(hab:a<b)(hb:b≤d.size)(hs:d.size<4294967296):
  Ja (d.toList,(a:Int),(b:Int),())=some ((partialInsertionSort ltInt d a b).1.toList,(partialInsertionSort ltInt d a b).2,()):=by
 have hm:4294967296<many:=by simp only[many];omega
 rw[VZ,KK,partialInsertionSort]
 simp (disch:=omega) only[AG,Aa]
 have h:=ACo a b hab 5 (a+1) 0 d many rfl (AfH _) (by omega) hb hs (by omega)
 rcases h with h|⟨h0,h⟩
 ·have h':AP CR many (d.toList,(a:Int),(b:Int),((a+1:Nat):Int),(0:Int),())=_:=h
  rw[h']
 ·have h':AP CR many (d.toList,(a:Int),(b:Int),((a+1:Nat):Int),(0:Int),())=_:=h
  rw[h',h0]
theorem L5(d:Array Int)(a b:Nat)(s:Int)(ha:a<d.size)(hb:b<d.size):
  ∃ s' p q,KP (d.toList,(a:Int),(b:Int),s,())=some (d.toList,s',((p:Nat):Int),((q:Nat):Int),())∧(p=a∧q=b∨p=b∧q=a):=by
 rw[Z4,NJ]
 simp only[Ah ha,Ah hb,Ar ha,Ar hb,B0]
 cases ltInt d[b]! d[a]!
 ·exact⟨_,a,b,rfl,.inl ⟨rfl,rfl⟩⟩
 ·exact⟨_,b,a,rfl,.inr ⟨rfl,rfl⟩⟩
theorem MC(d:Array Int)(a b c:Nat)(s:Int)(ha:a<d.size)(hb:b<d.size)(hc:c<d.size):
  ∃ s' p,KW (d.toList,(a:Int),(b:Int),(c:Int),s,())=some (d.toList,s',((p:Nat):Int),())∧(p=a∨p=b∨p=c):=by
 rw[AAC,NQ]
 obtain⟨s1,p1,q1,e1,h1⟩:=L5 d a b s ha hb
 simp only[e1]
 obtain⟨s2,p2,q2,e2,h2⟩:=L5 d q1 c s1 (by omega) hc
 simp only[e2]
 obtain⟨s3,p3,q3,e3,h3⟩:=L5 d p1 p2 s2 (by omega) (by omega)
 simp only[e3]
 exact⟨_,q3,rfl,by omega⟩
theorem ME(d:Array Int)(a:Nat)(s:Int)(h1:1≤a)(ha:a+1<d.size)(hs:d.size<4294967296):
  ∃ s' p,KX (d.toList,(a:Int),s,())=some (d.toList,s',((p:Nat):Int),())∧a≤p+1∧p≤a+1:=by
 rw[AAD,NT]
 simp (disch:=omega) only[Ao,AG]
 obtain⟨s1,p1,e1,h1⟩:=MC d (a-1) a (a+1) s (by omega) (by omega) ha
 simp only[e1]
 exact⟨_,p1,rfl,by omega⟩
theorem APm(d:Array Int)(a b:Nat)(hab:a+8≤b)(hb:b≤d.size)(hs:d.size<4294967296):
  ∃ p h,SW (d.toList,(a:Int),(b:Int),())=some (d.toList,((p:Nat):Int),h,())∧a≤p∧p<b:=by
 rw[AEC,QA]
 simp (disch:=omega) only[Bd,UU,ADX,Em,ADW,wrap_add,Ap]
 rw[Ae3 (show(8:Int)≤((b-a:Nat):Int) by omega)]
 simp only[]
 by_cases h:50≤b-a
 ·rw[Ae3 (show(50:Int)≤((b-a:Nat):Int) by omega)]
  simp only[]
  obtain⟨s1,p1,e1,h1⟩:=ME d (a+(b-a)/4*1) 0 (by omega) (by omega) hs
  simp only[e1]
  obtain⟨s2,p2,e2,h2⟩:=ME d (a+(b-a)/4*2) s1 (by omega) (by omega) hs
  simp only[e2]
  obtain⟨s3,p3,e3,h3⟩:=ME d (a+(b-a)/4*3) s2 (by omega) (by omega) hs
  simp only[e3]
  obtain⟨s4,p4,e4,h4⟩:=MC d p1 p2 p3 s3 (by omega) (by omega) (by omega)
  simp only[e4]
  cases ieq s4 0
  ·cases ieq s4 12
   ·exact⟨p4,_,rfl,by omega,by omega⟩
   ·exact⟨p4,_,rfl,by omega,by omega⟩
  ·exact⟨p4,_,rfl,by omega,by omega⟩
 ·rw[Ae2 (show ¬ (50:Int)≤((b-a:Nat):Int) by omega)]
  simp only[]
  obtain⟨s4,p4,e4,h4⟩:=MC d (a+(b-a)/4*1) (a+(b-a)/4*2) (a+(b-a)/4*3) 0 (by omega) (by omega) (by omega)
  simp only[e4]
  cases ieq s4 0
  ·cases ieq s4 12
   ·exact⟨p4,_,rfl,by omega,by omega⟩
   ·exact⟨p4,_,rfl,by omega,by omega⟩
  ·exact⟨p4,_,rfl,by omega,by omega⟩
end Go.Pev.Pl.SI
end
section
namespace Go.Pev.Pl.SI
open Go.Sort
theorem ANq(a b:Nat)(m:Nat)(h8:a+8≤b)(hm1:1≤m)(hm:m≤2*(b-a)):∀ (k t:Nat) (d:Array Int) (r:Int) (n:Nat),t+k=3→b≤d.size→d.size<4294967296→k<n →
  ∃ d':Array Int,AP GH n (d.toList,(a:Int),((b-a:Nat):Int),r,(m:Int),((a+(b-a)/4*2-1+t:Nat):Int),())=some (.inl (d'.toList,()))∧PermIn a b d d':=by
 intro k
 induction k with
 |zero=>
  intro t d r n hk hb hs hn
  obtain⟨n,rfl⟩:∃ k,n=k+1:=⟨n-1,by omega⟩
  rw[AP,GH]
  simp (disch:=omega) only[UU,Em,wrap_add,AG,Bn]
  rw[Ae2 (by omega)]
  exact⟨d,rfl,permIn_refl d a b⟩
 |succ k ih=>
  intro t d r n hk hb hs hn
  obtain⟨n,rfl⟩:∃ k,n=k+1:=⟨n-1,by omega⟩
  rw[AP,GH]
  simp (disch:=omega) only[UU,Em,wrap_add,AG,Bn]
  rw[Ae3 (show a+(b-a)/4*2-1+t≤a+(b-a)/4*2+1 by omega)]
  obtain⟨r',y,e⟩:=UM r
  obtain⟨o,e2,ho⟩:=AL2 y m hm1 (by omega)
  simp only[e,e2]
  rw[Aj (n:=(o:Int)) (by omega)]
  simp only[Bn]
  have i0:a+(b-a)/4*2-1+t<d.size:=by omega
  have fin:∀ q:Nat,a≤q→q<b→∃ d':Array Int,AP GH n ((swp d (a+(b-a)/4*2-1+t) q).toList,(a:Int),((b-a:Nat):Int),r',(m:Int),((a+(b-a)/4*2-1+t+1:Nat):Int),())=some (.inl (d'.toList,()))∧PermIn a b d d':=by
   intro q hq1 hq2
   obtain⟨d',e',hp⟩:=ih (t+1) (swp d (a+(b-a)/4*2-1+t) q) r' n (by omega) (by rw[size_swp];omega) (by rw[size_swp];omega) (by omega)
   exact⟨d',e',permIn_trans _ _ _ a b (swp_permIn d a b _ q (by omega) (by omega) hq1 hq2 hb) hp⟩
  by_cases h:b-a≤o
  ·have i1:a+(o-(b-a))<d.size:=by omega
   simp (disch:=omega) only[h,AfG,Bd,wrap_add,AG,Ah i0,Ah i1,(D2 i0 i1).1,(D2 i0 i1).2]
   exact fin _ (by omega) (by omega)
  ·have i1:a+o<d.size:=by omega
   simp (disch:=omega) only[h,AfL,Bd,wrap_add,AG,Ah i0,Ah i1,(D2 i0 i1).1,(D2 i0 i1).2]
   exact fin _ (by omega) (by omega)
theorem ASY(d:Array Int)(a b:Nat)(hab:a≤b)(hb:b≤d.size)(hs:d.size<4294967296):
  ∃ d':Array Int,Tq (d.toList,(a:Int),(b:Int),())=some (d'.toList,())∧PermIn a b d d':=by
 have hm:4294967296<many:=by simp only[many];omega
 rw[AEu,RD]
 simp (disch:=omega) only[Bd,Ap]
 by_cases h:8≤b-a
 ·rw[Ae3 (show(8:Int)≤((b-a:Nat):Int) by omega)]
  obtain⟨m,e,h1,h2⟩:=Vp (b-a) (by omega) (by omega)
  simp only[e]
  rw[u64_in (n:=((b-a:Nat):Int)) (by omega)]
  simp (disch:=omega) only[UU,Em,wrap_add,Ao,Aa]
  obtain⟨d',e2,hp⟩:=ANq a b m (by omega) h1 h2 3 0 d ((b-a:Nat):Int) many rfl hb hs (by omega)
  rw[Age]at e2
  simp only[e2]
  exact⟨d',rfl,hp⟩
 ·rw[Ae2 (show ¬ (8:Int)≤((b-a:Nat):Int) by omega)]
  exact⟨d,rfl,permIn_refl d a b⟩
end Go.Pev.Pl.SI
end
section
namespace Go.Pev.Pl.SI
open Go.Sort
abbrev AUF:=List Int×Int×Int×Int×Bool×Bool×Unit
abbrev HN:=AUF⊕(List Int×Unit)⊕Unit
noncomputable section
def NC(self:(List Int×Int×Int×Int×Unit)→Option ((List Int×Unit)))(y7:List Int)(a1 a2 p l:Int)(a4 a5:Bool):Option HN:=
 match(ilt (0:Int) a1)with
 |true=>match idx y7 (IntKind.wrap .i64 (a1-(1:Int)))with
  |none=>none
  |some x9=>match idx y7 p with
   |none=>none
   |some x10=>match ED ((AL y7 (AE (IntKind.wrap .i64 (a1-(1:Int)))) (0:Int)),(AL y7 (AE p) (0:Int)),())with
    |none=>none
    |some (y11,_)=>match(!y11)with
     |true=>match NH (y7,a1,a2,p,())with
      |none=>none
      |some (y12,y13,_)=>some (.inl (y12,y13,a2,l,a4,a5,()))
     |false=>match QH (y7,a1,a2,p,())with
      |none=>none
      |some (y14,y15,y16,_)=>match quo? .i64 (IntKind.wrap .i64 (a2-a1)) (8:Int)with
       |none=>none
       |some x17=>match(ilt (IntKind.wrap .i64 (y15-a1)) (IntKind.wrap .i64 (a2-y15)))with
        |true=>match self (y14,a1,y15,l,())with
         |none=>none
         |some (y18,_)=>some (.inl (y18,(IntKind.wrap .i64 (y15+(1:Int))),a2,l,(ile x17 (IntKind.wrap .i64 (y15-a1))),y16,()))
        |false=>match self (y14,(IntKind.wrap .i64 (y15+(1:Int))),a2,l,())with
         |none=>none
         |some (y19,_)=>some (.inl (y19,a1,y15,l,(ile x17 (IntKind.wrap .i64 (a2-y15))),y16,()))
 |false=>match QH (y7,a1,a2,p,())with
  |none=>none
  |some (y20,y21,y22,_)=>match quo? .i64 (IntKind.wrap .i64 (a2-a1)) (8:Int)with
   |none=>none
   |some x23=>match(ilt (IntKind.wrap .i64 (y21-a1)) (IntKind.wrap .i64 (a2-y21)))with
    |true=>match self (y20,a1,y21,l,())with
     |none=>none
     |some (y24,_)=>some (.inl (y24,(IntKind.wrap .i64 (y21+(1:Int))),a2,l,(ile x23 (IntKind.wrap .i64 (y21-a1))),y22,()))
    |false=>match self (y20,(IntKind.wrap .i64 (y21+(1:Int))),a2,l,())with
     |none=>none
     |some (y25,_)=>some (.inl (y25,a1,y21,l,(ile x23 (IntKind.wrap .i64 (a2-y21))),y22,()))
def AGo(self:(List Int×Int×Int×Int×Unit)→Option ((List Int×Unit)))(y6:List Int)(a1 a2 p h l:Int)(a4 a5:Bool):Option HN:=
 match a4 with
 |true=>match a5 with
  |true=>match(ieq h (1:Int))with
   |true=>match Ja (y6,a1,a2,())with
    |none=>none
    |some (y7,y8,_)=>match y8 with
     |true=>some (.inr (.inl (y7,())))
     |false=>NC self y7 a1 a2 p l a4 a5
   |false=>NC self y6 a1 a2 p l a4 a5
  |false=>NC self y6 a1 a2 p l a4 a5
 |false=>NC self y6 a1 a2 p l a4 a5
def AGg(self:(List Int×Int×Int×Int×Unit)→Option ((List Int×Unit)))(y2:List Int)(a1 a2 l:Int)(a4 a5:Bool):Option HN:=
 match SW (y2,a1,a2,())with
 |none=>none
 |some (y3,y4,y5,_)=>match(ieq y5 (2:Int))with
  |true=>match AU9 (y3,a1,a2,())with
   |none=>none
   |some (y6,_)=>AGo self y6 a1 a2 (IntKind.wrap .i64 ((IntKind.wrap .i64 (a2-(1:Int)))-(IntKind.wrap .i64 (y4-a1)))) 1 l a4 a5
  |false=>AGo self y3 a1 a2 y4 y5 l a4 a5
def AKx(self:(List Int×Int×Int×Int×Unit)→Option ((List Int×Unit))):AUF→Option HN:=fun(a0,a1,a2,a3,a4,a5,_)=>
 match(ile (IntKind.wrap .i64 (a2-a1)) (12:Int))with
 |true=>match AWW (a0,a1,a2,())with
  |none=>none
  |some (y0,_)=>some (.inr (.inl (y0,())))
 |false=>match(ieq a3 (0:Int))with
  |true=>match AEe (a0,a1,a2,())with
   |none=>none
   |some (y1,_)=>some (.inr (.inl (y1,())))
  |false=>match(!a4)with
   |true=>match Tq (a0,a1,a2,())with
    |none=>none
    |some (y2,_)=>AGg self y2 a1 a2 (IntKind.wrap .i64 (a3-(1:Int))) a4 a5
   |false=>AGg self a0 a1 a2 a3 a4 a5
theorem ACk:ND=AKx:=rfl
end
def IY(d:Array Int)(a b:Nat):HN→Prop
 |.inl (xs,x,y,l,_,_,_)=>∃ (e:Array Int) (i j:Nat),xs=e.toList∧x=(i:Int)∧y=(j:Int)∧0≤l∧l≤100∧i≤j∧j≤e.size∧e.size=d.size∧j-i<b-a∧Below ltInt i j e ∧
   ∀ R,PermIn i j e R→SortedIn ltInt i j R→PermIn a b d R∧SortedIn ltInt a b R
 |.inr (.inl (xs,_))=>∃ R:Array Int,xs=R.toList∧PermIn a b d R∧SortedIn ltInt a b R
 |.inr (.inr _)=>False
def Bj(self:(List Int×Int×Int×Int×Unit)→Option ((List Int×Unit)))(m:Nat):Prop:=
 ∀ (d:Array Int) (a b:Nat) (l:Int),a≤b→b≤d.size→d.size<4294967296→0≤l→l≤100→Below ltInt a b d→2*(b-a)<m →
  ∃ R:Array Int,self (d.toList,(a:Int),(b:Int),l,())=some (R.toList,())∧PermIn a b d R∧SortedIn ltInt a b R
section
variable {self:(List Int×Int×Int×Int×Unit)→Option ((List Int×Unit))} {d:Array Int} {a b:Nat} {l:Int}
theorem Ls(hself:Bj self (b-a))(hb:b≤d.size)(hs:d.size<4294967296)(hl:0≤l∧l≤100)
  {d3:Array Int} {p:Nat} (P3:PermIn a b d d3) (B3:Below ltInt a b d3) (hp1:a≤p) (hp2:p<b) :
  ∃ o,(match QH (d3.toList,(a:Int),(b:Int),(p:Int),())with
  |none=>none
  |some (y20,y21,y22,_)=>match quo? .i64 (IntKind.wrap .i64 ((b:Int)-(a:Int))) (8:Int)with
   |none=>none
   |some x23=>match(ilt (IntKind.wrap .i64 (y21-(a:Int))) (IntKind.wrap .i64 ((b:Int)-y21)))with
    |true=>match self (y20,(a:Int),y21,l,())with
     |none=>none
     |some (y24,_)=>some ((.inl (y24,(IntKind.wrap .i64 (y21+(1:Int))),(b:Int),l,(ile x23 (IntKind.wrap .i64 (y21-(a:Int)))),y22,())):HN)
    |false=>match self (y20,(IntKind.wrap .i64 (y21+(1:Int))),(b:Int),l,())with
     |none=>none
     |some (y25,_)=>some (.inl (y25,(a:Int),y21,l,(ile x23 (IntKind.wrap .i64 ((b:Int)-y21))),y22,())))=some o∧IY d a b o:=by
 have b3:b≤d3.size:=by rw[P3.1];exact hb
 have s3:d3.size<4294967296:=by rw[P3.1];exact hs
 rw[AVb d3 a b p hp1 hp2 b3 s3]
 rcases hx:partition ltInt d3 a b p with⟨mid,ap,d4⟩
 obtain⟨g1,g2,hs4,hBa,hBr,hleft,hright⟩:=round_part swo_ltInt (partition_holds _) hp1 hp2 b3 B3 hx
 simp (disch:=omega) only[Bd,AG,Adl,AI]
 have b4:b≤d4.size:=by omega
 by_cases h:mid-a<b-mid
 ·obtain⟨L,e,l1,l2⟩:=hself d4 a mid l g1 (by omega) (by omega) hl.1 hl.2 hBa (by omega)
  simp only[h,AfG,e]
  obtain⟨hBL,hfin⟩:=hleft _ l1 l2
  refine⟨_,rfl,L,mid+1,b,rfl,rfl,rfl,hl.1,hl.2,by omega,by rw[l1.1];exact b4,by rw[l1.1,hs4,P3.1],by omega,hBL,fun R r1 r2 => ?_⟩
  obtain⟨q1,q2⟩:=hfin R r1 r2
  exact⟨permIn_trans _ _ _ a b P3 q1,q2⟩
 ·obtain⟨L,e,l1,l2⟩:=hself d4 (mid+1) b l (by omega) (by omega) (by omega) hl.1 hl.2 hBr (by omega)
  simp only[h,AfL,e]
  obtain⟨hBL,hfin⟩:=hright _ l1 l2
  refine⟨_,rfl,L,a,mid,rfl,rfl,rfl,hl.1,hl.2,by omega,by rw[l1.1];omega,by rw[l1.1,hs4,P3.1],by omega,hBL,fun R r1 r2 => ?_⟩
  obtain⟨q1,q2⟩:=hfin R r1 r2
  exact⟨permIn_trans _ _ _ a b P3 q1,q2⟩
theorem E8(hself:Bj self (b-a))(hb:b≤d.size)(hs:d.size<4294967296)(hl:0≤l∧l≤100)
  {d3:Array Int} {p:Nat} (wb wp:Bool) (P3:PermIn a b d d3) (B3:Below ltInt a b d3) (hp1:a≤p) (hp2:p<b) :
  ∃ o,NC self d3.toList (a:Int) (b:Int) (p:Int) l wb wp=some o∧IY d a b o:=by
 have b3:b≤d3.size:=by rw[P3.1];exact hb
 have s3:d3.size<4294967296:=by rw[P3.1];exact hs
 rw[NC,Am]
 by_cases h0:0<a
 ·rw[Ae3 (by omega)]
  have i0:a-1<d3.size:=by omega
  have i1:p<d3.size:=by omega
  simp (disch:=omega) only[Ao,Ah,Ar,B0]
  cases hc:ltInt d3[a-1]! d3[p]!
  ·simp only[AfX]
   rw[ALz d3 a b p hp1 hp2 b3 s3]
   rcases hx:partitionEqual ltInt d3 a b p with⟨mid,d4⟩
   obtain⟨hm1,hm2,hs4,hB4,hfin⟩:=round_eq swo_ltInt (partitionEqual_holds _) h0 hp1 hp2 b3 B3 hc hx
   refine⟨_,rfl,d4,mid,b,rfl,rfl,rfl,hl.1,hl.2,by omega,by omega,by rw[hs4,P3.1],by omega,hB4,fun R r1 r2 => ?_⟩
   obtain⟨q1,q2⟩:=hfin R r1 r2
   exact⟨permIn_trans _ _ _ a b P3 q1,q2⟩
  ·simp only[AfB]
   exact Ls hself hb hs hl P3 B3 hp1 hp2
 ·rw[Ae2 (by omega)]
  exact Ls hself hb hs hl P3 B3 hp1 hp2
theorem QE(hself:Bj self (b-a))(hab:a<b)(hb:b≤d.size)(hs:d.size<4294967296)(hl:0≤l∧l≤100)
  {d3:Array Int} {p:Nat} (h:Int) (wb wp:Bool) (P3:PermIn a b d d3) (B3:Below ltInt a b d3) (hp1:a≤p) (hp2:p<b) :
  ∃ o,AGo self d3.toList (a:Int) (b:Int) (p:Int) h l wb wp=some o∧IY d a b o:=by
 have b3:b≤d3.size:=by rw[P3.1];exact hb
 have s3:d3.size<4294967296:=by rw[P3.1];exact hs
 unfold AGo
 cases wb
 ·exact E8 hself hb hs hl _ _ P3 B3 hp1 hp2
 ·cases wp
  ·exact E8 hself hb hs hl _ _ P3 B3 hp1 hp2
  ·simp only[]
   cases ieq h 1
   ·exact E8 hself hb hs hl _ _ P3 B3 hp1 hp2
   ·simp only[]
    rw[AGt d3 a b hab b3 s3]
    obtain⟨q1,q2⟩:=partialInsertionSort_holds (lt:=ltInt) swo_ltInt d3 a b hab b3 B3
    rcases hx:partialInsertionSort ltInt d3 a b with⟨d4,fin⟩
    rw[hx]at q1 q2
    have P4:PermIn a b d d4:=permIn_trans _ _ _ a b P3 q1
    cases fin
    ·exact E8 hself hb hs hl _ _ P4 (B3.perm b3 q1) hp1 hp2
    ·exact⟨_,rfl,d4,rfl,P4,q2 rfl⟩
theorem QD(hself:Bj self (b-a))(hab:a+8≤b)(hb:b≤d.size)(hs:d.size<4294967296)(hl:0≤l∧l≤100)
  {d3:Array Int} (wb wp:Bool) (P3:PermIn a b d d3) (B3:Below ltInt a b d3) :
  ∃ o,AGg self d3.toList (a:Int) (b:Int) l wb wp=some o∧IY d a b o:=by
 have b3:b≤d3.size:=by rw[P3.1];exact hb
 have s3:d3.size<4294967296:=by rw[P3.1];exact hs
 rw[AGg]
 obtain⟨p,h,e,hp1,hp2⟩:=APm d3 a b hab b3 s3
 simp only[e]
 cases ieq h 2
 ·exact QE hself (by omega) hb hs hl h _ _ P3 B3 hp1 hp2
 ·simp only[AYm d3 a b (by omega) b3 s3]
  have q1:=reverseRange_holds (α:=Int) d3 a b (by omega) b3
  simp (disch:=omega) only[Ao,Bd]
  exact QE hself (by omega) hb hs hl 1 _ _ (permIn_trans _ _ _ a b P3 q1) (B3.perm b3 q1) (by omega) (by omega)
theorem SY(hself:Bj self (b-a))(hab:a≤b)(hb:b≤d.size)(hs:d.size<4294967296)(hl:0≤l∧l≤100)(wb wp:Bool)(B:Below ltInt a b d):
  ∃ o,ND self (d.toList,(a:Int),(b:Int),l,wb,wp,())=some o∧IY d a b o:=by
 rw[ACk,AKx]
 simp (disch:=omega) only[Bd,Ap,D6]
 by_cases h12:b-a≤12
 ·rw[Ae3 (show((b-a:Nat):Int)≤12 by omega)]
  simp only[AaQ d a b hab hb hs]
  obtain⟨q1,q2⟩:=insertionSort_holds (lt:=ltInt) swo_ltInt d a b hab hb
  exact⟨_,rfl,_,rfl,q1,q2⟩
 ·rw[Ae2 (show ¬ ((b-a:Nat):Int)≤12 by omega)]
  simp only[]
  by_cases h0:l=0
  ·subst h0
   simp only[BEq.rfl,AWi d a b (by omega) hb hs]
   obtain⟨q1,q2⟩:=heapSort_holds (lt:=ltInt) swo_ltInt d a b hab hb
   exact⟨_,rfl,_,rfl,q1,q2⟩
  ·rw[show(l==0)=false by simpa using h0]
   simp only[]
   cases wb
   ·obtain⟨d',e,q1⟩:=ASY d a b hab hb hs
    simp only[AfX,e]
    rw[Aj (by omega)]
    exact QD hself (by omega) hb hs (by omega) _ _ q1 (B.perm hb q1)
   ·simp only[AfB]
    exact QD hself (by omega) hb hs hl _ _ (permIn_refl d a b) B
end
theorem Lt{self:(List Int×Int×Int×Int×Unit)→Option ((List Int×Unit))}{m:Nat}(hself:Bj self m):∀ (k:Nat) (d:Array Int) (a b:Nat) (l:Int) (wb wp:Bool) (n:Nat),b-a=k→k≤m→a≤b→b≤d.size→d.size<4294967296→0≤l→l≤100→Below ltInt a b d→k<n →
  ∃ R:Array Int,AP (ND self) n (d.toList,(a:Int),(b:Int),l,wb,wp,())=some (.inl (R.toList,()))∧PermIn a b d R∧SortedIn ltInt a b R:=by
 intro k
 induction k using Nat.strongRecOn with
 |_ k ih=>
 intro d a b l wb wp n hk hm hab hb hs hl1 hl2 B hn
 obtain⟨n,rfl⟩:∃ k,n=k+1:=⟨n-1,by omega⟩
 have hself':Bj self (b-a):=fun d a' b' l h1 h2 h3 h4 h5 h6 h7=>hself d a' b' l h1 h2 h3 h4 h5 h6 (by omega)
 obtain⟨o,e,ho⟩:=SY hself' hab hb hs ⟨hl1,hl2⟩ wb wp B
 rw[AP,e]
 match o,ho with
 |.inl (xs,x,y,l',wb',wp',_),ho=>
  obtain⟨e',i,j,rfl,rfl,rfl,g1,g2,g3,g4,g5,g6,g7,hfin⟩:=ho
  obtain⟨R,e2,r1,r2⟩:=ih (j-i) (by omega) e' i j l' wb' wp' n rfl (by omega) g3 g4 (by omega) g1 g2 g7 (by omega)
  exact⟨R,e2,hfin R r1 r2⟩
 |.inr (.inl (xs,_)),ho=>
  obtain⟨R,rfl,r1,r2⟩:=ho
  exact⟨R,rfl,r1,r2⟩
theorem SZ:∀ k:Nat,Bj (Hu (k+1)) (2 ^ k):=by
 intro k
 have hmany:4294967296<many:=by simp only[many];omega
 induction k with
 |zero=>
  intro d a b l h1 h2 h3 h4 h5 h6 h7
  have:Bj (Hu 0) 0:=fun _ _ _ _ _ _ _ _ _ _ h=>by omega
  obtain⟨R,e,r1,r2⟩:=Lt this (b-a) d a b l true true many rfl (by omega) h1 h2 h3 h4 h5 h6 (by omega)
  refine⟨R,?_,r1,r2⟩
  rw[Hu,AGj]
  simp only[Aa,e]
 |succ k ih=>
  intro d a b l h1 h2 h3 h4 h5 h6 h7
  have hp:2 ^ (k+1)=2*2 ^ k:=by rw[Nat.pow_succ];omega
  obtain⟨R,e,r1,r2⟩:=Lt ih (b-a) d a b l true true many rfl (by omega) h1 h2 h3 h4 h5 h6 (by omega)
  refine⟨R,?_,r1,r2⟩
  rw[Hu,AGj]
  simp only[Aa,e]
def sorted(xs:List Int):List Int:=xs.mergeSort (fun x y=>decide (x≤y))
theorem AUp{d d':Array Int}(h1:PermIn 0 d.size d d')(h2:SortedIn ltInt 0 d.size d'):d'.toList=sorted d.toList:=by
 have h:=sorted_unique_holds (lt:=ltInt) swo_ltInt (fun x y h1 h2=>by simp[ltInt]at h1 h2;omega) d d' h1 h2
 rw[h,sorted]
 congr
 funext x y
 by_cases h:x≤y
 ·simp[ltInt,h,Int.not_lt.2 h]
 ·simp[ltInt,h,Int.not_le.1 h]
theorem AUr(xs:List Int)(h:xs.length<4294967296):AJ7 (xs,())=some (sorted xs,()):=by
 obtain⟨d,rfl⟩:∃ d:Array Int,xs=d.toList:=⟨xs.toArray,rfl⟩
 rw[AfS]at h
 rw[AJ6,XG]
 rw[AIS,u64_in (by omega)]
 obtain⟨v,e,hv,_⟩:=Mk d.size h
 simp only[e]
 obtain⟨R,e2,r1,r2⟩:=SZ 99 d 0 d.size (v:Int) (by omega) (by omega) h (by omega) (by omega) (.inl rfl) (by
  have:2 ^ 99=633825300114114700748351602688:=by decide
  omega)
 have e3:AVT (d.toList,(0:Int),(d.size:Int),(v:Int),())=some (R.toList,()):=by rw[ATO];exact e2
 simp only[e3,AUp r1 r2]
end Go.Pev.Pl.SI
end
section
namespace Go.Pev.Pl
open Tok
theorem AIE{a o:List Int}{m k:Nat}(h:a.drop m=o.drop m)(hk:m≤k):a.getD k 0=o.getD k 0:=by
 have:=AgZ (fun l=>l.getD (k-m) 0) h
 simp only[Ae5,Af6]at this
 rw[Nat.add_sub_cancel' hk]at this
 simpa [Ae5]using this
theorem Lf{xs:List Int}{i:Nat}(h:i<xs.length):xs.take (i+1)=xs.take i++[xs.getD i 0]:=by
 rw[Afw h];simp[h]
theorem AbC(o:List Int)(n:Int)(rings:List (List Int))(hs:o.length<4294967296):∀ (k j w:Nat) (a:List Int) (cnt:Nat),j+k=o.length→a.length=o.length→w=(Dt n (o.take j)).length→a.take w=Dt n (o.take j)→w<j→a.drop j=o.drop j→k<cnt →
  ∃ a':List Int,AP CO cnt (a,n,rings,(w:Int),(j:Int),())=some (.inl (a',n,rings,(((Dt n o).length:Nat):Int),()))∧a'.length=o.length∧a'.take (Dt n o).length=Dt n o:=by
 intro k
 induction k with
 |zero=>
  intro j w a cnt hk hl hw hq hwj hd hn
  obtain⟨cnt,rfl⟩:∃ k,cnt=k+1:=⟨cnt-1,by omega⟩
  have e:j=o.length:=by omega
  subst e
  rw[AgH]at hw hq
  rw[AP,CO,AK,AI,Ae2 (by omega)]
  exact⟨a,by rw[hw],hl,by rw[← hw];exact hq⟩
 |succ k ih=>
  intro j w a cnt hk hl hw hq hwj hd hn
  obtain⟨cnt,rfl⟩:∃ k,cnt=k+1:=⟨cnt-1,by omega⟩
  have g1:a.getD j 0=o.getD j 0:=AIE hd (AfH _)
  have hdd:a.drop (j+1)=o.drop (j+1):=by
   have:=AgZ (List.drop 1) hd
   simpa only[Agk]using this
  have hst:Dt n (o.take (j+1))=Dt n (o.take j)++if n≤o.getD j 0 then []else [o.getD j 0]:=by
   rw[Lf (by omega),Dt,AgS]
   generalize o.getD j 0=v
   by_cases h:n≤v<;>simp[Dt,h]
  rw[AP,CO,AK,AI,Ae3 (by omega)]
  simp (disch:=omega) only[CV (0:Int),Ee,ABD,g1,Ap,AG]
  by_cases h:n≤o.getD j 0
  ·rw[Ae3 h]
   rw[AfJ h,AgL]at hst
   exact ih (j+1) w a cnt (by omega) hl (by rw[hst];exact hw) (by rw[hst];exact hq) (by omega) hdd (by omega)
  ·rw[Ae2 h]
   rw[AfE h]at hst
   refine ih (j+1) (w+1) (a.set w (o.getD j 0)) cnt (by omega) (by simp[hl]) (by rw[hst];simp[hw]) ?_ (by omega) ?_ (by omega)
   ·rw[hst,← hq,Afw (by simp;omega)]
    simp[List.take_set_of_le]
   ·rw[List.drop_set_of_lt (by omega)]
    exact hdd
theorem AER{n:Int}{o:List Int}(h:∀ j,j<o.length→decide (n≤o.getD j 0)=false):Dt n o=o:=by
 rw[Dt,Ago]
 intro x hx
 obtain⟨j,hj,e⟩:=Af7 hx
 have:=h j hj
 simp only[Ae5,Ae8 hj,Afh,e]at this
 simp only[this,AfX]
theorem AdR(o:List Int)(n:Int)(rings:List (List Int))(hs:o.length<4294967296):
  ∃ a:List Int,FP (o,n,rings,())=some (a,n,rings,(((Dt n o).length:Nat):Int),())∧a.take (Dt n o).length=Dt n o:=by
 have hm:4294967296<many:=by simp only[many];omega
 rw[LU,FO,LP,FK]
 simp only[AK]
 rcases YV (step:=Bk) (fun i=>(o,n,rings,(o.length:Int),(i:Int),())) o.length (fun i=>decide (n≤o.getD i 0)) (fun i=>.inl (o,n,rings,(i:Int),())) (.inr (.inl (o,n,rings,()))) (by omega)
   (fun i hi=>by
    rw[Bk]
    simp (disch:=omega) only[AI,hi,AfG,CV (0:Int),Ee,Ap,AG]
    cases decide (n≤o.getD i 0)<;>rfl) (by rw[Bk];simp only[AI,Nat.lt_irrefl,AfL])with⟨k,hk,hP,hF,e⟩|⟨hP,e⟩
 ·have e':AR Bk many (o,n,rings,(o.length:Int),(0:Int),())=_:=e
  have h0:Dt n (o.take k)=o.take k:=AER fun j hj=>by
   rw[AfN]at hj
   have:=hF j (by omega)
   rw[show(o.take k).getD j 0=o.getD j 0 by simp[Ae5,List.getElem?_take_of_lt (show j<k by omega)]]
   exact this
  have h1:Dt n (o.take (k+1))=o.take k:=by
   rw[Lf hk,Dt,AgS]
   have:(List.filter (fun t => !decide (n≤t)) [o.getD k 0])=[]:=by
    generalize o.getD k 0=v at *
    simp at hP
    simp[hP]
   rw[this,AgL]
   exact h0
  obtain⟨a',e2,e3,e4⟩:=AbC o n rings hs (o.length-(k+1)) (k+1) k o many (by omega) rfl (by rw[h1,AfN];omega) (by rw[h1]) (by omega) rfl (by omega)
  have hle:(Dt n o).length≤o.length:=Agg _ _
  have hcl:(BV (Dt n o).length (a'.length-(Dt n o).length) 0 a').length=a'.length:=by
   simp[BV];omega
  have s0:B4 (BV (Dt n o).length (a'.length-(Dt n o).length) 0 a') (0:Int) (((Dt n o).length:Nat):Int)=some _:=R4 (l:=0) (by omega) (by omega)
  simp only[e',D6]
  rw[show((k:Int) == -1)=false from beq_false_of_ne (by omega),AG (by omega)]
  simp only[Aa,e2]
  rw[R4 (by omega) (by omega)]
  simp only[AgH,Afg,IL,s0]
  refine⟨BV (Dt n o).length (a'.length-(Dt n o).length) 0 a',?_,?_⟩
  ·simp only[AfN,Nat.sub_zero]
   rw[Af8 (by omega)]
  ·rw[BV,List.take_append_of_le_length (by simp;omega),Ag7,Nat.min_self]
   exact e4
 ·have e':AR Bk many (o,n,rings,(o.length:Int),(0:Int),())=_:=e
  have h0:=AER hP
  simp only[e',D6]
  exact⟨o,by rw[h0];rfl,by rw[h0,AgH]⟩
theorem AJ4{n:Int}{A:List Int}(h:RG n A):SI.sorted (Dt n A)=N5 n A:=by
 have hp:(SI.sorted (Dt n A)).Perm (Dt n A):=List.mergeSort_perm _ _
 have hpv:=AWD h
 have hs:(SI.sorted (Dt n A)).Pairwise (·≤·):=by
  have:=List.pairwise_mergeSort (le:=fun x y:Int=>decide (x≤y)) (fun a b c h1 h2=>by simp at *;omega) (fun a b=>by simp;omega) (Dt n A)
  exact this.imp fun h=>by simpa using h
 exact Ahs (le:=fun a b:Int=>a≤b) (fun a b _ _ h1 h2=>by omega) hs ((AJV n A).imp fun h=>by omega) (hp.trans hpv)
theorem AIH{n:Int}{rings:List (List Int)}{i:Nat}{A:List Int}{v:Int}(h:FR n rings)(iv:In n v)(hi:rings[i]? = some A)(hv:v∈A):IG ((n,(rings,())),v,())=some (N5 n A,0,()):=by
 have hD:=h.dom
 have hRF:=Kw.2 h
 have gA:=h.rg A (AfM hi)
 have hl:=gA.1.1
 rw[Vz,Ki]
 have ht:Kh ((n,(rings,())),[v],())=some (0,()):=by
  rw[PC n rings _ hD (by simp),AI0]
  simp[hRF,iv]
 obtain⟨a,e1,e2⟩:=AdR A n rings (by omega)
 simp only[ht,MM,AfB,Abr n rings v hD,hRF,iv,Ahi,AfY,h.Y8 hi iv.2.2.2 hv,Ac hi,ASO (show A.length≤4294967296 by omega),e1,Bl,IL,e2]
 have hle:(Dt n A).length≤A.length:=Agg _ _
 rw[SI.AUr _ (by omega),AJ4 gA]
theorem AN8{N:Nat}{rings:List (List Int)}{l:List Edge}(h:FC (N:Int) rings l){i:Nat}{A:List Int}{v:Int}(iv:In (N:Int) v)(hi:rings[i]? = some A)(hv:v∈A):N5 (N:Int) A=Eb N l v:=by
 have hA:=AfM hi
 obtain⟨s1,s2⟩:=h.fr.sz
 unfold N5 Eb
 rw[Afy,List.filter_map]
 congr 1
 refine Agz fun w hw => ?_
 rw[Af3]at hw
 have iw:In (N:Int) (w:Int):=⟨s1,s2,by omega,by omega⟩
 show decide ((w:Int)∈A)=EG l v (w:Int)
 rw[Af9,AfZ,BW,← h.sam v (w:Int) iv iw]
 constructor
 ·intro hm
  exact⟨A,hA,hv,hm⟩
 ·rintro⟨B,hB,h1,h2⟩
  rw[h.fr.one hA hB iv.2.2.2 hv h1]
  exact h2
theorem FC.members{N:Nat}{rings:List (List Int)}{l:List Edge}(h:FC (N:Int) rings l){v:Int}(iv:In (N:Int) v):IG (((N:Int),(rings,())),v,())=some (Eb N l v,0,()):=by
 obtain⟨i,A,_,hi,hv,_⟩:=Lp (h.fr.cov v iv)
 rw[AIH h.fr iv hi hv,AN8 h iv hi hv]
theorem ZU{n:Int}{ts:List Tie}(u v:Int)(hr:Fv ((n,(ts,())),())=some (false,())):Of ((n,(ts,())),u,v,())=some (0,1,()):=by
 rw[SX,Lr]
 simp only[hr,AfX]
theorem ZQ{N:Nat}{ts:List Tie}(h:RG2 N ts)(u v:Int):Of (((N:Int),(ts,())),u,v,())=some (if InV N u∧InV N v then(if ts.any (Bo u v)=true then((ts.findIdx (Bo u v):Nat):Int)else 0)else 0,if InV N u∧InV N v then(if ts.any (Bo u v)=true then 0 else 6)else 10,()):=by
 rw[SX,Lr]
 simp only[h.lr,AfB,Ir,Qg,Am,Ap]
 by_cases h1:min u v<0
 ·have hc:¬ (InV N u∧InV N v):=fun q=>by unfold InV at q;omega
  simp only[Ae3 h1,AfE hc]
 ·simp only[Ae2 h1]
  by_cases h2:(N:Int)≤max u v
  ·have hc:¬ (InV N u∧InV N v):=fun q=>by unfold InV at q;omega
   simp only[Ae3 h2,AfE hc]
  ·have hc:InV N u∧InV N v:=⟨⟨by omega,by omega⟩,by omega,by omega⟩
   simp only[Ae2 h2,AfJ hc,AWJ h]
   cases hany:ts.any (Bo u v)
   ·simp only[AfI,AfK]
    rw[Ae3 (by omega)]
   ·simp only[AfY]
    rw[Ae2 (by omega)]
theorem ATf:ieq (10:Int) 1=false:=by rw[Ak];rfl
theorem APT(n:Int)(ts:List Tie)(ht:ts.length≤400)(u v k:Int):∃ s e,UW ((n,(ts,())),u,v,k,())=some (s,e,())∧AF2 ((n,(ts,())),u,v,k,())=some (s,e,())∧s.length≤64:=by
 rcases JX n ts (by omega)with⟨r1,r⟩|⟨N,rfl,h⟩
 ·refine⟨[],1,?_,?_,by simp⟩
  ·rw[Y1,P5]
   simp only[ZU u v r,CM]
  ·rw[R9,Lh]
   simp only[r1,AfX]
 ·rw[Y1,P5,R9,Lh]
  simp only[ZQ h,h.r21,AfB,Qd]
  by_cases hu:0≤u∧u<(N:Int)
  ·by_cases hv:0≤v∧v<(N:Int)
   ·have hc:InV N u∧InV N v:=⟨hu,hv⟩
    have h1:=h.h1
    have hN:=h.hN
    have iu:In (N:Int) u:=⟨by omega,by omega,hu.1,hu.2⟩
    have iv:In (N:Int) v:=⟨by omega,by omega,hv.1,hv.2⟩
    obtain⟨zs,ef,hF⟩:=h.AeV k
    obtain⟨u,rfl⟩:=AfF hu.1
    obtain⟨v,rfl⟩:=AfF hv.1
    have hu':u<N:=by omega
    have hv':v<N:=by omega
    have hu1:=EC h1 hN ts ht h.inE u hu' k
    have hv1:=EC h1 hN ts ht h.inE v hv' k
    have l1:=Hz N (trk ts k) (u:Int)
    have l2:=Hz N (trk ts k) (v:Int)
    have b1:=Ng N (trk ts k) (u:Int)
    have b2:=Ng N (trk ts k) (v:Int)
    have hh:=Nb (Eb N (trk ts k) (u:Int)) (v:Int) (by omega)
    have hg:∀ l:List Int,AL l 0 0=l.headD 0:=fun l=>by cases l<;>rfl
    have hcc:=GY (Eb N (trk ts k) (u:Int)) (v:Int) (by omega)
    simp only[AfJ hc,Ae3 hu,Ae3 hv,AfB,hu1,hv1,hh,ef,hF.members iu,hF.members iv,hcc,NP hu',NP hv',hg,Ks,AG7]
    have e1:ieq (if(ts.any (Bo (u:Int) (v:Int)))=true then(0:Int)else 6) 1=false:=by
     split<;>(rw[Ak];rfl)
    have e2:ieq (if(ts.any (Bo (u:Int) (v:Int)))=true then(0:Int)else 6) 10=false:=by
     split<;>(rw[Ak];rfl)
    simp only[e1,e2]
    cases decide ((v:Int)∈Eb N (trk ts k) (u:Int))
    ·simp only[AK,l1,l2,AI,Qh]
     by_cases q1:csz N (trk ts k) (u:Int)<csz N (trk ts k) (v:Int)
     ·have q2:PU (csz N (trk ts k) (u:Int):Int) (csz N (trk ts k) (v:Int):Int) = -1:=by unfold PU;rw[AfJ (by omega)]
      simp only[Ae3 q1,q2,AfE (show ¬ ((-1:Int)=0) by omega),Am,Ae3 (show(-1:Int)<0 by omega)]
      exact⟨_,_,rfl,rfl,by first|(simp;done)|omega⟩
     ·by_cases q2:csz N (trk ts k) (u:Int)=csz N (trk ts k) (v:Int)
      ·have q3:PU (csz N (trk ts k) (u:Int):Int) (csz N (trk ts k) (v:Int):Int)=0:=by unfold PU;rw[AfE (by omega),AfE (by omega)]
       simp only[Ae2 q1,Ae3 q2,q3,AfY]
       by_cases q4:(Eb N (trk ts k) (u:Int)).headD 0<(Eb N (trk ts k) (v:Int)).headD 0
       ·have q5:PU ((Eb N (trk ts k) (u:Int)).headD 0) ((Eb N (trk ts k) (v:Int)).headD 0) = -1:=by unfold PU;rw[AfJ q4]
        simp only[q5,Am,Ae3 q4,Ae3 (show(-1:Int)<0 by omega)]
        exact⟨_,_,rfl,rfl,by first|(simp;done)|omega⟩
       ·have q5:¬ PU ((Eb N (trk ts k) (u:Int)).headD 0) ((Eb N (trk ts k) (v:Int)).headD 0)<0:=by
         unfold PU;rw[AfE q4];split<;>omega
        simp only[Am,Ae2 q4,Ae2 q5]
        exact⟨_,_,rfl,rfl,by first|(simp;done)|omega⟩
      ·have q3:PU (csz N (trk ts k) (u:Int):Int) (csz N (trk ts k) (v:Int):Int)=1:=by unfold PU;rw[AfE (by omega),AfJ (by omega)]
       simp only[Ae2 q1,Ae2 q2,q3,AfE (show ¬ ((1:Int)=0) by omega),Am,Ae2 (show ¬ (1:Int)<0 by omega)]
       exact⟨_,_,rfl,rfl,by first|(simp;done)|omega⟩
    ·exact⟨_,_,rfl,rfl,by first|(simp;done)|omega⟩
   ·have hc:¬ (InV N u∧InV N v):=fun q=>hv q.2
    simp only[AfE hc,Ae3 hu,Ae2 hv,AfB,AfX,CM,ATf]
    exact⟨_,_,rfl,rfl,by first|(simp;done)|omega⟩
  ·have hc:¬ (InV N u∧InV N v):=fun q=>hu q.1
   simp only[AfE hc,Ae2 hu,AfX,CM,ATf]
   exact⟨_,_,rfl,rfl,by first|(simp;done)|omega⟩
theorem AKd{N:Nat}(hN:N≤64)(ts:List Tie)(ht:ts.length≤400)(u v:Nat)(hu:u<N)(hv:v<N)(k:Int):∃ e,UW (((N:Int),(ts,())),(u:Int),(v:Int),k,())=some (BO N ts u v k,e,()):=by
 obtain⟨s,e,h1,h2,_⟩:=APT (N:Int) ts ht u v k
 obtain⟨e',h3⟩:=YT hN ts ht u v hu hv k
 rw[h2]at h3
 cases h3
 exact⟨_,h1⟩
end Go.Pev.Pl
end
section
namespace Go.Pev.Pl
open Tok
def ofM(s:List Int):List (Int×Int):=s.foldl (fun m w=>Ag m w 1) []
theorem AZ4(w:Int):∀ (s:List Int) (m:List (Int×Int)),(AS (s.foldl (fun m w=>Ag m w 1) m) w).getD 0=if w∈s then 1 else(AS m w).getD 0:=by
 intro s
 induction s with
 |nil=>intro m;simp
 |cons x s ih=>
  intro m
  rw[Af0,ih,AAU]
  by_cases h:w∈s
  ·rw[AfJ h,AfJ (by simp[h])]
  ·rw[AfE h]
   by_cases hx:w=x
   ·rw[AfJ hx,AfJ (by simp[hx])];rfl
   ·rw[AfE hx,AfE (by simp[h,hx])]
theorem ATZ(s:List Int)(w:Int):(AS (ofM s) w).getD 0=if AY s w=true then 1 else 0:=by
 unfold ofM AY
 rw[AZ4]
 simp[AS]
def WB(S:Int→Bool)(x:Tie):Int:=(if S x.1=true then 1 else 0)+(if S x.2.1=true then 1 else 0)
theorem AEl(s:List Int)(x:Tie):IntKind.wrap .i64 ((AS (ofM s) x.1).getD 0+(AS (ofM s) x.2.1).getD 0)=WB (AY s) x:=by
 rw[ATZ,ATZ]
 unfold WB
 rw[Aj (by split<;>split<;>omega)]
theorem ANK(S:Int→Bool)(x:Tie):ieq (WB S x) 2=both S x:=by
 rw[Ak];unfold WB both
 cases S x.1<;>cases S x.2.1<;>rfl
theorem AXE(S:Int→Bool)(x:Tie):ieq (WB S x) 0=(!S x.1 && !S x.2.1):=by
 rw[Ak];unfold WB
 cases S x.1<;>cases S x.2.1<;>rfl
theorem Aa6(S:Int→Bool)(x:Tie):ieq (WB S x) 1=decide (Dc S x):=by
 rw[Ak]
 refine AgV.2 ?_
 unfold WB Dc
 generalize S x.1=a
 generalize S x.2.1=b
 cases a<;>cases b<;>simp
def otp(i:Int):Nat→List Tie→List Int
 |_,[]=>[]
 |j,x::R=>if x.2.2.2.1=false∧x.2.2.1=i then(j:Int)::otp i (j+1) R else otp i (j+1) R
theorem AeF(S:Int→Bool)(top i:Int):∀ (R:List Tie) (j:Nat),otp i j (R.map (rT S top i))=otp i j R:=by
 intro R
 induction R with
 |nil=>intro j;rfl
 |cons x R ih=>
  intro j
  rw[AfR,otp,otp,ih,KF]
  by_cases h:x.2.2.2.1=false
  ·rw[Es h]
  ·rw[AfE (fun q=>h q.1),AfE (fun q=>h q.1)]
section
variable (n:Int) (a2 a3:Bool) (a4 a5 top:Int)
theorem AVZ(O:List Tie)(r i:Int)(s:List Int)(hs:s.length≤400):
  AR Lx many (n,O,a2,a3,a4,a5,r,top,i,([]:List (Int×Int)),s,(s.length:Int),(0:Int),())=some (.inl (n,O,a2,a3,a4,a5,r,top,i,ofM s,())):=by
 have e:=Cj (step:=Lx) (fun j (m:List (Int×Int))=>(n,O,a2,a3,a4,a5,r,top,i,m,s,(s.length:Int),(j:Int),())) s (fun w m=>.inl (Ag m w 1)) (fun m=>.inl (n,O,a2,a3,a4,a5,r,top,i,m,())) (fun _ _=>True) (by omega)
  (fun j x m hj hx _=>by
   refine⟨fun m' h' => ?_,fun r h'=>(by cases h')⟩
   cases h'
   refine⟨?_,trivial⟩
   unfold Lx
   dsimp only
   rw[AI,Ae3 hj]
   simp only[Ac hx,CN hx]
   rw[AG (by omega)])
  (fun m _=>by unfold Lx;dsimp only;rw[AI,Ae2 (by omega)]) [] trivial
 have e':AR Lx many (n,O,a2,a3,a4,a5,r,top,i,([]:List (Int×Int)),s,(s.length:Int),(0:Int),())=_:=e
 rw[e',BJ (fun w (m:List (Int×Int))=>Ag m w 1)]
 rfl
theorem AVY(O:List Tie)(hO:O.length≤400)(r:Nat)(hr:r<1073741824)(i:Nat)(hi:i<64)(s:List Int):
  AR Lw many (n,O,a2,a3,a4,a5,(r:Int),top,(i:Int),ofM s,([]:List Int),(O.length:Int),(0:Int),()) =
  some (.inl (n,O.map (rT (AY s) top i),a2,a3,a4,a5,((r+Fc (AY s) i O:Nat):Int),top,ofM s,otp i 0 O,())):=by
 have key:∀ (R A:List Tie) (j cnt q:Nat) (ps:List Int),A.length=j→A.length+R.length=O.length→R.length<cnt→q+R.length<2147483648→ps.length≤j →
   AP Lw cnt (n,A++R,a2,a3,a4,a5,(q:Int),top,(i:Int),ofM s,ps,(O.length:Int),(j:Int),()) =
   some (.inl (n,A++R.map (rT (AY s) top i),a2,a3,a4,a5,((q+Fc (AY s) i R:Nat):Int),top,ofM s,ps++otp i j R,())):=by
  intro R
  induction R with
  |nil=>
   intro A j cnt q ps hA hl hc hq hp
   obtain⟨cnt,rfl⟩:∃ c,cnt=c+1:=⟨cnt-1,by omega⟩
   unfold Lw
   rw[AP]
   dsimp only
   rw[AI,Ae2 (by simp at hl;omega)]
   simp[Fc,otp]
  |cons x R ih=>
   intro A j cnt q ps hA hl hc hq hp
   obtain⟨cnt,rfl⟩:∃ c,cnt=c+1:=⟨cnt-1,by omega⟩
   rw[AfD]at hl hc hq
   have hg:=Pj (R:=R) (x:=x) hA
   have next:∀ (y:Tie) (q':Nat) (ps':List Int),q'+R.length<2147483648→ps'.length≤j+1→rT (AY s) top i x=y→q'+Fc (AY s) i R=q+Fc (AY s) i (x::R)→ps'++otp i (j+1) R=ps++otp i j (x::R) →
     AP Lw cnt (n,A++y::R,a2,a3,a4,a5,(q':Int),top,(i:Int),ofM s,ps',(O.length:Int),((j+1:Nat):Int),()) =
     some (.inl (n,A++(x::R).map (rT (AY s) top i),a2,a3,a4,a5,((q+Fc (AY s) i (x::R):Nat):Int),top,ofM s,ps++otp i j (x::R),())):=by
    intro y q' ps' hq' hp' hy hcnt hps
    have:=ih (A++[y]) (j+1) cnt q' ps' (by simp[hA]) (by simp;omega) (by omega) hq' hp'
    rw[Afm]at this
    rw[AgN]at this
    rw[this,hcnt,AfR,hy,Afm,hps]
    rfl
   have hcc:Fc (AY s) i (x::R)=Fc (AY s) i R+if(x.2.2.2.1&&(decide (x.2.2.1=(i:Int))&&both (AY s) x))=true then 1 else 0:=by
    unfold Fc
    rw[AhE]
   have hot:otp (i:Int) j (x::R)=if x.2.2.2.1=false∧x.2.2.1=(i:Int)then(j:Int)::otp i (j+1) R else otp i (j+1) R:=rfl
   unfold Lw at next ⊢
   rw[AP]
   dsimp only
   rw[AI,Ae3 (by omega)]
   simp only[Ac hg,CN hg]
   rw[AG (show j+1<9223372036854775808 by omega),AG (show q+1<9223372036854775808 by omega),Ak]
   by_cases h3:x.2.2.1=(i:Int)
   ·rw[Ae3 h3]
    simp only[AfB]
    cases h4:x.2.2.2.1
    ·simp only[AfX]
     rw[BE (by simp only[AK,AfD,AfO];omega),IL,Cp]
     refine next x q _ (by omega) (by simp;omega) (Es h4) ?_ ?_
     ·rw[hcc,h4];simp
     ·rw[hot,AfJ ⟨h4,h3⟩];simp
    ·simp only[AfB]
     rw[AEl,ANK]
     cases hb:both (AY s) x
     ·simp only[]
      refine next x q ps (by omega) (by omega) ?_ ?_ ?_
      ·unfold rT
       rw[AfE (fun hh=>by rw[hb]at hh;exact absurd hh.2.2 (by simp))]
      ·rw[hcc,hb];simp
      ·rw[hot,AfE (fun hh=>by rw[h4]at hh;exact absurd hh.1 (by simp))]
     ·simp only[]
      rw[J6 hA,Ir,h3,AG (show i+1<9223372036854775808 by omega)]
      refine next _ (q+1) ps (by omega) (by omega) ?_ ?_ ?_
      ·unfold rT
       rw[AfJ ⟨h4,h3,hb⟩]
       unfold E7
       rw[h3,h4]
       rfl
      ·rw[hcc,h4,Ae3 h3,hb];simp;omega
      ·rw[hot,AfE (fun hh=>by rw[h4]at hh;exact absurd hh.1 (by simp))]
   ·rw[Ae2 h3]
    simp only[AfX]
    refine next x q ps (by omega) (by omega) ?_ ?_ ?_
    ·unfold rT
     rw[AfE (fun hh=>h3 hh.2.1)]
    ·rw[hcc,Ae2 h3];simp
    ·rw[hot,AfE (fun hh=>h3 hh.2)]
 have:=key O [] 0 many r [] rfl (by simp) (by simp only[many];omega) (by omega) (by simp)
 rw[Aa]
 exact this
theorem AVX(O:List Tie)(hO:O.length≤400)(r:Nat)(hr:r<1073741824)(i:Nat)(hi:i<64)(s:List Int):
  AR Lv many (n,O,a2,a3,a4,a5,(r:Int),top,ofM s,otp i 0 O,((otp i 0 O).length:Int),(0:Int),()) =
  some (match(Aq (AY s) top i O).2.2 with
   |some e=>.inr (.inl (n,(Aq (AY s) top i O).1,a2,true,e.1,e.2.1,((r+(Aq (AY s) top i O).2.1:Nat):Int),top,true,()))
   |none=>.inl (n,(Aq (AY s) top i O).1,a2,a3,a4,a5,((r+(Aq (AY s) top i O).2.1:Nat):Int),top,())):=by
 have key:∀ (R A:List Tie) (j cnt q:Nat) (pre:List Int),A.length=j→R.length<cnt→q+R.length<2147483648→pre.length≤j→j+R.length≤400 →
   AP Lv cnt (n,A++R,a2,a3,a4,a5,(q:Int),top,ofM s,pre++otp i j R,((pre++otp i j R).length:Int),(pre.length:Int),()) =
   some (match(Aq (AY s) top i R).2.2 with
    |some e=>.inr (.inl (n,A++(Aq (AY s) top i R).1,a2,true,e.1,e.2.1,((q+(Aq (AY s) top i R).2.1:Nat):Int),top,true,()))
    |none=>.inl (n,A++(Aq (AY s) top i R).1,a2,a3,a4,a5,((q+(Aq (AY s) top i R).2.1:Nat):Int),top,())):=by
  intro R
  induction R with
  |nil=>
   intro A j cnt q pre hA hc hq hp hj
   obtain⟨cnt,rfl⟩:∃ c,cnt=c+1:=⟨cnt-1,by omega⟩
   unfold Lv
   rw[AP]
   dsimp only
   rw[AI,Ae2 (by simp[otp])]
   rfl
  |cons x R ih=>
   intro A j cnt q pre hA hc hq hp hj
   rw[AfD]at hc hq hj
   have hg:=Pj (R:=R) (x:=x) hA
   rw[Aq,otp]
   by_cases hO:x.2.2.2.1=false∧x.2.2.1=(i:Int)
   ·obtain⟨h4,h3⟩:=hO
    rw[AfJ ⟨h4,h3⟩,AfE (fun hh=>by rcases hh with hh|hh;rw[h4]at hh;cases hh;exact hh h3)]
    obtain⟨cnt,rfl⟩:∃ c,cnt=c+1:=⟨cnt-1,by omega⟩
    have hlt:pre.length<(pre++(j:Int)::otp i (j+1) R).length:=by simp
    have hpx:(pre++(j:Int)::otp i (j+1) R)[pre.length]? = some (j:Int):=by simp
    have step:∀ (y:Tie) (q':Nat),q'+R.length<2147483648 →
      AP Lv cnt (n,A++y::R,a2,a3,a4,a5,(q':Int),top,ofM s,pre++(j:Int)::otp i (j+1) R,((pre++(j:Int)::otp i (j+1) R).length:Int),((pre.length+1:Nat):Int),()) =
      some (match(Aq (AY s) top i R).2.2 with
       |some e=>.inr (.inl (n,A++y::(Aq (AY s) top i R).1,a2,true,e.1,e.2.1,((q'+(Aq (AY s) top i R).2.1:Nat):Int),top,true,()))
       |none=>.inl (n,A++y::(Aq (AY s) top i R).1,a2,a3,a4,a5,((q'+(Aq (AY s) top i R).2.1:Nat):Int),top,())):=by
     intro y q' hq'
     have:=ih (A++[y]) (j+1) cnt q' (pre++[(j:Int)]) (by simp[hA]) (by omega) hq' (by simp;omega) (by omega)
     have hpl:(pre++[(j:Int)]).length=pre.length+1:=by simp
     simp only[Afm,AgN,hpl]at this
     exact this
    unfold Lv at step ⊢
    rw[AP]
    dsimp only
    rw[AI,Ae3 hlt]
    simp only[Ac hpx,CN hpx,CN hg]
    rw[AG (show pre.length+1<9223372036854775808 by omega),AG (show q+1<9223372036854775808 by omega),AEl,AXE,ANK,Aa6]
    cases hb:both (AY s) x
    ·simp only[AfI,AfK]
     by_cases hx:Dc (AY s) x
     ·have hnn:(!AY s x.1 && !AY s x.2.1)=false:=by
       unfold Dc at hx
       revert hx
       cases AY s x.1<;>cases AY s x.2.1<;>simp
      have hg2:(A++Cf x::R)[j]? = some (Cf x):=Pj hA
      simp only[hnn,Ae3 hx,AfJ hx]
      rw[J6 hA]
      rw[show((x.1,(x.2.1,(x.2.2.1,(true,())))):Tie)=Cf x from rfl]
      simp only[CN hg2,Age]
      rfl
     ·have hnn:(!AY s x.1 && !AY s x.2.1)=true:=by
       unfold Dc at hx
       unfold both at hb
       revert hx hb
       cases AY s x.1<;>cases AY s x.2.1<;>simp
      simp only[hnn,AfE hx]
      exact step x q (by omega)
    ·have hnn:(!AY s x.1 && !AY s x.2.1)=false:=by
      unfold both at hb
      revert hb
      cases AY s x.1<;>cases AY s x.2.1<;>simp
     simp only[hnn,AfY]
     rw[J6 hA,Ir,h3,AG (show i+1<9223372036854775808 by omega)]
     have:=step (E7 top x) (q+1) (by omega)
     have hr:((x.1,(x.2.1,(min top ((i+1:Nat):Int),(x.2.2.2.1,())))):Tie)=E7 top x:=by
      unfold E7
      rw[h3]
      rfl
     rw[hr,this]
     rw[show q+1+(Aq (AY s) top i R).2.1=q+((Aq (AY s) top i R).2.1+1) by omega]
   ·have hor:x.2.2.2.1=true∨x.2.2.1≠(i:Int):=by
     cases h4:x.2.2.2.1
     ·exact .inr fun h3=>hO ⟨h4,h3⟩
     ·exact .inl rfl
    rw[AfE hO,AfJ hor]
    have:=ih (A++[x]) (j+1) cnt q pre (by simp[hA]) (by omega) (by omega) (by omega) (by omega)
    simp only[Afm,AgN]at this
    exact this
 have:=key O [] 0 many r [] rfl (by simp only[many];omega) (by omega) (by simp) (by omega)
 rw[Aa]
 exact this
end
theorem AcT{N:Nat}(hN:N≤64)(u v:Nat)(hu:u<N)(hv:v<N)(top:Int)(O:List Tie)(hO:O.length≤400)(a2 a3:Bool)(a4 a5:Int)(r:Nat)(hr:r<536870912)(i:Nat)(hi:i<64)(S:Int→Bool)(hS:S=AY (BO N O u v i)):
  pat ((N:Int),O,a2,a3,a4,a5,(r:Int),top,(u:Int),(v:Int),(i:Int),()) =
  some (match(Aq S top i (O.map (rT S top i))).2.2 with
   |some e=>((N:Int),(Aq S top i (O.map (rT S top i))).1,a2,true,e.1,e.2.1,((r+Fc S i O+(Aq S top i (O.map (rT S top i))).2.1:Nat):Int),top,true,())
   |none=>((N:Int),(Aq S top i (O.map (rT S top i))).1,a2,a3,a4,a5,((r+Fc S i O+(Aq S top i (O.map (rT S top i))).2.1:Nat):Int),top,false,())):=by
 subst hS
 obtain⟨e,hs⟩:=AKd hN O hO u v hu hv (i:Int)
 have hl:=ADt N O u v (i:Int)
 have hc:=AIa (AY (BO N O u v i)) i O
 have e0:=AVZ (N:Int) a2 a3 a4 a5 top O (r:Int) (i:Int) (BO N O u v i) (by omega)
 have e1:=AVY (N:Int) a2 a3 a4 a5 top O hO r (by omega) i hi (BO N O u v i)
 have e2:=AVX (N:Int) a2 a3 a4 a5 top (O.map (rT (AY (BO N O u v i)) top i)) (by simpa using hO) (r+Fc (AY (BO N O u v i)) i O) (by omega) i hi (BO N O u v i)
 rw[AeF]at e2
 rw[AZT,ATP]
 simp only[hs,AK,e0,e1,e2]
 cases (Aq (AY (BO N O u v i)) top i (O.map (rT (AY (BO N O u v i)) top i))).2.2 with
 |none=>rfl
 |some e=>rfl
end Go.Pev.Pl
end
section
namespace Go.Pev.Pl
section
variable {α:Type} (z:α)
theorem AAu{a o:List α}{m k:Nat}(h:a.drop m=o.drop m)(hk:m≤k):a.getD k z=o.getD k z:=by
 have:=AgZ (fun l=>l.getD (k-m) z) h
 simp only[Ae5,Af6]at this
 rw[Nat.add_sub_cancel' hk]at this
 simpa [Ae5]using this
theorem LI{xs:List α}{i:Nat}(h:i<xs.length):xs.take (i+1)=xs.take i++[xs.getD i z]:=by
 rw[Afw h];simp[h]
theorem AbB{σ ρ:Type}{step:σ→Option (σ⊕ρ)}(st:List α→Nat→Nat→σ)(fin:List α→Nat→ρ)(keep:α→Bool)(o:List α)
  (h:∀ a w j,a.length=o.length→j<o.length→w<j→a.getD j z=o.getD j z→step (st a w j)=some (.inl (if keep (o.getD j z)=true then st (a.set w (o.getD j z)) (w+1) (j+1)else st a w (j+1))))
  (hN:∀ a w,a.length=o.length→step (st a w o.length)=some (.inr (fin a w))) :
  ∀ (k j w:Nat) (a:List α) (cnt:Nat),j+k=o.length→a.length=o.length→w=((o.take j).filter keep).length→a.take w=(o.take j).filter keep→w<j→a.drop j=o.drop j→k<cnt →
  ∃ a':List α,AP step cnt (st a w j)=some (fin a' (o.filter keep).length)∧a'.length=o.length∧a'.take (o.filter keep).length=o.filter keep:=by
 intro k
 induction k with
 |zero=>
  intro j w a cnt hk hl hw hq hwj hd hn
  obtain⟨cnt,rfl⟩:∃ k,cnt=k+1:=⟨cnt-1,by omega⟩
  have e:j=o.length:=by omega
  subst e
  rw[AgH]at hw hq
  rw[AP,hN a w hl]
  exact⟨a,by rw[hw],hl,by rw[← hw];exact hq⟩
 |succ k ih=>
  intro j w a cnt hk hl hw hq hwj hd hn
  obtain⟨cnt,rfl⟩:∃ k,cnt=k+1:=⟨cnt-1,by omega⟩
  have g1:=AAu z hd (AfH j)
  have hdd:a.drop (j+1)=o.drop (j+1):=by
   have:=AgZ (List.drop 1) hd
   simpa only[Agk]using this
  have hst:(o.take (j+1)).filter keep=(o.take j).filter keep++if keep (o.getD j z)=true then [o.getD j z]else []:=by
   rw[LI z (by omega),AgS]
   generalize o.getD j z=v
   by_cases h:keep v=true<;>simp[h]
  rw[AP,h a w j hl (by omega) hwj g1]
  by_cases hv:keep (o.getD j z)=true
  ·rw[AfJ hv]at hst ⊢
   refine ih (j+1) (w+1) (a.set w (o.getD j z)) cnt (by omega) (by simp[hl]) (by rw[hst];simp[hw]) ?_ (by omega) ?_ (by omega)
   ·rw[hst,← hq,Afw (by simp;omega)]
    simp[List.take_set_of_le]
   ·rw[List.drop_set_of_lt (by omega)]
    exact hdd
  ·rw[AfE hv]at hst ⊢
   rw[AgL]at hst
   exact ih (j+1) w a cnt (by omega) hl (by rw[hst];exact hw) (by rw[hst];exact hq) (by omega) hdd (by omega)
theorem AXH{σ ρ σ' ρ':Type}{find:σ'→Option (σ'⊕ρ')}{step:σ→Option (σ⊕ρ)}(st:List α→Nat→Nat→σ)(fin:List α→Nat→ρ)(sf:Nat→σ')(fr:Nat→ρ')(fn:ρ')(keep:α→Bool)(o:List α)(hs:o.length<4294967296)
  (h:∀ a w j,a.length=o.length→j<o.length→w<j→a.getD j z=o.getD j z→step (st a w j)=some (.inl (if keep (o.getD j z)=true then st (a.set w (o.getD j z)) (w+1) (j+1)else st a w (j+1))))
  (hN:∀ a w,a.length=o.length→step (st a w o.length)=some (.inr (fin a w)))
  (f:∀ i,i<o.length→find (sf i)=if keep (o.getD i z)=true then some (.inl (sf (i+1)))else some (.inr (fr i))) (fN:find (sf o.length)=some (.inr fn)) :
  (o.filter keep=o∧AR find many (sf 0)=some fn) ∨
  (∃ k a',k<o.length∧AR find many (sf 0)=some (fr k)∧AR step many (st o k (k+1))=some (fin a' (o.filter keep).length)∧a'.length=o.length∧(o.filter keep).length≤o.length∧a'.take (o.filter keep).length=o.filter keep):=by
 have hm:4294967296<many:=by simp only[many];omega
 have hall:∀ n,(∀ j,j<n→j<o.length→keep (o.getD j z)=true)→(o.take n).filter keep=o.take n:=by
  intro n hj
  rw[Ago]
  intro x hx
  obtain⟨j,h1,rfl⟩:=Agr.1 hx
  have:=hj j (by omega) (by omega)
  simpa [show j<o.length by omega]using this
 rcases YV (step:=find) sf o.length (fun i => !keep (o.getD i z)) fr fn (by omega) (fun i hi=>by rw[f i hi];cases keep (o.getD i z)<;>rfl) fN with⟨k,hk,hP,hF,e⟩|⟨hP,e⟩
 ·right
  have hkf:keep (o.getD k z)=false:=by
   cases hq:keep (o.getD k z)
   ·rfl
   ·rw[hq]at hP;cases hP
  have h1:(o.take k).filter keep=o.take k:=hall k fun j h1 _=>by
   have:=hF j h1
   cases hq:keep (o.getD j z)
   ·rw[hq]at this;cases this
   ·rfl
  have h2:(o.take (k+1)).filter keep=o.take k:=by
   rw[LI z hk,AgS,h1,AgA,hkf]
   simp
  obtain⟨a',e2,e3,e4⟩:=AbB z st fin keep o h hN (o.length-(k+1)) (k+1) k o many (by omega) rfl (by rw[h2,AfN];omega) (by rw[h2]) (by omega) rfl (by omega)
  exact⟨k,a',hk,e,by rw[Aa];exact e2,e3,Agg _ _,e4⟩
 ·left
  refine⟨?_,e⟩
  have:=hall o.length fun j _ h2=>by
   have:=hP j h2
   cases hq:keep (o.getD j z)
   ·rw[hq]at this;cases this
   ·rfl
  rwa [AgH]at this
theorem ASP{a:List α}{w:Nat}(h:w≤a.length):(BV w (a.length-w) z a).take w=a.take w∧(BV w (a.length-w) z a).length=a.length:=by
 constructor
 ·rw[BV,List.take_append_of_le_length (by simp;omega),Ag7,Nat.min_self]
 ·simp[BV];omega
end
end Go.Pev.Pl
end
section
namespace Go.Pev.Pl
open Tok
theorem AWr(n:Nat)(hn:n<4294967296):AM1 ((n:Int),())=some ([],()):=by
 have e0:IntKind.wrap .i64 ((n:Int)-IntKind.wrap .i64 ((0:Int)-0))=(n:Int):=by rw[Aj (n:=(0:Int)-0) (by omega),Aj (by omega)];omega
 rw[AM0,Xe]
 simp only[e0,Am]
 rw[Ae2 (by omega)]
 simp only[]
 by_cases h:0<n
 ·rw[Ae3 (by omega)]
  have s1:B4 ([]:List Unit) (0:Int) (0:Int)=some []:=by rw[M6];rfl
  have s2:B4 (Jt (AE (n:Int)) ((0:Int),((0:Int),((0:Int),(false,()))))) (0:Int) (0:Int)=some []:=by
   rw[M6,LJ,AfJ (by omega)]
   simp
  have s3:LQ (n:Int)=true:=(Jq _).2 (by omega)
  simp only[s1,s2,s3]
  rfl
 ·rw[Ae2 (by omega)]
theorem ANY(xss:List (List Tie))(hs:xss.length<4294967296)(h:xss.flatten.length<4294967296):Ni (xss,())=some (xss.flatten,()):=by
 rw[ABP,Nh]
 have e:=Cj (step:=Eg) (fun i (a:Nat)=>(xss,(a:Int),xss,AM xss,(i:Int),())) xss (fun x a=>.inl (a+x.length)) (fun a=>.inl (xss,(a:Int),())) (fun i a=>a=(xss.take i).flatten.length) (by omega)
  (fun i x a hi hx ha=>by
   refine⟨fun m' h' => ?_,fun r h'=>by cases h'⟩
   cases h'
   have h1:=DL hx
   have h2:=EO xss (i+1)
   rw[h1,AfC]at h2
   rw[Eg]
   simp only[AK]
   rw[AI,Ae3 hi]
   simp only[Ac hx]
   rw[wrap_add (by omega),AG (by omega),Am,Ae2 (by omega)]
   exact⟨rfl,by rw[h1,AfC,ha]⟩)
  (fun a _=>by rw[Eg,AK,AI,Ae2 (by omega)]) 0 rfl
 have e':AR Eg many (xss,(0:Int),xss,AM xss,(0:Int),())=_:=e
 rw[e',BJ]
 have hsum:∀ (l:List (List Tie)) (a:Nat),l.foldl (fun a x=>a+x.length) a=a+l.flatten.length:=by
  intro l
  induction l with
  |nil=>intro a;rfl
  |cons x l ih=>intro a;rw[Af0,ih,Agl,AfC];omega
 rw[hsum,AgF]
 simp only[AWr _ h]
 have g:=Cj (step:=Ef) (fun i (a:List Tie)=>(a,xss,AM xss,(i:Int),())) xss (fun x a=>.inl (a++x)) (fun a=>.inl (a,())) (fun i a=>a=(xss.take i).flatten) (by omega)
  (fun i x a hi hx ha=>by
   refine⟨fun m' h' => ?_,fun r h'=>by cases h'⟩
   cases h'
   have h1:=DL hx
   have h2:=EO xss (i+1)
   rw[h1,AfC]at h2
   rw[Ef]
   simp only[AK]
   rw[AI,Ae3 hi]
   simp only[Ac hx]
   rw[AG (by omega),BE (by rw[ha];omega)]
   exact⟨rfl,by rw[h1,ha]⟩)
  (fun a _=>by rw[Ef,AK,AI,Ae2 (by omega)]) [] rfl
 have g':AR Ef many ([],xss,AM xss,(0:Int),())=_:=g
 rw[g',BJ]
 have hcat:∀ (l:List (List Tie)) (a:List Tie),l.foldl (fun a x=>a++x) a=a++l.flatten:=by
  intro l
  induction l with
  |nil=>intro a;simp
  |cons x l ih=>intro a;rw[Af0,ih,Agl,Afm]
 rw[hcat]
 rfl
def Fb(x:Edge):Edge:=(min x.1 x.2.1,max x.1 x.2.1,())
abbrev WM:=List (Edge×Int)
def Fa(m:WM)(x:Edge):Int:=(AS m x).getD 0
theorem AbD(o:List Edge)(m:WM)(hs:o.length<4294967296):
  ∃ a:List Edge,IS (o,m,())=some (a,m,(((o.filter fun x => !ieq (Fa m x) 0).length:Nat):Int),())∧a.take (o.filter fun x => !ieq (Fa m x) 0).length=o.filter fun x => !ieq (Fa m x) 0:=by
 have hp:=AXH (find:=CF) (step:=DF) ((0:Int),(0:Int),()) (fun a (w j:Nat)=>(a,m,(w:Int),(j:Int),())) (fun a (w:Nat)=>.inl (a,m,(w:Int),())) (fun i=>(o,m,(o.length:Int),(i:Int),())) (fun i=>.inl (o,m,(i:Int),())) (.inr (.inl (o,m,()))) (fun x => !ieq (Fa m x) 0) o hs
  (fun a w j ha hj hw hg=>by
   unfold DF
   dsimp only
   simp (disch:=omega) only[AK,AI,ha,hj,AfG,CV ((0:Int),(0:Int),()),Ee,ABD,hg,AG]
   unfold Fa
   cases (!ieq ((AS m (o.getD j ((0:Int),(0:Int),()))).getD 0) 0)<;>rfl)
  (fun a w ha=>by unfold DF;dsimp only;rw[AK,AI,Ae2 (by omega)])
  (fun i hi=>by
   unfold CF
   dsimp only
   simp (disch:=omega) only[AI,hi,AfG,CV ((0:Int),(0:Int),()),Ee,AG]
   unfold Fa
   cases ieq ((AS m (o.getD i ((0:Int),(0:Int),()))).getD 0) 0<;>rfl)
  (by unfold CF;dsimp only;rw[AI,Ae2 (by omega)])
 rw[OI,HJ,OD,HF]
 generalize (fun x => !ieq (Fa m x) 0)=keep at *
 rcases hp with⟨h0,e⟩|⟨k,a',hk,e,e2,hl,hle,e4⟩
 ·have e':AR CF many (o,m,AM o,(0:Int),())=_:=e
  simp only[e',Ak]
  exact⟨o,by rw[h0];rfl,by rw[h0,AgH]⟩
 ·have e':AR CF many (o,m,AM o,(0:Int),())=_:=e
  obtain⟨c1,c2⟩:=ASP ((0:Int),(0:Int),()) (a:=a') (w:=(o.filter keep).length) (by omega)
  have s0:B4 (BV (o.filter keep).length (a'.length-(o.filter keep).length) ((0:Int),(0:Int),()) a') (0:Int) (((o.filter keep).length:Nat):Int)=some _:=KA (by omega)
  have s1:B4 a' (((o.filter keep).length:Nat):Int) (a'.length:Int)=some _:=D9 (by omega)
  simp only[e',Ak]
  rw[Ae2 (by omega),AG (by omega)]
  simp only[e2,s1,AK,Afg,IL,s0]
  refine⟨_,?_,c1.trans e4⟩
  rw[AfN,c2,Af8 (by omega)]
theorem APp{N:Nat}(h1:1≤N)(hN:N≤64)(ts:List Tie)(l:List Edge)(hs:l.length<1073741824)(m:WM)(i:Nat)(x:Edge)(hi:i<l.length)(hx:l[i]? = some x)(hb:0≤Fa m (Fb x)∧Fa m (Fb x)≤(i:Int)):
  EA ((N:Int),ts,m,l,(l.length:Int),(i:Int),())=if In (N:Int) x.1∧In (N:Int) x.2.1 then some (.inl ((N:Int),ts,Ag m (Fb x) (Fa m (Fb x)+1),l,(l.length:Int),((i+1:Nat):Int),()))else some (.inr (.inl (10,()))):=by
 unfold EA
 dsimp only
 rw[AI,Ae3 hi]
 simp only[Ac hx,Ir,Qg]
 have hw:IntKind.wrap .i64 (Fa m (Fb x)+1)=Fa m (Fb x)+1:=Aj (by omega)
 obtain⟨m1,m2⟩:=AQg m (Fb x) (Fa m (Fb x)) (Fa m (Fb x)+1)
 unfold Fa Fb at m1 m2 hw
 by_cases c1:min x.1 x.2.1<0
 ·rw[Am,Ae3 c1,AfE (fun q=>by have q1:=q.1.2.2.1;have q2:=q.2.2.2.1;omega)]
 ·rw[Am,Ae2 c1]
  by_cases c2:(N:Int)≤max x.1 x.2.1
  ·rw[Ap,Ae3 c2,AfE (fun q=>by have q1:=q.1.2.2.2;have q2:=q.2.2.2.2;omega)]
  ·rw[Ap,Ae2 c2,AfJ ⟨⟨by omega,by omega,by omega,by omega⟩,⟨by omega,by omega,by omega,by omega⟩⟩]
   simp only[m1,hw,m2,AG (show i+1<9223372036854775808 by omega)]
   rfl
theorem APs{N:Nat}(h1:1≤N)(hN:N≤64)(ts:List Tie)(l:List Edge)(hs:l.length<1073741824):
  (¬ AUD N l∧AR EA many ((N:Int),ts,([]:WM),l,(l.length:Int),(0:Int),())=some (.inl (10,()))) ∨
  (AUD N l∧∃ m:WM,(∀ x,Fa m x=0↔x∉l.map Fb)∧AR EA many ((N:Int),ts,([]:WM),l,(l.length:Int),(0:Int),())=some (.inr (.inl ((N:Int),ts,m,())))):=by
 have key:∀ (k i:Nat) (m:WM) (cnt:Nat),i+k=l.length→k<cnt→(∀ x,0≤Fa m x∧Fa m x≤(i:Int)∧(Fa m x=0↔x∉(l.take i).map Fb)) →
   ((∃ x∈l.drop i,¬ (In (N:Int) x.1∧In (N:Int) x.2.1))∧AP EA cnt ((N:Int),ts,m,l,(l.length:Int),(i:Int),())=some (.inl (10,()))) ∨
   ((∀ x∈l.drop i,In (N:Int) x.1∧In (N:Int) x.2.1)∧∃ m':WM,(∀ x,Fa m' x=0↔x∉l.map Fb)∧AP EA cnt ((N:Int),ts,m,l,(l.length:Int),(i:Int),())=some (.inr (.inl ((N:Int),ts,m',())))):=by
  intro k
  induction k with
  |zero=>
   intro i m cnt hi hc hm
   obtain⟨cnt,rfl⟩:∃ c,cnt=c+1:=⟨cnt-1,by omega⟩
   right
   have:i=l.length:=by omega
   subst this
   refine⟨fun x hx=>(by rw[List.drop_length]at hx;cases hx),m,fun x => ?_,?_⟩
   ·have:=(hm x).2.2
    rwa [AgH]at this
   ·unfold EA
    rw[AP]
    dsimp only
    rw[AI,Ae2 (by omega)]
  |succ k ih=>
   intro i m cnt hi hc hm
   obtain⟨cnt,rfl⟩:∃ c,cnt=c+1:=⟨cnt-1,by omega⟩
   have hi':i<l.length:=by omega
   have hx:l[i]? = some l[i]:=Ae8 hi'
   have hdr:l.drop i=l[i]::l.drop (i+1):=Afn hi'
   have htk:l.take (i+1)=l.take i++[l[i]]:=Afw hi'
   rw[hdr]
   generalize hxe:l[i]=x at *
   have hb:=hm (Fb x)
   obtain⟨b1,b2,_⟩:=hb
   rw[AP,APp h1 hN ts l hs m i x hi' hx ⟨b1,b2⟩]
   by_cases hin:In (N:Int) x.1∧In (N:Int) x.2.1
   ·rw[AfJ hin]
    have hst:∀ y,Fa (Ag m (Fb x) (Fa m (Fb x)+1)) y=if y=Fb x then Fa m (Fb x)+1 else Fa m y:=by
     intro y
     unfold Fa
     rw[AAU]
     split<;>rfl
    have:=ih (i+1) (Ag m (Fb x) (Fa m (Fb x)+1)) cnt (by omega) (by omega) (fun y=>by
     rw[hst]
     obtain⟨d1,d2,d3⟩:=hm y
     rw[htk,AgM,Ae7]
     by_cases e:y=Fb x
     ·rw[AfJ e]
      refine⟨by omega,by omega,⟨fun q=>by omega,fun q=>absurd (.inr (by simp[e])) q⟩⟩
     ·rw[AfE e]
      refine⟨d1,by omega,d3.trans ⟨fun q hh => ?_,fun q hh=>q (.inl hh)⟩⟩
      rcases hh with hh|hh
      ·exact q hh
      ·exact e (by simpa using hh))
    rcases this with⟨⟨y,hy1,hy2⟩,h3⟩|⟨h2,h3⟩
    ·exact .inl ⟨⟨y,by simp[hy1],hy2⟩,h3⟩
    ·refine .inr ⟨fun y hy => ?_,h3⟩
     rcases AfA.1 hy with rfl|hy
     ·exact hin
     ·exact h2 y hy
   ·rw[AfE hin]
    exact .inl ⟨⟨x,by simp,hin⟩,rfl⟩
 have hz:∀ x:Edge,Fa ([]:WM) x=0:=fun _=>rfl
 have:=key l.length 0 [] many (by omega) (by simp only[many];omega) (fun x=>by rw[hz];simp)
 rw[Ag6]at this
 rw[Aa]
 rcases this with⟨⟨x,hx,hn⟩,e⟩|⟨h,e⟩
 ·exact .inl ⟨fun q=>hn (q x hx),e⟩
 ·exact .inr ⟨h,e⟩
theorem AED{N:Nat}{ts:List Tie}(h:RG2 N ts)(l:List Edge)(hs:l.length<1073741824):
  VB (((N:Int),(ts,())),l,())=some (if ∀ e∈l,In (N:Int) e.1∧In (N:Int) e.2.1 then(DK N ts l,0,())else([],10,())):=by
 have ht:=h.ht
 rw[ZP,QC]
 simp only[h.lr,AfB,AK]
 rcases APs h.h1 h.hN ts l hs with⟨hn,e⟩|⟨hall,m,hm,e⟩
 ·rw[AfE (show ¬ ∀ e∈l,In (N:Int) e.1∧In (N:Int) e.2.1 from hn)]
  simp only[e]
 ·rw[AfJ (show ∀ e∈l,In (N:Int) e.1∧In (N:Int) e.2.1 from hall)]
  obtain⟨a,e1,e2⟩:=AbD (ts.map ed) m (by rw[Afd];omega)
  simp only[e,ARA (N:Int) ts h.ht h.lr,e1,Bl,IL,e2]
  congr 2
  have hf:((ts.map ed).filter fun x => !ieq (Fa m x) 0)=(ts.map ed).filter fun x=>decide (x∈l.map Fb):=by
   refine Agz fun x _ => ?_
   rw[Ak,Af9,AgI,Afs,AfZ,hm x]
   exact AhK
  rw[hf]
  have p1:((ts.map ed).filter fun x=>decide (x∈l.map Fb)).Pairwise C4:=h.edP.filter _
  have p2:=PA N ts l
  have hmem:∀ x:Edge,x∈((ts.map ed).filter fun x=>decide (x∈l.map Fb))↔x∈DK N ts l:=by
   intro x
   unfold DK
   rw[Afe,Afe,Ou,AfZ,AfZ]
   have norm:∀ y:Edge,x=Fb y→x.1<x.2.1→x=y∨x=(y.2.1,y.1,()):=by
    rintro⟨a,b,⟨⟩⟩ rfl hlt
    unfold Fb at hlt ⊢
    simp only at hlt ⊢
    rcases Int.lt_or_le a b with q|q
    ·left;rw[Ahq (by omega),AiB (by omega)]
    ·right;rw[Int.min_eq_right (by omega),Int.max_eq_left (by omega)]
   constructor
   ·rintro⟨q1,q2⟩
    have hlt:=h.Aes x q1
    obtain⟨i1,i2⟩:=h.inE x q1
    refine⟨⟨i1.2.2.1,hlt,i2.2.2.2,?_⟩,q1⟩
    obtain⟨y,hy,hyx⟩:=AfQ.1 q2
    unfold Wt
    rcases norm y hyx.symm hlt with rfl|hh
    ·exact .inl hy
    ·refine .inr ?_
     rw[hh]
     exact hy
   ·rintro⟨⟨q1,q2,q3,q4⟩,q5⟩
    refine⟨q5,AfQ.2 ?_⟩
    obtain⟨a,b,⟨⟩⟩:=x
    unfold Fb
    simp only at q2
    rcases q4 with q4|q4
    ·exact⟨_,q4,by simp only;rw[Ahq (by omega),AiB (by omega)]⟩
    ·exact⟨_,q4,by simp only;rw[Int.min_eq_right (by omega),Int.max_eq_left (by omega)]⟩
  have asym:∀ a b:Edge,C4 a b→C4 b a→False:=fun a b q1 q2=>by unfold C4 at *;omega
  have nd1:((ts.map ed).filter fun x=>decide (x∈l.map Fb)).Nodup:=p1.imp fun {a b} hh=>by rintro rfl;exact asym _ _ hh hh
  have nd2:(DK N ts l).Nodup:=p2.imp fun {a b} hh=>by rintro rfl;exact asym _ _ hh hh
  exact Ahs (le:=C4) (fun a b _ _ q1 q2=>(asym a b q1 q2).elim) p1 p2 ((AhH nd1 nd2).2 hmem)
theorem APr(n:Int)(ts:List Tie)(ht:ts.length≤400)(l:List Edge)(hs:l.length<1073741824):
  ∃ xs e,VB ((n,(ts,())),l,())=some (xs,e,())∧AAt ((n,(ts,())),l,())=some (xs,e,())∧xs.length≤4096:=by
 rcases JX n ts (by omega)with⟨r1,r⟩|⟨N,rfl,h⟩
 ·refine⟨[],1,?_,?_,by simp⟩
  ·rw[ZP,QC]
   simp only[r,AfX]
  ·rw[AEg,Qs]
   simp only[r1,AfX]
 ·have e1:=AED h l hs
  have e2:=PB h l hs
  by_cases hall:∀ e∈l,In (N:Int) e.1∧In (N:Int) e.2.1
  ·rw[AfJ hall]at e1 e2
   exact⟨_,_,e1,e2,AEf N h.hN ts l⟩
  ·rw[AfE hall]at e1 e2
   exact⟨_,_,e1,e2,by simp⟩
end Go.Pev.Pl
end
section
namespace Go.Pev.Pl
open Tok
theorem AKf{N:Nat}(hN:N≤64)(u v:Nat)(hu:u<N)(hv:v<N)(top w8:Int):
  ∀ (m:Nat) (O:List Tie) (r cnt:Nat),m≤64→O.length≤400→r+1000*m<536870912→m<cnt →
  AP EN cnt ((0:Int),false,false,(0:Int),(0:Int),(0:Int),(u:Int),(v:Int),w8,true,(N:Int),O,true,false,(0:Int),(0:Int),(r:Int),top,(m:Int)-1,()) =
  some (.inl ((0:Int),false,false,(0:Int),(0:Int),(0:Int),(N:Int),(Gu N u v top m O r).1,true,
   (match(Gu N u v top m O r).2.1 with|some _=>true|none=>false),(match(Gu N u v top m O r).2.1 with|some e=>e.1|none=>0),(match(Gu N u v top m O r).2.1 with|some e=>e.2.1|none=>0),((Gu N u v top m O r).2.2:Int),top,())):=by
 intro m
 induction m with
 |zero=>
  intro O r cnt hm hO hr hc
  obtain⟨cnt,rfl⟩:∃ c,cnt=c+1:=⟨cnt-1,by omega⟩
  unfold EN
  rw[AP]
  dsimp only
  rw[Ap,Ae2 (by omega)]
  rfl
 |succ m ih=>
  intro O r cnt hm hO hr hc
  obtain⟨cnt,rfl⟩:∃ c,cnt=c+1:=⟨cnt-1,by omega⟩
  have em:((m+1:Nat):Int)-1=(m:Int):=by omega
  have hp:=AcT hN u v hu hv top O hO true false 0 0 r (by omega) m (by omega) _ rfl
  have l1:=NF (AY (BO N O u v m)) top m (O.map (rT (AY (BO N O u v m)) top m))
  have l2:=AIa (AY (BO N O u v m)) m O
  rw[Afd]at l1
  rw[em,Gu]
  cases hf:(Aq (AY (BO N O u v m)) top m (O.map (rT (AY (BO N O u v m)) top m))).2.2 with
  |some e=>
   rw[hf]at hp
   have hst:EN ((0:Int),false,false,(0:Int),(0:Int),(0:Int),(u:Int),(v:Int),w8,true,(N:Int),O,true,false,(0:Int),(0:Int),(r:Int),top,(m:Int),())=some (.inr (.inl ((0:Int),false,false,(0:Int),(0:Int),(0:Int),(N:Int),(Aq (AY (BO N O u v m)) top m (O.map (rT (AY (BO N O u v m)) top m))).1,true,true,e.1,e.2.1,((r+Fc (AY (BO N O u v m)) m O+(Aq (AY (BO N O u v m)) top m (O.map (rT (AY (BO N O u v m)) top m))).2.1:Nat):Int),top,()))):=by
    unfold EN
    dsimp only
    rw[Ap,Ae3 (show(0:Int)≤(m:Int) by omega)]
    simp only[hp,AfB]
   rw[AP,hst]
  |none=>
   rw[hf]at hp
   have hst:EN ((0:Int),false,false,(0:Int),(0:Int),(0:Int),(u:Int),(v:Int),w8,true,(N:Int),O,true,false,(0:Int),(0:Int),(r:Int),top,(m:Int),())=some (.inl ((0:Int),false,false,(0:Int),(0:Int),(0:Int),(u:Int),(v:Int),w8,true,(N:Int),(Aq (AY (BO N O u v m)) top m (O.map (rT (AY (BO N O u v m)) top m))).1,true,false,(0:Int),(0:Int),((r+Fc (AY (BO N O u v m)) m O+(Aq (AY (BO N O u v m)) top m (O.map (rT (AY (BO N O u v m)) top m))).2.1:Nat):Int),top,(m:Int)-1,())):=by
    unfold EN
    dsimp only
    rw[Ap,Ae3 (show(0:Int)≤(m:Int) by omega)]
    simp only[hp,AfX]
    rw[Aj (by omega)]
   rw[AP,hst]
   exact ih _ _ cnt (by omega) (by rw[l1.1];exact hO) (by omega) (by omega)
theorem AY1{N:Nat}{ts:List Tie}(h:RG2 N ts)(u v:Int):
  (¬ ((0≤u∧u<(N:Int))∧(0≤v∧v<(N:Int)))∧ACf (((N:Int),(ts,())),u,v,())=some ((N:Int),ts,AJT,10,())) ∨
  (((0≤u∧u<(N:Int))∧(0≤v∧v<(N:Int)))∧ts.any (Bo u v)=false∧ACf (((N:Int),(ts,())),u,v,())=some ((N:Int),ts,AJT,6,())) ∨
  (((0≤u∧u<(N:Int))∧(0≤v∧v<(N:Int)))∧ts.any (Bo u v)=true∧∃ t,ts[ts.findIdx (Bo u v)]? = some t ∧
   ACf (((N:Int),(ts,())),u,v,())=some ((N:Int),(EE N ts (ts.findIdx (Bo u v)) t).1,AXn t.2.2.2.1 (EE N ts (ts.findIdx (Bo u v)) t).2.1 (EE N ts (ts.findIdx (Bo u v)) t).2.2,0,())):=by
 have ht:=h.ht
 have hN:=h.hN
 rw[AGS,Y7]
 simp only[ZQ h]
 by_cases huv:InV N u∧InV N v
 ·right
  rw[AfJ huv,AfJ huv]
  cases ha:ts.any (Bo u v)
  ·left
   refine⟨huv,rfl,?_⟩
   simp only[AfI,AfK,Ak]
   rfl
  ·right
   have hk:ts.findIdx (Bo u v)<ts.length:=AgT.2 (AgB.1 ha)
   have hx:ts[ts.findIdx (Bo u v)]? = some ts[ts.findIdx (Bo u v)]:=Ae8 hk
   refine⟨huv,rfl,_,hx,?_⟩
   have hm:ts[ts.findIdx (Bo u v)]∈ts:=AgC hk
   generalize ts[ts.findIdx (Bo u v)]=t at *
   generalize ts.findIdx (Bo u v)=p at *
   obtain⟨i1,i2,hlt,l1,l2⟩:=h.tie hm
   obtain⟨a,ha'⟩:=AfF i1.2.2.1
   obtain⟨b,hb'⟩:=AfF i2.2.2.1
   obtain⟨lv,hlv⟩:=AfF l1
   have haN:a<N:=by have:=i1.2.2.2;omega
   have hbN:b<N:=by have:=i2.2.2.2;omega
   have hT:=EK hN
   have hT64:=AFV hN
   have s1:B4 ts (0:Int) (p:Int)=some (ts.take p):=KA (by omega)
   have s2:B4 ts ((p+1:Nat):Int) (ts.length:Int)=some (ts.drop (p+1)):=D9 (by omega)
   have hcat:Ni ([ts.take p,ts.drop (p+1)],())=some (ts.take p++ts.drop (p+1),()):=by
    rw[ANY _ (by simp) (by simp;omega)]
    simp
   simp only[AfY,CM,AfB]
   simp only[Ac hx,s1]
   rw[AG (by omega)]
   simp only[AK,s2,hcat,AAJ N hN,hT]
   unfold EE
   cases h4:t.2.2.2.1
   ·obtain⟨m,hmany⟩:∃ m,many=m+1:=⟨many-1,by simp only[many]⟩
    have:AR EN many ((0:Int),false,false,(0:Int),(0:Int),(0:Int),t.1,t.2.1,t.2.2.1,false,(N:Int),ts.take p++ts.drop (p+1),false,false,(0:Int),(0:Int),(0:Int),(Be N:Int),t.2.2.1,()) =
      some (.inl ((0:Int),false,false,(0:Int),(0:Int),(0:Int),(N:Int),ts.take p++ts.drop (p+1),false,false,(0:Int),(0:Int),(0:Int),(Be N:Int),())):=by
     rw[Aa,hmany,AP,EN]
    simp only[this]
    rfl
   ·simp only[AfY]
    have hlen:(ts.take p++ts.drop (p+1)).length≤400:=by rw[AfC,AfN,Afg];omega
    have hs:=AKf hN a b haN hbN (Be N:Int) t.2.2.1 (lv+1) (ts.take p++ts.drop (p+1)) 0 many (by omega) hlen (by omega) (by simp only[many];omega)
    rw[← ha',← hb',show((lv+1:Nat):Int)-1=t.2.2.1 by omega]at hs
    have e2:t.1.toNat=a:=by omega
    have e3:t.2.1.toNat=b:=by omega
    have e4:t.2.2.1.toNat+1=lv+1:=by omega
    rw[e2,e3,e4]
    rw[← Aa]at hs
    have hs':AR EN many ((0:Int),false,false,(0:Int),(0:Int),(0:Int),t.1,t.2.1,t.2.2.1,true,(N:Int),ts.take p++ts.drop (p+1),true,false,(0:Int),(0:Int),(0:Int),(Be N:Int),t.2.2.1,())=_:=hs
    simp only[hs']
    cases (Gu N a b (Be N:Int) (lv+1) (ts.take p++ts.drop (p+1)) 0).2.1 with
    |some e=>rfl
    |none=>rfl
 ·left
  rw[AfE huv,AfE huv]
  refine⟨huv,?_⟩
  simp only[Ak]
  rfl
theorem AYQ(N u v:Nat)(top:Int):∀ (m:Nat) (O:List Tie) (r:Nat),(Gu N u v top m O r).1.length=O.length:=by
 intro m
 induction m with
 |zero=>intro O r;rfl
 |succ m ih=>
  intro O r
  have l1:=NF (AY (BO N O u v m)) top m (O.map (rT (AY (BO N O u v m)) top m))
  rw[Afd]at l1
  rw[Gu]
  split
  ·exact l1.1
  ·rw[ih];exact l1.1
theorem AWy(N:Nat)(ts:List Tie)(p:Nat)(t:Tie):(EE N ts p t).1.length≤ts.length:=by
 unfold EE
 split
 ·rw[AYQ,AfC,AfN,Afg];omega
 ·show(ts.take p++ts.drop (p+1)).length≤_
  rw[AfC,AfN,Afg];omega
theorem AVH(n:Int)(ts:List Tie)(ht:ts.length≤400)(u v:Int):∃ O w e,ACf ((n,(ts,())),u,v,())=some (n,O,w,e,())∧AEJ ((n,(ts,())),u,v,())=some (n,O,w,e,())∧O.length≤ts.length:=by
 rcases JX n ts (by omega)with⟨r1,r⟩|⟨N,rfl,h⟩
 ·refine⟨ts,AJT,1,?_,?_,AfH _⟩
  ·rw[AGS,Y7]
   simp only[ZU u v r,Ak]
   rfl
  ·rw[AL6,XU]
   simp only[r1,AfX]
   rfl
 ·rcases AY1 h u v with⟨q,e⟩|⟨q,q1,e⟩|⟨q,q1,t,g,e⟩
  ·rcases NM h u v with⟨_,e'⟩|⟨q',_⟩|⟨q',_⟩
   ·exact⟨_,_,_,e,e',AfH _⟩
   ·exact absurd q' q
   ·exact absurd q' q
  ·rcases NM h u v with⟨q',_⟩|⟨_,_,e'⟩|⟨_,q',_⟩
   ·exact absurd q q'
   ·exact⟨_,_,_,e,e',AfH _⟩
   ·rw[q1]at q';cases q'
  ·rcases NM h u v with⟨q',_⟩|⟨_,q',_⟩|⟨_,_,t',g',e'⟩
   ·exact absurd q q'
   ·rw[q1]at q';cases q'
   ·rw[g]at g'
    cases g'
    exact⟨_,_,_,e,e',AWy _ _ _ _⟩
theorem APw(n:Int)(ts:List Tie)(ht:ts.length≤400)(l:List Edge)(hs:l.length<1073741824):
  ∃ O w e,VC ((n,(ts,())),l,())=some ((n,(O,())),w,e,())∧Tc ((n,(ts,())),l,())=some ((n,(O,())),w,e,())∧O.length≤ts.length∧w.length≤4096:=by
 obtain⟨xs,e,g1,g2,hx⟩:=APr n ts ht l hs
 rw[AKw,XQ,Tb,MZ]
 simp only[g1,g2]
 cases he:(!(ieq e 0))
 ·have key:∀ (m i cnt cnt':Nat) (O:List Tie) (outs:List (Bool×Bool×Edge×Int×Unit)),i+m=xs.length→m<cnt→m<cnt'→O.length≤ts.length→outs.length=i →
    (∃ c,AP EB cnt (n,ts,(0:Int),outs,n,O,xs,(xs.length:Int),(i:Int),())=some (.inl (n,ts,c,()))∧AP B2 cnt' (n,ts,(0:Int),xs,outs,n,O,(i:Int),())=some (.inl (n,ts,c,()))) ∨
    (∃ outs' O',AP EB cnt (n,ts,(0:Int),outs,n,O,xs,(xs.length:Int),(i:Int),())=some (.inr (.inl ((0:Int),outs',n,O',())))∧AP B2 cnt' (n,ts,(0:Int),xs,outs,n,O,(i:Int),())=some (.inr (.inl ((0:Int),outs',n,O',())))∧O'.length≤ts.length∧outs'.length≤xs.length):=by
   intro m
   induction m with
   |zero=>
    intro i cnt cnt' O outs hi hc hc' hO ho
    obtain⟨cnt,rfl⟩:∃ c,cnt=c+1:=⟨cnt-1,by omega⟩
    obtain⟨cnt',rfl⟩:∃ c,cnt'=c+1:=⟨cnt'-1,by omega⟩
    refine .inr ⟨outs,O,?_,?_,hO,by omega⟩
    ·rw[AP,EB,AI,Ae2 (by omega)]
    ·rw[AP,B2,AK,AI,Ae2 (by omega)]
   |succ m ih=>
    intro i cnt cnt' O outs hi hc hc' hO ho
    obtain⟨cnt,rfl⟩:∃ c,cnt=c+1:=⟨cnt-1,by omega⟩
    obtain⟨cnt',rfl⟩:∃ c,cnt'=c+1:=⟨cnt'-1,by omega⟩
    have hi':i<xs.length:=by omega
    have hxx:xs[i]? = some xs[i]:=Ae8 hi'
    obtain⟨O',w,c,p1,p2,hl⟩:=AVH n O (by omega) xs[i].1 xs[i].2.1
    have s1:EB (n,ts,(0:Int),outs,n,O,xs,(xs.length:Int),(i:Int),())=if c=0 then some (.inl (n,ts,(0:Int),outs++[w],n,O',xs,(xs.length:Int),((i+1:Nat):Int),()))else some (.inr (.inl (n,ts,c,()))):=by
     rw[EB,AI,Ae3 hi']
     simp only[Ac hxx,CN hxx,p1,Ak]
     rw[BE (by simp only[AK,AfD,AfO];omega),AG (by omega)]
     by_cases hc0:c=0
     ·rw[AfJ hc0,Ae3 hc0];rfl
     ·rw[AfE hc0,Ae2 hc0];rfl
    have s2:B2 (n,ts,(0:Int),xs,outs,n,O,(i:Int),())=if c=0 then some (.inl (n,ts,(0:Int),xs,outs++[w],n,O',((i+1:Nat):Int),()))else some (.inr (.inl (n,ts,c,()))):=by
     rw[B2,AK,AI,Ae3 hi']
     simp only[Ac hxx,CN hxx,p2,Ak]
     rw[BE (by simp only[AK,AfD,AfO];omega),AG (by omega)]
     by_cases hc0:c=0
     ·rw[AfJ hc0,Ae3 hc0];rfl
     ·rw[AfE hc0,Ae2 hc0];rfl
    rw[AP,s1,AP,s2]
    by_cases hc0:c=0
    ·rw[AfJ hc0,AfJ hc0]
     exact ih (i+1) cnt cnt' O' (outs++[w]) (by omega) (by omega) (by omega) (by omega) (by simp[ho])
    ·rw[AfE hc0,AfE hc0]
     exact .inl ⟨c,rfl,rfl⟩
  have hm:4294967296<many:=by simp only[many];omega
  rcases key xs.length 0 many many ts [] (by omega) (by omega) (by omega) (AfH _) rfl with⟨c,k1,k2⟩|⟨outs,O,k1,k2,k3,k4⟩
  ·have k1':AR EB many (n,ts,(0:Int),[],n,ts,xs,AM xs,(0:Int),())=_:=(Aa _ _ _).trans k1
   have k2':AR B2 many (n,ts,(0:Int),xs,[],n,ts,(0:Int),())=_:=(Aa _ _ _).trans k2
   simp only[k1',k2']
   exact⟨_,_,_,rfl,rfl,AfH _,by simp⟩
  ·have k1':AR EB many (n,ts,(0:Int),[],n,ts,xs,AM xs,(0:Int),())=_:=(Aa _ _ _).trans k1
   have k2':AR B2 many (n,ts,(0:Int),xs,[],n,ts,(0:Int),())=_:=(Aa _ _ _).trans k2
   simp only[k1',k2']
   exact⟨_,_,_,rfl,rfl,k3,by omega⟩
 ·exact⟨_,_,_,rfl,rfl,AfH _,by simp⟩
end Go.Pev.Pl
end
section
namespace Go.Pev.Pl
open Tok
theorem AUj(x y:Tie):(ieq x.1 y.1&&(ieq x.2.1 y.2.1&&(ieq x.2.2.1 y.2.2.1&&((x.2.2.2.1==y.2.2.2.1)&&true))))=decide (x=y):=by
 obtain⟨a,b,c,d,⟨⟩⟩:=x
 obtain⟨a',b',c',d',⟨⟩⟩:=y
 simp only[Ak]
 rw[Af9]
 simp only[Ae9,AfZ,Ag1,Afi,and_true]
theorem YX(n m:Int)(xs ys:List Tie)(hs:xs.length<4611686018427387904):OZ ((n,(xs,())),(m,(ys,())),())=some (decide (n=m∧xs=ys),()):=by
 rw[ADw,Pt]
 simp only[Qi]
 rw[Ak]
 by_cases hn:n=m
 ·rw[Ae3 hn]
  simp only[AfB]
  by_cases hl:xs.length=ys.length
  ·rw[Ae3 hl]
   have e:=YV (step:=Eo) (fun i=>(n,xs,m,ys,(i:Int),())) xs.length (fun i => !decide (xs.getD i zT=ys.getD i zT)) (fun _=>.inl (false,())) (.inr (.inl ())) (by omega)
    (fun i hi=>by
     have hx:xs[i]? = some xs[i]:=Ae8 hi
     have hy:ys[i]? = some (ys[i]'(by omega)):=Ae8 (by omega)
     have gx:xs.getD i zT=xs[i]:=by simp[hi]
     have gy:ys.getD i zT=ys[i]'(by omega):=by simp[show i<ys.length by omega]
     rw[Eo,AK,AI,Ae3 hi]
     simp only[Ac hx,Ac hy,AUj,gx,gy]
     rw[AG (by omega)]
     by_cases he:xs[i]=ys[i]'(by omega)
     ·simp[he]
     ·simp[he])
    (by rw[Eo,AK,AI,Ae2 (by omega)])
   rcases e with⟨k,k1,k2,_,k4⟩|⟨k1,k2⟩
   ·have k4':AR Eo many (n,xs,m,ys,(0:Int),())=_:=k4
    simp only[AfB,k4']
    rw[Ae2]
    rintro⟨_,rfl⟩
    simp at k2
   ·have k2':AR Eo many (n,xs,m,ys,(0:Int),())=_:=k2
    simp only[AfB,k2']
    rw[Ae3]
    exact⟨hn,FN zT hl fun j hj=>by simpa using k1 j hj⟩
  ·rw[Ae2 hl]
   simp only[AfX]
   rw[Ae2]
   rintro⟨_,rfl⟩
   exact hl rfl
 ·rw[Ae2 hn]
  simp only[AfX]
  rw[Ae2]
  exact fun h=>hn h.1
end Go.Pev.Pl
end
section
namespace Go.Pev.Pl
open Tok
theorem W8{n:Int}(l:List Edge)(hs:l.length<1073741824)(ha:∀ e∈l,In n e.1∧In n e.2.1):
  ∀ (m i c1 c2:Nat) (rings:List (List Int)) (t1 t2:List Bool),i+m=l.length→t1.length=i→t2.length=i→FC n rings (l.take i)→m<c1→m<c2 →
  ∃ zs b1 b2,AP H4 c1 (l,n,rings,(0:Int),t1,(i:Int),())=some (.inl (n,zs,(0:Int),b1,()))∧AP Bz c2 (n,rings,(0:Int),t2,l,(l.length:Int),(i:Int),())=some (.inl (n,zs,(0:Int),b2,()))∧FC n zs l:=by
 intro m
 induction m with
 |zero=>
  intro i c1 c2 rings t1 t2 hi ht1 ht2 h hc1 hc2
  obtain⟨c1,rfl⟩:∃ c,c1=c+1:=⟨c1-1,by omega⟩
  obtain⟨c2,rfl⟩:∃ c,c2=c+1:=⟨c2-1,by omega⟩
  rw[Af5 (by omega)]at h
  refine⟨rings,t1,t2,?_,?_,h⟩
  ·rw[AP,H4,AK,AI,Ae2 (by omega)]
  ·rw[AP,Bz,AI,Ae2 (by omega)]
 |succ m ih=>
  intro i c1 c2 rings t1 t2 hi ht1 ht2 h hc1 hc2
  obtain⟨c1,rfl⟩:∃ c,c1=c+1:=⟨c1-1,by omega⟩
  obtain⟨c2,rfl⟩:∃ c,c2=c+1:=⟨c2-1,by omega⟩
  have hi':i<l.length:=by omega
  have hx:l[i]? = some l[i]:=Ae8 hi'
  obtain⟨iu,iv⟩:=ha _ (AgC hi')
  obtain⟨zs,q,e1,e2,_⟩:=AUK h iu iv
  obtain⟨zs',q',f1,f2,_⟩:=ASb (n:=n) (rings:=rings) l[i].1 l[i].2.1 h.fr.dom
  rw[e1]at f1
  cases f1
  rw[← Afw hi']at e2
  obtain⟨zs2,b1,b2,g1,g2,g3⟩:=ih (i+1) c1 c2 zs (A5 t1 [ieq q 0]) (A5 t2 [ieq q 0]) (by omega) (by simp[Cp,ht1]) (by simp[Cp,ht2]) e2 (by omega) (by omega)
  refine⟨zs2,b1,b2,?_,?_,g3⟩
  ·rw[AP,H4,AK,AI,Ae3 hi']
   simp only[Ac hx,f2]
   rw[AG (by omega),BE (by simp only[AK,AfD,AfO];omega)]
   exact g1
  ·rw[AP,Bz,AI,Ae3 hi']
   simp only[Ac hx,e1]
   rw[AG (by omega),BE (by simp only[AK,AfD,AfO];omega)]
   exact g2
theorem AdX{N:Nat}(h1:1≤N)(hN:N≤64)(l:List Edge)(hs:l.length<1073741824)(ha:∀ e∈l,In (N:Int) e.1∧In (N:Int) e.2.1):
  ∃ zs,fof ((N:Int),l,())=some (((N:Int),(zs,())),0,())∧AeK ((N:Int),l,())=some (((N:Int),(zs,())),0,())∧FC (N:Int) zs l:=by
 have hF:=ABs h1 hN
 have hD:=hF.fr.dom
 have hRF:=Kw.2 hF.fr
 obtain⟨zs,b1,b2,e1,e2,h2⟩:=W8 l hs ha l.length 0 many many (BK N) [] [] (by omega) rfl rfl (by simpa using hF) (by simp only[many];omega) (by simp only[many];omega)
 refine⟨zs,?_,?_,h2⟩
 ·have hth:Kh (((N:Int),(BK N,())),l.flatMap fun e=>[e.1,e.2.1],())=some (0,()):=by
   have hfl:=ANL l
   rw[PC _ _ _ hD (by omega),ANM,AI0,AfJ hRF]
   split
   ·rfl
   ·rename_i hc
    exact absurd (AfT.2 fun e he=>Ae3 (ha e he)) hc
  have hm:HB (N:Int)=((N:Int),BK N,0,()):=by
   unfold HB
   rw[AfJ (show Sz (N:Int)from⟨by omega,by omega⟩),Afy]
  have e2':AP Bz many ((N:Int),BK N,(0:Int),[],l,(l.length:Int),(0:Int),())=_:=e2
  rw[ARn,ANC]
  simp only[ADl,hm,MM,AfB]
  rw[TT,MT,MY,IK]
  simp only[AA7 l hs,hth,MM,AfB,Aa,AK,e2']
 ·have hall:(l.all fun e=>decide (In (N:Int) e.1)&&decide (In (N:Int) e.2.1))=true:=by
   rw[AfT]
   intro e he
   obtain⟨h1,h2⟩:=ha e he
   simp[h1,h2]
  have e1':AR H4 many (l,(N:Int),BK N,(0:Int),[],(0:Int),())=_:=(Aa _ _ _).trans e1
  have hE:AI0 (N:Int) (BK N) true=0:=by
   unfold AI0
   simp[hRF]
  have hL:AHW (((N:Int),(BK N,())),l,())=some (((N:Int),(zs,())),b1,0,()):=by
   rw[AQ5,TB]
   simp only[AJy (N:Int) (BK N) l hD (by omega),hall]
   rw[hE]
   simp only[CM,AfB,e1']
  have hm:AHQ ((N:Int),())=some ((N:Int),BK N,0,()):=by
   rw[AQt]
   unfold HB
   rw[AfJ (show Sz (N:Int)from⟨by omega,by omega⟩),Afy]
  rw[Ace,AQZ]
  simp only[hm,CM,AfB,hL]
theorem RG2.both{N:Nat}{ts:List Tie}(h:RG2 N ts)(k:Int):∃ zs,NY (((N:Int),(ts,())),k,())=some (((N:Int),(zs,())),0,())∧ANB (((N:Int),(ts,())),k,())=some (((N:Int),(zs,())),0,())∧FC (N:Int) zs (trk ts k):=by
 have hl:=h.AeQ k
 obtain⟨zs,e1,e2,hF⟩:=AdX h.h1 h.hN (trk ts k) (by omega) (h.inK k)
 refine⟨zs,?_,?_,hF⟩
 ·rw[Ox,Jh]
  simp only[h.lr,AfB,AMJ (N:Int) ts h.ht k,e1]
 ·rw[ANA,PE]
  simp only[h.r21,AfB,Mz (N:Int) ts h.ht k,e2]
end Go.Pev.Pl
end
section
namespace Go.Pev.Pl
open Tok
section
variable (n:Int) (ts:List Tie)
end
end Go.Pev.Pl
end
section
namespace Go.Pev.Pl
open Tok
theorem AI4:I8 ()=some (true,()):=by
 rw[show I8 () = @I8 idI ()from AgZ (fun i=>@I8 i ()) AAV]
 kernel_rfl
theorem AM4(n:Int)(ts:List Tie)(l:List Edge):Nd ((n,(ts,())),l,())=some (true,())∨(Nd ((n,(ts,())),l,())=some (false,())∧ts.length≤30∧n≤12∧l.length≤12):=by
 rw[AAs,Nc]
 simp only[AK,Am]
 by_cases h1:(30:Int)<ts.length
 ·left;simp only[Ae3 h1]
 by_cases h2:(12:Int)<n
 ·left;simp only[Ae2 h1,Ae3 h2]
 by_cases h3:(12:Int)<l.length
 ·left;simp only[Ae2 h1,Ae2 h2,Ae3 h3]
 ·right;simp only[Ae2 h1,Ae2 h2,Ae2 h3];exact⟨trivial,by omega,by omega,by omega⟩
end Go.Pev.Pl
end
section
namespace Go.Pev.Pl
open Tok
theorem AR6(n:Int)(ts:List Tie)(l:List Edge)(hg:AAt ((n,(ts,())),l,())=some ([],0,())):Tc ((n,(ts,())),l,())=some ((n,(ts,())),[],0,()):=by
 rw[Tb,MZ]
 simp only[hg,CM,AfB]
 have:AR B2 many (n,ts,(0:Int),[],[],n,ts,(0:Int),())=some (.inr (.inl ((0:Int),[],n,ts,()))):=by
  obtain⟨m,hmany⟩:∃ m,many=m+1:=⟨many-1,by simp only[many]⟩
  rw[Aa,hmany,AP,B2,AK,Am,Ae2 (by simp)]
 simp only[this]
theorem ARf{N:Nat}{ts O:List Tie}{l:List Edge}(hE:O.map ed=(ts.map ed).filter fun e=>decide (e∉DK N ts l)):DK N O l=[]:=by
 unfold DK
 rw[List.filter_eq_nil_iff]
 intro x hx hm
 rw[AfZ,hE,Afe,AfZ]at hm
 refine hm.2 ?_
 unfold DK
 rw[Afe,AfZ]
 exact⟨hx,hm.1⟩
theorem AIK{α:Type}(p:α→Bool)(xs:List α):(xs.filter p).length+(xs.filter fun x => !p x).length=xs.length:=by
 induction xs with
 |nil=>rfl
 |cons x xs ih=>
  rw[AgA,AgA]
  cases p x<;>simp<;>omega
theorem AZ5{xs:List Edge}(h:xs.Pairwise C4):xs.Nodup:=h.imp fun {a b} hh=>by
 rintro rfl
 unfold C4 at hh;omega
theorem AM6{N:Nat}{ts:List Tie}(h:RG2 N ts)(l:List Edge):(DK N ts l).length+((ts.map ed).filter fun e=>decide (e∉Cl N l)).length=(ts.map ed).length:=by
 have h1:(DK N ts l).length=((ts.map ed).filter fun e=>decide (e∈Cl N l)).length:=by
  have n1:=AZ5 (PA N ts l)
  have n2:=AZ5 (h.edP.filter fun e=>decide (e∈Cl N l))
  have hp:(DK N ts l).Perm ((ts.map ed).filter fun e=>decide (e∈Cl N l)):=(AhH n1 n2).2 fun x=>by
   unfold DK
   rw[Afe,Afe,AfZ,AfZ]
   exact⟨fun q=>⟨q.2,q.1⟩,fun q=>⟨q.2,q.1⟩⟩
  exact hp.length_eq
 have h2:=AIK (fun e=>decide (e∈Cl N l)) (ts.map ed)
 have h3:((ts.map ed).filter fun e=>decide (e∉Cl N l))=(ts.map ed).filter fun e => !decide (e∈Cl N l):=Agz fun x _=>by simp
 rw[h1,h3];exact h2
theorem ARe{N:Nat}{ts:List Tie}(l:List Edge):((ts.map ed).filter fun e=>decide (e∉DK N ts l))=(ts.map ed).filter fun e=>decide (e∉Cl N l):=by
 refine Agz fun x hx=>AgV.2 ?_
 unfold DK
 rw[Afe,AfZ]
 exact⟨fun q h=>q ⟨h,hx⟩,fun q h=>q h.1⟩
theorem ACW{n:Int}{ts:List Tie}(ht:ts.length≤400):(∃ N:Nat,n=(N:Int)∧RG2 N ts∧Snd N (Be N:Int) ts∧KC ((n,(ts,())),())=some (true,()))∨KC ((n,(ts,())),())=some (false,()):=by
 rcases JX n ts (by omega)with⟨r1,_⟩|⟨N,rfl,h⟩
 ·right
  rw[OW,JT]
  simp only[r1,AfX]
 ·by_cases hp:WI ts∧AI8 ts∧RJ N ts
  ·exact .inl ⟨N,rfl,h,h.snd hp,by rw[UR h,(Dq _).2 hp]⟩
  ·right
   have:Ik (WI ts∧AI8 ts∧RJ N ts)=false:=by rw[← AiC,Dq];exact hp
   rw[UR h,this]
theorem AKt(n:Int)(ts:List Tie)(ht:ts.length≤400)(l:List Edge)(hs:l.length<1073741824):VC ((n,(ts,())),l,())=Tc ((n,(ts,())),l,()):=by
 obtain⟨_,_,_,h1,h2,_⟩:=APw n ts ht l hs
 rw[h1,h2]
theorem AOB(a0:Int)(a1:List Tie)(a2:List (Bool×Bool×Edge×Int×Unit))(a3:Int)(a4:List Tie)(a5:List (Bool×Bool×Edge×Int×Unit))(a6:Int)(a7:List Edge)(a8:Int)(own named:List Edge)(ho:own.length≤1000)(hn:named.length≤4096):
  AR CE many (a0,a1,a2,a3,a4,a5,a6,a7,a8,own,named,[],(0:Int),())=some (.inl (a0,a1,a2,a3,a4,a5,a6,a7,a8,own,own.filter fun e=>decide (e∉named),())):=by
 have e:=Cj (step:=CE) (fun i (a:List Edge)=>(a0,a1,a2,a3,a4,a5,a6,a7,a8,own,named,a,(i:Int),())) own (fun x a=>.inl (if x∉named then a++[x]else a)) (fun a=>.inl (a0,a1,a2,a3,a4,a5,a6,a7,a8,own,a,())) (fun i a=>a.length≤i) (by omega)
  (fun i x a hi hx ha=>by
   refine⟨fun m' h' => ?_,fun r h'=>(by cases h')⟩
   cases h'
   constructor
   ·unfold CE
    dsimp only
    rw[AK,AI,Ae3 hi]
    obtain⟨u,v,⟨⟩⟩:=x
    simp only[Ac hx,CN hx,TP named u v (by omega),AK]
    have hfit:fits ((a.length:Int)+(([(u,v,())]:List Edge).length:Int))=true:=BE (by simp;omega)
    rw[hfit,AG (by omega)]
    by_cases q:((u,v,()):Edge)∈named
    ·rw[Ae3 q,AfE (fun hh=>hh q)]
     rfl
    ·rw[Ae2 q,AfJ q]
     rfl
   ·split
    ·rw[AfC];simp;omega
    ·omega)
  (fun a _=>by unfold CE;dsimp only;rw[AK,AI,Ae2 (by omega)]) [] (AfH _)
 have e':AR CE many (a0,a1,a2,a3,a4,a5,a6,a7,a8,own,named,[],(0:Int),())=_:=e
 rw[e',BJ (fun(x:Edge) (a:List Edge)=>if x∉named then a++[x]else a),HH (fun x:Edge=>x∉named) (fun x=>x)]
 simp
theorem Wj(g:Int×List Tie×Unit)(l:List Edge)
  (h0:wfD (.prod (.int .i64) (.prod (.slice (.prod (.int .i64) (.prod (.int .i64) (.prod (.int .i64) (.prod .bool .unit))))) .unit)) g)
  (h1:wfD (.slice (.prod (.int .i64) (.prod (.int .i64) .unit))) l):Fp (g,l,())=some (true,()):=by
 obtain⟨n,ts,⟨⟩⟩:=g
 rw[N9,HA]
 simp only[AI4,AfB]
 rcases AM4 n ts l with g1|⟨g1,g2,g3,g4⟩
 ·simp only[g1]
 simp only[g1]
 rcases ACW (n:=n) (ts:=ts) (by omega)with⟨N,rfl,h,hS,hv⟩|hv
 ·simp only[hv,AfB,AKt (N:Int) ts (by omega) l (by omega)]
  rcases AR5 h hS l (by omega)with⟨hn,e⟩|⟨hall,O,outs,e,hO,hOS,hE,hlen⟩
  ·have s1:=YX (N:Int) (N:Int) ts ts (by omega)
   simp only[e,Ak,s1,Ahi,AfG]
   rfl
  ·have hOl:O.length≤30:=by
    have h3:=AgZ List.length hE
    rw[Afd]at h3
    have h4:=Agg (fun e=>decide (e∉DK N ts l)) (ts.map ed)
    rw[Afd]at h4
    omega
   have hz:=ARf hE
   have hg2:=PB hO l (by omega)
   rw[AfJ (show ∀ e∈l,In (N:Int) e.1∧In (N:Int) e.2.1 from hall),hz]at hg2
   have hp2:=AED hO l (by omega)
   rw[AfJ (show ∀ e∈l,In (N:Int) e.1∧In (N:Int) e.2.1 from hall),hz]at hp2
   have hd2:=AR6 (N:Int) O l hg2
   have hpl:=Oe N h.hN l
   have s1:=YX (N:Int) (N:Int) O O (by omega)
   have s2:=AKQ (O.map ed) (by rw[Afd];omega)
   have hrest:O.map ed=(ts.map ed).filter fun e=>decide (e∉Cl N l):=by rw[hE,ARe]
   have hc:=AM6 h l
   rw[← hrest,Afd,Afd]at hc
   have tl:=fun a0 a1 a2 a3 a4 a5 a6 a7 a8=>AOB a0 a1 a2 a3 a4 a5 a6 a7 a8 (ts.map ed) (Cl N l) (by rw[Afd];omega) hpl
   rw[← hrest]at tl
   simp only[e,CM,AfB,AKt (N:Int) O (by omega) l (by omega),hd2,hp2,I2 (N:Int) ts h.ht h.r21,UY N h.hN l (by omega),tl,I2 (N:Int) O hO.ht hO.r21,s1,s2,Ahi,AfG,AK,AfO]
   rw[Afd,Afd,Aj (by omega)]
   have:(outs.length:Int)=(ts.length:Int)-(O.length:Int):=by omega
   simp only[Ak,Ae3 this]
   rfl
 ·simp only[hv,AfX]
end Go.Pev.Pl
end
section
namespace Go.Pev
open Go.Proofs
noncomputable section
abbrev AAg:Hints:={ loop:=fun n=>match n with|0=>Ad 0 26 AEX AEW Ey|_=>fun _ _ _=>none,fp:=fun n=>match n with|6=>[[],[],[],[],[],[],[],[],[]]|_=>[] }
theorem AHm:∀ v,Ey v=roundOf Tryz.prog Env.none AAg 1 0 26 (AB Tryz.f48 0) AEX AEW v:=by
 rintro⟨a0,a1,a2,⟨⟩⟩
 kernel_rfl
theorem AWS:AD (AB Tryz.f48 0) 1=[]:=by kernel_rfl
theorem AWT:Ab Tryz.prog 0 (.loop (AB Tryz.f48 0)) (AAg.loop 0):=AX Env.AHD (AHm) (AA AWS trivial)
theorem ARJ:∀ v,QY v=AT Tryz.prog Env.none AAg Tryz.f48 AAf AAe AAd v:=by
 rintro⟨a0,a1,⟨⟩⟩
 kernel_rfl
theorem AaM:AD (AW Tryz.f48) 0=[(0,AB Tryz.f48 0)]:=by kernel_rfl
theorem AMY:AU Tryz.prog 48 (AH 2 AAf AAe AAd TH):=AN Env.AHD Tryz.func48 (by kernel_rfl) (by kernel_rfl) rfl (fun v=>(AEY v).trans (ARJ v)) (AA AaM ⟨AWT,trivial⟩)
def ACF:Env:=Env.none.ext 48 true true (AH 2 AAf AAe AAd TH)
theorem WV:Af Tryz.prog ACF:=Env.Ai Env.AHD AMY (fun _=>AQ rfl rfl) (fun _=>AO rfl rfl)
abbrev AXx:Hints:={  }
theorem AOF:∀ v,Po v=AT Tryz.prog ACF AXx Tryz.f159 X1 X0 Xz v:=by
 rintro⟨a0,⟨⟩⟩
 kernel_rfl
theorem AXw:AD (AW Tryz.f159) 0=[]:=by kernel_rfl
theorem AJh:AU Tryz.prog 159 (AH 1 X1 X0 Xz Lc):=AN WV Tryz.func159 (by kernel_rfl) (by kernel_rfl) rfl (fun v=>(ADc v).trans (AOF v)) (AA AXw trivial)
def ABv:Env:=ACF.ext 159 true true (AH 1 X1 X0 Xz Lc)
theorem WJ:Af Tryz.prog ABv:=Env.Ai WV AJh (fun _=>AQ rfl rfl) (fun _=>AO rfl rfl)
abbrev Aej:Hints:={  }
theorem Abw:∀ v,AS1 v=AT Tryz.prog ABv Aej Tryz.f156 AYI AYH AYG v:=by
 rintro⟨a0,a1,⟨⟩⟩
 kernel_rfl
theorem Aei:AD (AW Tryz.f156) 0=[]:=by kernel_rfl
theorem AYF:AU Tryz.prog 156 (AH 2 AYI AYH AYG tin):=AN WJ Tryz.func156 (by kernel_rfl) (by kernel_rfl) rfl (fun v=>(AYJ v).trans (Abw v)) (AA Aei trivial)
def Abg:Env:=ABv.ext 156 true true (AH 2 AYI AYH AYG tin)
theorem AN4:Af Tryz.prog Abg:=Env.Ai WJ AYF (fun _=>AQ rfl rfl) (fun _=>AO rfl rfl)
abbrev Adu:Hints:={  }
theorem AYN:∀ v,AFk v=AT Tryz.prog Abg Adu Tryz.f187 AOW AOV AOU v:=by
 rintro⟨a0,a1,a2,⟨⟩⟩
 kernel_rfl
theorem Adt:AD (AW Tryz.f187) 0=[]:=by kernel_rfl
theorem AUk:AU Tryz.prog 187 (AH 3 AOW AOV AOU AUl):=AN AN4 Tryz.func187 (by kernel_rfl) (by kernel_rfl) rfl (fun v=>(AS2 v).trans (AYN v)) (AA Adt trivial)
def ASo:Env:=Abg.ext 187 true true (AH 3 AOW AOV AOU AUl)
theorem AE1:Af Tryz.prog ASo:=Env.Ai AN4 AUk (fun _=>AQ rfl rfl) (fun _=>AO rfl rfl)
abbrev AXv:Hints:={ fp:=fun n=>match n with|5=>[[],[],[],[],[],[],[],[],[]]|_=>[] }
theorem AOE:∀ v,Pn v=AT Tryz.prog ASo AXv Tryz.f197 Xx Xw Xv v:=by
 rintro⟨a0,a1,⟨⟩⟩
 kernel_rfl
theorem AXu:AD (AW Tryz.f197) 0=[]:=by kernel_rfl
theorem AJg:AU Tryz.prog 197 (AH 2 Xx Xw Xv Xy):=AN AE1 Tryz.func197 (by kernel_rfl) (by kernel_rfl) rfl (fun v=>(ADb v).trans (AOE v)) (AA AXu trivial)
def RM:Env:=ASo.ext 197 true true (AH 2 Xx Xw Xv Xy)
theorem Mr:Af Tryz.prog RM:=Env.Ai AE1 AJg (fun _=>AQ rfl rfl) (fun _=>AO rfl rfl)
abbrev AFf:Hints:={ loop:=fun n=>match n with|0=>Ad 0 25 AJv AJu Hj|_=>fun _ _ _=>none }
theorem AJt:∀ v,Hj v=roundOf Tryz.prog RM AFf 1 0 25 (AB Tryz.f129 0) AJv AJu v:=by
 rintro⟨a0,a1,a2,a3,a4,⟨⟩⟩
 kernel_rfl
theorem AYD:AD (AB Tryz.f129 0) 1=[]:=by kernel_rfl
theorem AYE:Ab Tryz.prog 0 (.loop (AB Tryz.f129 0)) (AFf.loop 0):=AX Mr (AJt) (AA AYD trivial)
theorem AUh:∀ v,XE v=AT Tryz.prog RM AFf Tryz.f129 AFe AFd AFc v:=by
 rintro⟨a0,⟨⟩⟩
 kernel_rfl
theorem Abt:AD (AW Tryz.f129) 0=[(0,AB Tryz.f129 0)]:=by kernel_rfl
theorem AOQ:AU Tryz.prog 129 (AH 1 AFe AFd AFc AJx):=AN Mr Tryz.func129 (by kernel_rfl) (by kernel_rfl) rfl (fun v=>(AJw v).trans (AUh v)) (AA Abt ⟨AYE,trivial⟩)
def Xk:Env:=RM.ext 129 true true (AH 1 AFe AFd AFc AJx)
theorem PW:Af Tryz.prog Xk:=Env.Ai Mr AOQ (fun _=>AQ rfl rfl) (fun _=>AO rfl rfl)
abbrev AAn:Hints:={ loop:=fun n=>match n with|0=>Ad 0 19 AEa AEZ Fz|_=>fun _ _ _=>none }
theorem AHp:∀ v,Fz v=roundOf Tryz.prog Xk AAn 1 0 19 (AB Tryz.f146 0) AEa AEZ v:=by
 rintro⟨a0,a1,a2,a3,⟨⟩⟩
 kernel_rfl
theorem AWX:AD (AB Tryz.f146 0) 1=[]:=by kernel_rfl
theorem AWY:Ab Tryz.prog 0 (.loop (AB Tryz.f146 0)) (AAn.loop 0):=AX PW (AHp) (AA AWX trivial)
theorem ARU:∀ v,Qc v=AT Tryz.prog Xk AAn Tryz.f146 AAm AAl AAk v:=by
 rintro⟨a0,a1,⟨⟩⟩
 kernel_rfl
theorem AaV:AD (AW Tryz.f146) 0=[(0,AB Tryz.f146 0)]:=by kernel_rfl
theorem AMZ:AU Tryz.prog 146 (AH 2 AAm AAl AAk O5):=AN PW Tryz.func146 (by kernel_rfl) (by kernel_rfl) rfl (fun v=>(AEb v).trans (ARU v)) (AA AaV ⟨AWY,trivial⟩)
def ACG:Env:=Xk.ext 146 true true (AH 2 AAm AAl AAk O5)
theorem WW:Af Tryz.prog ACG:=Env.Ai PW AMZ (fun _=>AQ rfl rfl) (fun _=>AO rfl rfl)
abbrev ANV:Hints:={  }
theorem ADI:∀ v,I4 v=AT Tryz.prog ACG ANV Tryz.f113 Mc Mb Ma v:=by
 rintro⟨a0,a1,⟨⟩⟩
 kernel_rfl
theorem ANU:AD (AW Tryz.f113) 0=[]:=by kernel_rfl
theorem ABJ:AU Tryz.prog 113 (AH 2 Mc Mb Ma Ez):=AN WW Tryz.func113 (by kernel_rfl) (by kernel_rfl) rfl (fun v=>(Q2 v).trans (ADI v)) (AA ANU trivial)
def JF:Env:=ACG.ext 113 true true (AH 2 Mc Mb Ma Ez)
theorem Ie:Af Tryz.prog JF:=Env.Ai WW ABJ (fun _=>AQ rfl rfl) (fun _=>AO rfl rfl)
abbrev AQl:Hints:={ loop:=fun n=>match n with|0=>Ad 0 25 ATc ATb KV|_=>fun _ _ _=>none }
theorem AQh:∀ v,KV v=roundOf Tryz.prog JF AQl 1 0 25 (AB Tryz.f177 0) ATc ATb v:=by
 rintro⟨a0,a1,a2,⟨⟩⟩
 kernel_rfl
theorem Acg:AD (AB Tryz.f177 0) 1=[]:=by kernel_rfl
theorem Ach:Ab Tryz.prog 0 (.loop (AB Tryz.f177 0)) (AQl.loop 0):=AX Ie (AQh) (AA Acg trivial)
theorem AZ9:∀ v,AHG v=AT Tryz.prog JF AQl Tryz.f177 AQk AQj AQi v:=by
 rintro⟨a0,⟨⟩⟩
 kernel_rfl
theorem AeN:AD (AW Tryz.f177) 0=[(0,AB Tryz.f177 0)]:=by kernel_rfl
theorem AVw:AU Tryz.prog 177 (AH 1 AQk AQj AQi AVx):=AN Ie Tryz.func177 (by kernel_rfl) (by kernel_rfl) rfl (fun v=>(ATd v).trans (AZ9 v)) (AA AeN ⟨Ach,trivial⟩)
def ASt:Env:=JF.ext 177 true true (AH 1 AQk AQj AQi AVx)
theorem AE6:Af Tryz.prog ASt:=Env.Ai Ie AVw (fun _=>AQ rfl rfl) (fun _=>AO rfl rfl)
abbrev AdE:Hints:={  }
theorem AWu:∀ v,Xf v=AT Tryz.prog ASt AdE Tryz.f201 AIB AIA AH9 v:=by
 rintro⟨a0,⟨⟩⟩
 kernel_rfl
theorem AdD:AD (AW Tryz.f201) 0=[]:=by kernel_rfl
theorem ARd:AU Tryz.prog 201 (AH 2 AIB AIA AH9 AM3):=AN AE6 Tryz.func201 (by kernel_rfl) (by kernel_rfl) rfl (fun v=>(AM2 v).trans (AWu v)) (AA AdD trivial)
def Ri:Env:=ASt.ext 201 false true (AH 2 AIB AIA AH9 AM3)
theorem LC:Af Tryz.prog Ri:=Env.Ai AE6 ARd ((by simp)) (fun _=>AO rfl rfl)
abbrev Jx:Hints:={ loop:=fun n=>match n with|0=>Ad 0 36 ABT ABR Ei|1=>Ad 0 36 ABS ABQ Eh|_=>fun _ _ _=>none }
theorem ADM:∀ v,Eh v=roundOf Tryz.prog Ri Jx 2 0 36 (AB Tryz.f186 1) ABS ABQ v:=by
 rintro⟨a0,a1,a2,a3,⟨⟩⟩
 kernel_rfl
theorem ASH:AD (AB Tryz.f186 1) 2=[]:=by kernel_rfl
theorem ASJ:Ab Tryz.prog 0 (.loop (AB Tryz.f186 1)) (Jx.loop 1):=AX LC (ADM) (AA ASH trivial)
theorem ADN:∀ v,Ei v=roundOf Tryz.prog Ri Jx 1 0 36 (AB Tryz.f186 0) ABT ABR v:=by
 rintro⟨a0,a1,a2,a3,a4,⟨⟩⟩
 kernel_rfl
theorem ASI:AD (AB Tryz.f186 0) 1=[]:=by kernel_rfl
theorem ASK:Ab Tryz.prog 0 (.loop (AB Tryz.f186 0)) (Jx.loop 0):=AX LC (ADN) (AA ASI trivial)
theorem ANa:∀ v,Nj v=AT Tryz.prog Ri Jx Tryz.f186 Tm Tl Tk v:=by
 rintro⟨a0,⟨⟩⟩
 kernel_rfl
theorem AXL:AD (AW Tryz.f186) 0=[(0,AB Tryz.f186 0),(1,AB Tryz.f186 1)]:=by kernel_rfl
theorem AIX:AU Tryz.prog 186 (AH 1 Tm Tl Tk I5):=AN LC Tryz.func186 (by kernel_rfl) (by kernel_rfl) rfl (fun v=>(ABU v).trans (ANa v)) (AA AXL ⟨ASK,ASJ,trivial⟩)
def UJ:Env:=Ri.ext 186 true true (AH 1 Tm Tl Tk I5)
theorem Rm:Af Tryz.prog UJ:=Env.Ai LC AIX (fun _=>AQ rfl rfl) (fun _=>AO rfl rfl)
theorem AU3:Tryz.f195.body.isSome=true:=by kernel_rfl
theorem AU2 : (Tryz.f195.name == "runtime.NumGoroutine") = false := by kernel_rfl
theorem AU1:loops (AW Tryz.f195)=0:=by kernel_rfl
def JC:Env:=UJ.ext 195 false false (C8 Tryz.prog UJ {} Tryz.f195)
theorem Ia:Af Tryz.prog JC:=Env.Ai Rm (Cs Rm Tryz.func195 AU3 AU2 AU1) (by simp) (by simp)
end
end Go.Pev
end
section
namespace Go.Pev
open Go.Proofs
noncomputable section
abbrev IA:Hints:={ loop:=fun n=>match n with|0=>Ad 0 19 LL LK B7|_=>fun _ _ _=>none }
theorem O8:∀ v,B7 v=roundOf Tryz.prog JC IA 1 0 19 (AB Tryz.f174 0) LL LK v:=by
 rintro⟨a0,a1,a2,⟨⟩⟩
 kernel_rfl
theorem Wo:AD (AB Tryz.f174 0) 1=[]:=by kernel_rfl
theorem Wp:Ab Tryz.prog 0 (.loop (AB Tryz.f174 0)) (IA.loop 0):=AX Ia (O8) (AA Wo trivial)
theorem TL:∀ v,FJ v=AT Tryz.prog JC IA Tryz.f174 H9 H8 H7 v:=by
 rintro⟨a0,⟨⟩⟩
 kernel_rfl
theorem AAp:AD (AW Tryz.f174) 0=[(0,AB Tryz.f174 0)]:=by kernel_rfl
theorem Qn:AU Tryz.prog 174 (AH 2 H9 H8 H7 HD):=AN Ia Tryz.func174 (by kernel_rfl) (by kernel_rfl) rfl (fun v=>(LM v).trans (TL v)) (AA AAp ⟨Wp,trivial⟩)
def Ib:Env:=JC.FL 174 1 195 (AH 2 H9 H8 H7 HD)
theorem JD:Af Tryz.prog Ib:=Env.Bc Ia Qn (AO rfl rfl)
abbrev Wz:Hints:={  }
theorem Q5:∀ v,EP v=AT Tryz.prog Ib Wz Tryz.f154 G1 G0 Gz v:=by
 rintro⟨a0,⟨⟩⟩
 kernel_rfl
theorem Wy:AD (AW Tryz.f154) 0=[]:=by kernel_rfl
theorem PO:AU Tryz.prog 154 (AH 2 G1 G0 Gz EF):=AN JD Tryz.func154 (by kernel_rfl) (by kernel_rfl) rfl (fun v=>(Jv v).trans (Q5 v)) (AA Wy trivial)
def ER:Env:=Ib.FL 154 1 195 (AH 2 G1 G0 Gz EF)
theorem El:Af Tryz.prog ER:=Env.Bc JD PO (AO rfl rfl)
abbrev AQV:Hints:={ loop:=fun n=>match n with|0=>Ad 0 23 ATU ATT KQ|_=>fun _ _ _=>none }
theorem AQR:∀ v,KQ v=roundOf Tryz.prog ER AQV 1 0 23 (AB Tryz.f196 0) ATU ATT v:=by
 rintro⟨a0,a1,a2,a3,a4,⟨⟩⟩
 kernel_rfl
theorem AcZ:AD (AB Tryz.f196 0) 1=[]:=by kernel_rfl
theorem Aca:Ab Tryz.prog 0 (.loop (AB Tryz.f196 0)) (AQV.loop 0):=AX El (AQR) (AA AcZ trivial)
theorem AZ3:∀ v,AHA v=AT Tryz.prog ER AQV Tryz.f196 AQU AQT AQS v:=by
 rintro⟨a0,⟨⟩⟩
 kernel_rfl
theorem AeI:AD (AW Tryz.f196) 0=[(0,AB Tryz.f196 0)]:=by kernel_rfl
theorem AVn:AU Tryz.prog 196 (AH 1 AQU AQT AQS once):=AN El Tryz.func196 (by kernel_rfl) (by kernel_rfl) rfl (fun v=>(ATV v).trans (AZ3 v)) (AA AeI ⟨Aca,trivial⟩)
def ASr:Env:=ER.ext 196 true true (AH 1 AQU AQT AQS once)
theorem AE4:Af Tryz.prog ASr:=Env.Ai El AVn (fun _=>AQ rfl rfl) (fun _=>AO rfl rfl)
abbrev AYg:Hints:={  }
theorem AOx:∀ v,Pv v=AT Tryz.prog ASr AYg Tryz.f176 Yj Yi Yh v:=by
 rintro⟨a0,⟨⟩⟩
 kernel_rfl
theorem AYf:AD (AW Tryz.f176) 0=[]:=by kernel_rfl
theorem AKS:AU Tryz.prog 176 (AH 1 Yj Yi Yh Oc):=AN AE4 Tryz.func176 (by kernel_rfl) (by kernel_rfl) rfl (fun v=>(AD0 v).trans (AOx v)) (AA AYf trivial)
def AB1:Env:=ASr.ext 176 true true (AH 1 Yj Yi Yh Oc)
theorem WO:Af Tryz.prog AB1:=Env.Ai AE4 AKS (fun _=>AQ rfl rfl) (fun _=>AO rfl rfl)
abbrev AXt:Hints:={ fp:=fun n=>match n with|1=>[[],[],[],[],[],[],[],[0],[]]|_=>[] }
theorem AOC:∀ v,Pm v=AT Tryz.prog AB1 AXt Tryz.f200 Xu Xt Xs v:=by
 rintro⟨a0,a1,⟨⟩⟩
 kernel_rfl
theorem AXs:AD (AW Tryz.f200) 0=[]:=by kernel_rfl
theorem AJf:AU Tryz.prog 200 (AH 2 Xu Xt Xs Rw):=AN WO Tryz.func200 (by kernel_rfl) (by kernel_rfl) rfl (fun v=>(ADa v).trans (AOC v)) (AA AXs trivial)
def RL:Env:=AB1.ext 200 true true (AH 2 Xu Xt Xs Rw)
theorem Mq:Af Tryz.prog RL:=Env.Ai WO AJf (fun _=>AQ rfl rfl) (fun _=>AO rfl rfl)
abbrev ZI:Hints:={ loop:=fun n=>match n with|0=>Ad 0 29 AEA AD9 Et|_=>fun _ _ _=>none }
theorem AGU:∀ v,Et v=roundOf Tryz.prog RL ZI 1 0 29 (AB Tryz.f199 0) AEA AD9 v:=by
 rintro⟨a0,a1,a2,a3,a4,⟨⟩⟩
 kernel_rfl
theorem AVJ:AD (AB Tryz.f199 0) 1=[]:=by kernel_rfl
theorem AVK:Ab Tryz.prog 0 (.loop (AB Tryz.f199 0)) (ZI.loop 0):=AX Mq (AGU) (AA AVJ trivial)
theorem APf:∀ v,P9 v=AT Tryz.prog RL ZI Tryz.f199 ZH ZG ZF v:=by
 rintro⟨a0,a1,⟨⟩⟩
 kernel_rfl
theorem AY3:AD (AW Tryz.f199) 0=[(0,AB Tryz.f199 0)]:=by kernel_rfl
theorem AKi:AU Tryz.prog 199 (AH 2 ZH ZG ZF AGV):=AN Mq Tryz.func199 (by kernel_rfl) (by kernel_rfl) rfl (fun v=>(AEB v).trans (APf v)) (AA AY3 ⟨AVK,trivial⟩)
def AB5:Env:=RL.ext 199 true true (AH 2 ZH ZG ZF AGV)
theorem WR:Af Tryz.prog AB5:=Env.Ai Mq AKi (fun _=>AQ rfl rfl) (fun _=>AO rfl rfl)
abbrev Ab6:Hints:={  }
theorem AU5:∀ v,XM v=AT Tryz.prog AB5 Ab6 Tryz.f185 AGD AGC AGB v:=by
 rintro⟨a0,a1,⟨⟩⟩
 kernel_rfl
theorem Ab5:AD (AW Tryz.f185) 0=[]:=by kernel_rfl
theorem AO7:AU Tryz.prog 185 (AH 2 AGD AGC AGB AD3):=AN WR Tryz.func185 (by kernel_rfl) (by kernel_rfl) rfl (fun v=>(AKb v).trans (AU5 v)) (AA Ab5 trivial)
def AJE:Env:=AB5.ext 185 true true (AH 2 AGD AGC AGB AD3)
theorem AB3:Af Tryz.prog AJE:=Env.Ai WR AO7 (fun _=>AQ rfl rfl) (fun _=>AO rfl rfl)
abbrev AYi:Hints:={  }
theorem AOz:∀ v,Pw v=AT Tryz.prog AJE AYi Tryz.f202 Ym Yl Yk v:=by
 rintro⟨a0,⟨⟩⟩
 kernel_rfl
theorem AYh:AD (AW Tryz.f202) 0=[]:=by kernel_rfl
theorem AKT:AU Tryz.prog 202 (AH 1 Ym Yl Yk Yn):=AN AB3 Tryz.func202 (by kernel_rfl) (by kernel_rfl) rfl (fun v=>(AD1 v).trans (AOz v)) (AA AYh trivial)
def AB2:Env:=AJE.ext 202 true true (AH 1 Ym Yl Yk Yn)
theorem WQ:Af Tryz.prog AB2:=Env.Ai AB3 AKT (fun _=>AQ rfl rfl) (fun _=>AO rfl rfl)
theorem AUf:Tryz.f180.body.isSome=true:=by kernel_rfl
theorem AUe : (Tryz.f180.name == "runtime.NumGoroutine") = false := by kernel_rfl
theorem AUd:loops (AW Tryz.f180)=0:=by kernel_rfl
def JB:Env:=AB2.ext 180 false false (C8 Tryz.prog AB2 {} Tryz.f180)
theorem IZ:Af Tryz.prog JB:=Env.Ai WQ (Cs WQ Tryz.func180 AUf AUe AUd) (by simp) (by simp)
abbrev F7:Hints:={ loop:=fun n=>match n with|0=>Ad 1 19 It Is Bg|_=>fun _ _ _=>none }
theorem MN:∀ v,Bg v=roundOf Tryz.prog JB F7 1 1 19 (AB Tryz.f179 0) It Is v:=by
 rintro⟨a0,a1,a2,a3,⟨⟩⟩
 kernel_rfl
theorem Qj:AD (AB Tryz.f179 0) 1=[]:=by kernel_rfl
theorem Qk:Ab Tryz.prog 1 (.loop (AB Tryz.f179 0)) (F7.loop 0):=AX IZ (MN) (AA Qj trivial)
theorem O6:∀ v,Dw v=AT Tryz.prog JB F7 Tryz.f179 F6 F5 F4 v:=by
 rintro⟨a0,a1,⟨⟩⟩
 kernel_rfl
theorem TJ:AD (AW Tryz.f179) 0=[(0,AB Tryz.f179 0)]:=by kernel_rfl
theorem N1:AU Tryz.prog 179 (AH 2 F6 F5 F4 FH):=AN IZ Tryz.func179 (by kernel_rfl) (by kernel_rfl) rfl (fun v=>(Iu v).trans (O6 v)) (AA TJ ⟨Qk,trivial⟩)
def GN:Env:=JB.FL 179 1 180 (AH 2 F6 F5 F4 FH)
theorem G7:Af Tryz.prog GN:=Env.Bc IZ N1 (AO rfl rfl)
abbrev AX3:Hints:={  }
theorem AON:∀ v,Pr v=AT Tryz.prog GN AX3 Tryz.f157 YE YD YC v:=by
 rintro⟨a0,a1,⟨⟩⟩
 kernel_rfl
theorem AX2:AD (AW Tryz.f157) 0=[]:=by kernel_rfl
theorem AJo:AU Tryz.prog 157 (AH 2 YE YD YC OT):=AN G7 Tryz.func157 (by kernel_rfl) (by kernel_rfl) rfl (fun v=>(ADk v).trans (AON v)) (AA AX2 trivial)
def ABx:Env:=GN.ext 157 true true (AH 2 YE YD YC OT)
theorem WL:Af Tryz.prog ABx:=Env.Ai G7 AJo (fun _=>AQ rfl rfl) (fun _=>AO rfl rfl)
theorem Adg:Tryz.f198.body.isSome=true:=by kernel_rfl
theorem Adf : (Tryz.f198.name == "runtime.NumGoroutine") = false := by kernel_rfl
theorem Ade:loops (AW Tryz.f198)=0:=by kernel_rfl
def Ny:Env:=ABx.ext 198 false false (C8 Tryz.prog ABx {} Tryz.f198)
theorem LG:Af Tryz.prog Ny:=Env.Ai WL (Cs WL Tryz.func198 Adg Adf Ade) (by simp) (by simp)
end
end Go.Pev
end
section
namespace Go.Pev
open Go.Proofs
noncomputable section
abbrev ARk:Hints:={ loop:=fun n=>match n with|0=>Ad 0 107 ATx ATw Iy|_=>fun _ _ _=>none,fp:=fun n=>match n with|8=>[[],[],[],[],[],[],[],[],[1000003],[],[],[],[],[],[],[],[],[0],[0],[0],[],[0],[0],[0],[2,26],[],[2,26],[2,26],[],[],[],[],[]]|13=>[[],[0],[0],[0],[2],[],[],[],[0],[0],[0],[6],[],[0],[0],[0],[4],[],[],[]]|3=>[[],[],[],[],[],[],[],[],[11],[],[],[],[8,10,12],[]]|_=>[] }
theorem ARg:∀ v,Iy v=roundOf Tryz.prog Ny ARk 1 0 107 (AB Tryz.f178 0) ATx ATw v:=by
 rintro⟨a0,a1,a2,a3,a4,a5,a6,⟨⟩⟩
 kernel_rfl
theorem AdI:AD (AB Tryz.f178 0) 1=[]:=by kernel_rfl
theorem AdJ:Ab Tryz.prog 0 (.loop (AB Tryz.f178 0)) (ARk.loop 0):=AX LG (ARg) (AA AdI trivial)
theorem Aaq:∀ v,AID v=AT Tryz.prog Ny ARk Tryz.f178 ARj ARi ARh v:=by
 rintro⟨a0,a1,⟨⟩⟩
 kernel_rfl
theorem AeU:AD (AW Tryz.f178) 0=[(0,AB Tryz.f178 0)]:=by kernel_rfl
theorem AW3:AU Tryz.prog 178 (AH 2 ARj ARi ARh Aas):=AN LG Tryz.func178 (by kernel_rfl) (by kernel_rfl) rfl (fun v=>(ATy v).trans (Aaq v)) (AA AeU ⟨AdJ,trivial⟩)
def UG:Env:=Ny.ext 178 true true (AH 2 ARj ARi ARh Aas)
theorem J4:Af Tryz.prog UG:=Env.Ai LG AW3 (fun _=>AQ rfl rfl) (fun _=>AO rfl rfl)
abbrev Hf:Hints:={ loop:=fun n=>match n with|0=>Ad 0 87 ADi ADf Dj|1=>Ad 0 87 ADh ADe Di|2=>Ad 0 87 ADg ADd En|_=>fun _ _ _=>none,fp:=fun n=>match n with|8=>[[],[],[],[],[],[],[],[],[],[],[],[],[],[],[],[],[],[],[],[],[],[],[],[],[0],[0],[],[],[],[]]|_=>[] }
theorem AFP:∀ v,En v=roundOf Tryz.prog UG Hf 3 0 87 (AB Tryz.f153 2) ADg ADd v:=by
 rintro⟨a0,a1,a2,⟨⟩⟩
 kernel_rfl
theorem AUV:AD (AB Tryz.f153 2) 3=[]:=by kernel_rfl
theorem AUY:Ab Tryz.prog 0 (.loop (AB Tryz.f153 2)) (Hf.loop 2):=AX J4 (AFP) (AA AUV trivial)
theorem AFQ:∀ v,Di v=roundOf Tryz.prog UG Hf 2 0 87 (AB Tryz.f153 1) ADh ADe v:=by
 rintro⟨a0,a1,a2,a3,a4,a5,a6,a7,a8,a9,a10,a11,a12,a13,a14,a15,a16,a17,a18,a19,a20,a21,a22,a23,a24,a25,⟨⟩⟩
 kernel_rfl
theorem AUW:AD (AB Tryz.f153 1) 2=[]:=by kernel_rfl
theorem AUZ:Ab Tryz.prog 0 (.loop (AB Tryz.f153 1)) (Hf.loop 1):=AX J4 (AFQ) (AA AUW trivial)
theorem AFR:∀ v,Dj v=roundOf Tryz.prog UG Hf 1 0 87 (AB Tryz.f153 0) ADi ADf v:=by
 rintro⟨a0,a1,a2,a3,a4,a5,a6,⟨⟩⟩
 kernel_rfl
theorem AUX:AD (AB Tryz.f153 0) 1=[(1,AB Tryz.f153 1)]:=by kernel_rfl
theorem AUa:Ab Tryz.prog 0 (.loop (AB Tryz.f153 0)) (Hf.loop 0):=AX J4 (AFR) (AA AUX ⟨AUZ,trivial⟩)
theorem AOH:∀ v,Pq v=AT Tryz.prog UG Hf Tryz.f153 X7 X6 X5 v:=by
 rintro⟨a0,⟨⟩⟩
 kernel_rfl
theorem AX1:AD (AW Tryz.f153) 0=[(0,AB Tryz.f153 0),(2,AB Tryz.f153 2)]:=by kernel_rfl
theorem AJm:AU Tryz.prog 153 (AH 1 X7 X6 X5 OS):=AN J4 Tryz.func153 (by kernel_rfl) (by kernel_rfl) rfl (fun v=>(ADj v).trans (AOH v)) (AA AX1 ⟨AUa,AUY,trivial⟩)
def ABw:Env:=UG.ext 153 true true (AH 1 X7 X6 X5 OS)
theorem WK:Af Tryz.prog ABw:=Env.Ai J4 AJm (fun _=>AQ rfl rfl) (fun _=>AO rfl rfl)
abbrev Adb:Hints:={  }
theorem AXg:∀ v,Xj v=AT Tryz.prog ABw Adb Tryz.f184 AIz AIy AIx v:=by
 rintro⟨a0,a1,a2,⟨⟩⟩
 kernel_rfl
theorem Ada:AD (AW Tryz.f184) 0=[]:=by kernel_rfl
theorem ASj:AU Tryz.prog 184 (AH 3 AIz AIy AIx asked):=AN WK Tryz.func184 (by kernel_rfl) (by kernel_rfl) rfl (fun v=>(ANt v).trans (AXg v)) (AA Ada trivial)
def AJP:Env:=ABw.ext 184 true true (AH 3 AIz AIy AIx asked)
theorem ACN:Af Tryz.prog AJP:=Env.Ai WK ASj (fun _=>AQ rfl rfl) (fun _=>AO rfl rfl)
abbrev AeM:Hints:={  }
theorem AZ8:∀ v,Sq v=AT Tryz.prog AJP AeM Tryz.f118 AQe AQd AQc v:=by
 rintro⟨a0,⟨⟩⟩
 kernel_rfl
theorem AeL:AD (AW Tryz.f118) 0=[]:=by kernel_rfl
theorem AVs:AU Tryz.prog 118 (AH 1 AQe AQd AQc AQf):=AN ACN Tryz.func118 (by kernel_rfl) (by kernel_rfl) rfl (fun v=>(XW v).trans (AZ8 v)) (AA AeL trivial)
def ASs:Env:=AJP.ext 118 true true (AH 1 AQe AQd AQc AQf)
theorem AE5:Af Tryz.prog ASs:=Env.Ai ACN AVs (fun _=>AQ rfl rfl) (fun _=>AO rfl rfl)
abbrev ASM:Hints:={  }
theorem AIZ:∀ v,IV v=AT Tryz.prog ASs ASM Tryz.f74 PS PR PQ v:=by
 rintro⟨a0,a1,⟨⟩⟩
 kernel_rfl
theorem ASL:AD (AW Tryz.f74) 0=[]:=by kernel_rfl
theorem ADO:AU Tryz.prog 74 (AH 2 PS PR PQ FV):=AN AE5 Tryz.func74 (by kernel_rfl) (by kernel_rfl) rfl (fun v=>(Mf v).trans (AIZ v)) (AA ASL trivial)
def Pf:Env:=ASs.ext 74 true true (AH 2 PS PR PQ FV)
theorem ON:Af Tryz.prog Pf:=Env.Ai AE5 ADO (fun _=>AQ rfl rfl) (fun _=>AO rfl rfl)
abbrev Abj:Hints:={ fp:=fun n=>match n with|1=>[[],[],[],[],[],[],[],[]]|_=>[] }
theorem AUR:∀ v,XB v=AT Tryz.prog Pf Abj Tryz.f204 AFG AFF AFE v:=by
 rintro⟨a0,a1,⟨⟩⟩
 kernel_rfl
theorem Abi:AD (AW Tryz.f204) 0=[]:=by kernel_rfl
theorem AN6:AU Tryz.prog 204 (AH 2 AFG AFF AFE BF):=AN ON Tryz.func204 (by kernel_rfl) (by kernel_rfl) rfl (fun v=>(AJS v).trans (AUR v)) (AA Abi trivial)
def AJB:Env:=Pf.ext 204 true true (AH 2 AFG AFF AFE BF)
theorem ABt:Af Tryz.prog AJB:=Env.Ai ON AN6 (fun _=>AQ rfl rfl) (fun _=>AO rfl rfl)
abbrev Acp:Hints:={  }
theorem AWP:∀ v,Xa v=AT Tryz.prog AJB Acp Tryz.f134 AHg AHf AHe v:=by
 rintro⟨a0,⟨⟩⟩
 kernel_rfl
theorem Aco:AD (AW Tryz.f134) 0=[]:=by kernel_rfl
theorem AQ9:AU Tryz.prog 134 (AH 1 AHg AHf AHe AMV):=AN ABt Tryz.func134 (by kernel_rfl) (by kernel_rfl) rfl (fun v=>(AMU v).trans (AWP v)) (AA Aco trivial)
def AJL:Env:=AJB.ext 134 true true (AH 1 AHg AHf AHe AMV)
theorem ACE:Af Tryz.prog AJL:=Env.Ai ABt AQ9 (fun _=>AQ rfl rfl) (fun _=>AO rfl rfl)
abbrev AXd:Hints:={  }
theorem ANs:∀ v,Nm v=AT Tryz.prog AJL AXd Tryz.f100 Tt Ts Tr v:=by
 rintro⟨a0,⟨⟩⟩
 kernel_rfl
theorem AXc:AD (AW Tryz.f100) 0=[]:=by kernel_rfl
theorem AIu:AU Tryz.prog 100 (AH 1 Tt Ts Tr bitsLen):=AN ACE Tryz.func100 (by kernel_rfl) (by kernel_rfl) rfl (fun v=>(ABm v).trans (ANs v)) (AA AXc trivial)
def UK:Env:=AJL.ext 100 true true (AH 1 Tt Ts Tr bitsLen)
theorem Rn:Af Tryz.prog UK:=Env.Ai ACE AIu (fun _=>AQ rfl rfl) (fun _=>AO rfl rfl)
abbrev AUQ:Hints:={ fp:=fun n=>match n with|3=>[[],[0],[0],[],[0],[0],[],[],[0],[1]]|2=>[[],[0],[0],[],[0],[0],[],[],[0],[1]]|1=>[[],[0],[0],[],[0],[0],[],[],[0],[1]]|_=>[] }
theorem AJQ:∀ v,My v=AT Tryz.prog UK AUQ Tryz.f191 Rv Ru Rs v:=by
 rintro⟨a0,⟨⟩⟩
 kernel_rfl
theorem AUP:AD (AW Tryz.f191) 0=[]:=by kernel_rfl
theorem AFC:AU Tryz.prog 191 (AH 1 Rv Ru Rs xorNext):=AN Rn Tryz.func191 (by kernel_rfl) (by kernel_rfl) rfl (fun v=>(Xp v).trans (AJQ v)) (AA AUP trivial)
def T2:Env:=UK.ext 191 false true (AH 1 Rv Ru Rs xorNext)
theorem RK:Af Tryz.prog T2:=Env.Ai Rn AFC ((by simp)) (fun _=>AO rfl rfl)
abbrev AVr:Hints:={  }
theorem AL9:∀ v,NN v=AT Tryz.prog T2 AVr Tryz.f190 Sp So Sn v:=by
 rintro⟨a0,⟨⟩⟩
 kernel_rfl
theorem AVq:AD (AW Tryz.f190) 0=[]:=by kernel_rfl
theorem AHE:AU Tryz.prog 190 (AH 1 Sp So Sn NO):=AN RK Tryz.func190 (by kernel_rfl) (by kernel_rfl) rfl (fun v=>(Z9 v).trans (AL9 v)) (AA AVq trivial)
def J2:Env:=T2.ext 190 true true (AH 1 Sp So Sn NO)
theorem HO:Af Tryz.prog J2:=Env.Ai RK AHE (fun _=>AQ rfl rfl) (fun _=>AO rfl rfl)
abbrev AAi:Hints:={ loop:=fun n=>match n with|0=>Ad 1 53 ATm ATk ATi|1=>Ad 1 53 ATl ATj ATh|_=>fun _ _ _=>none,fp:=fun n=>match n with|4=>[[],[],[],[],[],[],[],[0],[0],[],[],[],[0],[0],[],[],[]]|6=>[[],[],[],[],[],[],[],[],[0],[0],[],[],[0],[0],[0],[1],[0],[1]]|_=>[] }
theorem ARK:∀ v,ATh v=roundOf Tryz.prog J2 AAi 2 1 53 (AB Tryz.f207 1) ATl ATj v:=by
 rintro⟨a0,a1,a2,a3,a4,⟨⟩⟩
 kernel_rfl
theorem Acr:AD (AB Tryz.f207 1) 2=[]:=by kernel_rfl
theorem Acu:Ab Tryz.prog 1 (.loop (AB Tryz.f207 1)) (AAi.loop 1):=AX HO (ARK) (AA Acr trivial)
theorem ARL:∀ v,ATi v=roundOf Tryz.prog J2 AAi 1 1 53 (AB Tryz.f207 0) ATm ATk v:=by
 rintro⟨a0,a1,a2,a3,⟨⟩⟩
 kernel_rfl
theorem Acs:AD (AB Tryz.f207 0) 1=[(1,AB Tryz.f207 1)]:=by kernel_rfl
theorem Acv:Ab Tryz.prog 1 (.loop (AB Tryz.f207 0)) (AAi.loop 0):=AX HO (ARL) (AA Acs ⟨Acu,trivial⟩)
theorem AaO:∀ v,AaP v=AT Tryz.prog J2 AAi Tryz.f207 ARO ARN ARM v:=by
 rintro⟨a0,a1,a2,⟨⟩⟩
 kernel_rfl
theorem AeR:AD (AW Tryz.f207) 0=[(0,AB Tryz.f207 0)]:=by kernel_rfl
theorem AWU:AU Tryz.prog 207 (AH 4 ARO ARN ARM AeS):=AN HO Tryz.func207 (by kernel_rfl) (by kernel_rfl) rfl (fun v=>(Acw v).trans (AaO v)) (AA AeR ⟨Acv,trivial⟩)
def AJM:Env:=J2.FL 207 3 204 (AH 4 ARO ARN ARM AeS)
theorem UC:Af Tryz.prog AJM:=Env.Bc HO AWU (AO rfl rfl)
abbrev AFw:Hints:={ loop:=fun n=>match n with|0=>Ad 1 82 AKC AKB AKA|_=>fun _ _ _=>none,fp:=fun n=>match n with|6=>[[],[],[],[],[],[],[],[],[],[],[],[],[0],[0],[],[],[],[],[0],[0],[0],[1],[0],[1]]|5=>[[],[],[],[],[],[0],[0],[],[],[],[],[0],[0],[],[],[]]|3=>[[],[],[],[],[],[],[],[],[],[],[0],[0],[],[],[],[],[],[0],[0],[],[],[]]|_=>[] }
theorem AJ9:∀ v,AKA v=roundOf Tryz.prog AJM AFw 1 1 82 (AB Tryz.f215 0) AKC AKB v:=by
 rintro⟨a0,a1,a2,a3,⟨⟩⟩
 kernel_rfl
theorem AYU:AD (AB Tryz.f215 0) 1=[]:=by kernel_rfl
theorem AYV:Ab Tryz.prog 1 (.loop (AB Tryz.f215 0)) (AFw.loop 0):=AX UC (AJ9) (AA AYU trivial)
theorem AUu:∀ v,AS7 v=AT Tryz.prog AJM AFw Tryz.f215 AFv AFu AFt v:=by
 rintro⟨a0,a1,a2,a3,⟨⟩⟩
 kernel_rfl
theorem Ab1:AD (AW Tryz.f215) 0=[(0,AB Tryz.f215 0)]:=by kernel_rfl
theorem AOn:AU Tryz.prog 215 (AH 5 AFv AFu AFt AYX):=AN UC Tryz.func215 (by kernel_rfl) (by kernel_rfl) rfl (fun v=>(AYW v).trans (AUu v)) (AA Ab1 ⟨AYV,trivial⟩)
def RP:Env:=AJM.FL 215 4 204 (AH 5 AFv AFu AFt AYX)
theorem K5:Af Tryz.prog RP:=Env.Bc UC AOn (AO rfl rfl)
end
end Go.Pev
end
section
namespace Go.Pev
open Go.Proofs
noncomputable section
abbrev Qq:Hints:={ loop:=fun n=>match n with|0=>Ad 1 60 AMk AMi AMg|1=>Ad 1 60 AMj AMh AMe|_=>fun _ _ _=>none,fp:=fun n=>match n with|10=>[[],[],[],[],[],[],[],[],[],[],[0],[0],[],[],[0],[0],[0],[1],[0],[1]]|_=>[] }
theorem AMd:∀ v,AMe v=roundOf Tryz.prog RP Qq 2 1 60 (AB Tryz.f208 1) AMj AMh v:=by
 rintro⟨a0,a1,a2,a3,⟨⟩⟩
 kernel_rfl
theorem Aaa:AD (AB Tryz.f208 1) 2=[]:=by kernel_rfl
theorem Aac:Ab Tryz.prog 1 (.loop (AB Tryz.f208 1)) (Qq.loop 1):=AX K5 (AMd) (AA Aaa trivial)
theorem AMf:∀ v,AMg v=roundOf Tryz.prog RP Qq 1 1 60 (AB Tryz.f208 0) AMk AMi v:=by
 rintro⟨a0,a1,a2,a3,a4,⟨⟩⟩
 kernel_rfl
theorem Aab:AD (AB Tryz.f208 0) 1=[]:=by kernel_rfl
theorem Aad:Ab Tryz.prog 1 (.loop (AB Tryz.f208 0)) (Qq.loop 0):=AX K5 (AMf) (AA Aab trivial)
theorem AWh:∀ v,ATt v=AT Tryz.prog RP Qq Tryz.f208 AHv AHu AHt v:=by
 rintro⟨a0,a1,a2,⟨⟩⟩
 kernel_rfl
theorem Ac8:AD (AW Tryz.f208) 0=[(0,AB Tryz.f208 0),(1,AB Tryz.f208 1)]:=by kernel_rfl
theorem ARY:AU Tryz.prog 208 (AH 4 AHv AHu AHt Aaf):=AN K5 Tryz.func208 (by kernel_rfl) (by kernel_rfl) rfl (fun v=>(Aae v).trans (AWh v)) (AA Ac8 ⟨Aad,Aac,trivial⟩)
def Xm:Env:=RP.FL 208 3 204 (AH 4 AHv AHu AHt Aaf)
theorem Pb:Af Tryz.prog Xm:=Env.Bc K5 ARY (AO rfl rfl)
abbrev ABg:Hints:={ loop:=fun n=>match n with|0=>Ad 1 67 AEr AEq AEp|_=>fun _ _ _=>none,fp:=fun n=>match n with|10=>[[],[],[],[],[],[],[],[],[],[],[0],[0],[],[],[0],[0],[0],[1],[0],[1]]|_=>[] }
theorem AIr:∀ v,AEp v=roundOf Tryz.prog Xm ABg 1 1 67 (AB Tryz.f209 0) AEr AEq v:=by
 rintro⟨a0,a1,a2,a3,a4,a5,⟨⟩⟩
 kernel_rfl
theorem AXW:AD (AB Tryz.f209 0) 1=[]:=by kernel_rfl
theorem AXX:Ab Tryz.prog 1 (.loop (AB Tryz.f209 0)) (ABg.loop 0):=AX Pb (AIr) (AA AXW trivial)
theorem ASW:∀ v,ANo v=AT Tryz.prog Xm ABg Tryz.f209 ABf ABe ABd v:=by
 rintro⟨a0,a1,a2,⟨⟩⟩
 kernel_rfl
theorem AbQ:AD (AW Tryz.f209) 0=[(0,AB Tryz.f209 0)]:=by kernel_rfl
theorem ANn:AU Tryz.prog 209 (AH 4 ABf ABe ABd ASX):=AN Pb Tryz.func209 (by kernel_rfl) (by kernel_rfl) rfl (fun v=>(AXY v).trans (ASW v)) (AA AbQ ⟨AXX,trivial⟩)
def ACK:Env:=Xm.FL 209 3 204 (AH 4 ABf ABe ABd ASX)
theorem WZ:Af Tryz.prog ACK:=Env.Bc Pb ANn (AO rfl rfl)
abbrev AVi:Hints:={ fp:=fun n=>match n with|1=>[[],[],[],[0],[0],[],[],[0],[0],[],[]]|_=>[] }
theorem AL3:∀ v,AEI v=AT Tryz.prog ACK AVi Tryz.f218 Sj Si Sh v:=by
 rintro⟨a0,a1,a2,a3,⟨⟩⟩
 kernel_rfl
theorem AVh:AD (AW Tryz.f218) 0=[]:=by kernel_rfl
theorem AG4:AU Tryz.prog 218 (AH 5 Sj Si Sh AG5):=AN WZ Tryz.func218 (by kernel_rfl) (by kernel_rfl) rfl (fun v=>(AQP v).trans (AL3 v)) (AA AVh trivial)
def T5:Env:=ACK.FL 218 4 204 (AH 5 Sj Si Sh AG5)
theorem RW:Af Tryz.prog T5:=Env.Bc WZ AG4 (AO rfl rfl)
abbrev AVz:Hints:={  }
theorem AMD:∀ v,AEK v=AT Tryz.prog T5 AVz Tryz.f217 Sv Su Ss v:=by
 rintro⟨a0,a1,a2,a3,a4,⟨⟩⟩
 kernel_rfl
theorem AVy:AD (AW Tryz.f217) 0=[]:=by kernel_rfl
theorem AHJ:AU Tryz.prog 217 (AH 6 Sv Su Ss AHK):=AN RW Tryz.func217 (by kernel_rfl) (by kernel_rfl) rfl (fun v=>(AQp v).trans (AMD v)) (AA AVy trivial)
def T7:Env:=T5.FL 217 5 204 (AH 6 Sv Su Ss AHK)
theorem RY:Af Tryz.prog T7:=Env.Bc RW AHJ (AO rfl rfl)
abbrev AV3:Hints:={  }
theorem AMF:∀ v,AEL v=AT Tryz.prog T7 AV3 Tryz.f216 S2 S1 S0 v:=by
 rintro⟨a0,a1,a2,⟨⟩⟩
 kernel_rfl
theorem AV2:AD (AW Tryz.f216) 0=[]:=by kernel_rfl
theorem AHM:AU Tryz.prog 216 (AH 4 S2 S1 S0 AHN):=AN RY Tryz.func216 (by kernel_rfl) (by kernel_rfl) rfl (fun v=>(AQr v).trans (AMF v)) (AA AV2 trivial)
def T9:Env:=T7.FL 216 3 204 (AH 4 S2 S1 S0 AHN)
theorem Ra:Af Tryz.prog T9:=Env.Bc RY AHM (AO rfl rfl)
abbrev AY5:Hints:={  }
theorem APk:∀ v,AKk v=AT Tryz.prog T9 AY5 Tryz.f210 ZL ZK ZJ v:=by
 rintro⟨a0,a1,a2,⟨⟩⟩
 kernel_rfl
theorem AY4:AD (AW Tryz.f210) 0=[]:=by kernel_rfl
theorem AKj:AU Tryz.prog 210 (AH 4 ZL ZK ZJ APl):=AN Ra Tryz.func210 (by kernel_rfl) (by kernel_rfl) rfl (fun v=>(AVL v).trans (APk v)) (AA AY4 trivial)
def RU:Env:=T9.FL 210 3 204 (AH 4 ZL ZK ZJ APl)
theorem Mt:Af Tryz.prog RU:=Env.Bc Ra AKj (AO rfl rfl)
abbrev APC:Hints:={ loop:=fun n=>match n with|0=>Ad 1 34 ATB ATA AS9|_=>fun _ _ _=>none,fp:=fun n=>match n with|3=>[[],[],[],[],[],[],[0],[0],[],[],[0],[0],[0],[1],[0],[1]]|_=>[] }
theorem AO8:∀ v,AS9 v=roundOf Tryz.prog RU APC 1 1 34 (AB Tryz.f211 0) ATB ATA v:=by
 rintro⟨a0,a1,a2,⟨⟩⟩
 kernel_rfl
theorem Ab7:AD (AB Tryz.f211 0) 1=[]:=by kernel_rfl
theorem Ab8:Ab Tryz.prog 1 (.loop (AB Tryz.f211 0)) (APC.loop 0):=AX Mt (AO8) (AA Ab7 trivial)
theorem AYk:∀ v,AYl v=AT Tryz.prog RU APC Tryz.f211 APB APA AO9 v:=by
 rintro⟨a0,a1,a2,⟨⟩⟩
 kernel_rfl
theorem Adx:AD (AW Tryz.f211) 0=[(0,AB Tryz.f211 0)]:=by kernel_rfl
theorem AU6:AU Tryz.prog 211 (AH 4 APB APA AO9 Ady):=AN Mt Tryz.func211 (by kernel_rfl) (by kernel_rfl) rfl (fun v=>(Ab9 v).trans (AYk v)) (AA Adx ⟨Ab8,trivial⟩)
def PY:Env:=RU.FL 211 3 204 (AH 4 APB APA AO9 Ady)
theorem Ha:Af Tryz.prog PY:=Env.Bc Mt AU6 (AO rfl rfl)
abbrev Cx:Hints:={ loop:=fun n=>match n with|0=>Ad 1 141 VP VL VH|1=>Ad 1 141 VO VK VG|2=>Ad 1 141 VN VJ VF|3=>Ad 1 141 VM VI VE|_=>fun _ _ _=>none,fp:=fun n=>match n with|11=>[[],[],[],[],[],[],[],[],[0],[0],[],[],[0],[0],[0],[1],[0],[1]]|5=>[[],[],[],[],[],[],[],[0],[0],[],[],[],[0],[0],[],[],[],[]]|17=>[[],[],[],[],[],[],[],[],[0],[0],[],[],[0],[0],[0],[1],[0],[1]]|16=>[[],[],[],[0],[0],[],[],[],[0],[0],[],[],[]]|23=>[[],[],[],[],[],[],[],[],[0],[0],[],[],[0],[0],[0],[1],[0],[1]]|22=>[[],[],[],[0],[0],[],[],[],[0],[0],[],[],[]]|_=>[] }
theorem Zd:∀ v,VE v=roundOf Tryz.prog PY Cx 4 1 141 (AB Tryz.f212 3) VM VI v:=by
 rintro⟨a0,a1,a2,a3,a4,a5,⟨⟩⟩
 kernel_rfl
theorem ALI:AD (AB Tryz.f212 3) 4=[]:=by kernel_rfl
theorem ALM:Ab Tryz.prog 1 (.loop (AB Tryz.f212 3)) (Cx.loop 3):=AX Ha (Zd) (AA ALI trivial)
theorem Ze:∀ v,VF v=roundOf Tryz.prog PY Cx 3 1 141 (AB Tryz.f212 2) VN VJ v:=by
 rintro⟨a0,a1,a2,a3,a4,a5,⟨⟩⟩
 kernel_rfl
theorem ALJ:AD (AB Tryz.f212 2) 3=[]:=by kernel_rfl
theorem ALN:Ab Tryz.prog 1 (.loop (AB Tryz.f212 2)) (Cx.loop 2):=AX Ha (Ze) (AA ALJ trivial)
theorem Zf:∀ v,VG v=roundOf Tryz.prog PY Cx 2 1 141 (AB Tryz.f212 1) VO VK v:=by
 rintro⟨a0,a1,a2,a3,a4,⟨⟩⟩
 kernel_rfl
theorem ALK:AD (AB Tryz.f212 1) 2=[]:=by kernel_rfl
theorem ALO:Ab Tryz.prog 1 (.loop (AB Tryz.f212 1)) (Cx.loop 1):=AX Ha (Zf) (AA ALK trivial)
theorem Zg:∀ v,VH v=roundOf Tryz.prog PY Cx 1 1 141 (AB Tryz.f212 0) VP VL v:=by
 rintro⟨a0,a1,a2,a3,a4,⟨⟩⟩
 kernel_rfl
theorem ALL:AD (AB Tryz.f212 0) 1=[(1,AB Tryz.f212 1),(2,AB Tryz.f212 2),(3,AB Tryz.f212 3)]:=by kernel_rfl
theorem ALP:Ab Tryz.prog 1 (.loop (AB Tryz.f212 0)) (Cx.loop 0):=AX Ha (Zg) (AA ALL ⟨ALO,ALN,ALM,trivial⟩)
theorem AGs:∀ v,Zh v=AT Tryz.prog PY Cx Tryz.f212 Oj Oi Oh v:=by
 rintro⟨a0,a1,a2,⟨⟩⟩
 kernel_rfl
theorem AP6:AD (AW Tryz.f212) 0=[(0,AB Tryz.f212 0)]:=by kernel_rfl
theorem ACl:AU Tryz.prog 212 (AH 4 Oj Oi Oh Zi):=AN Ha Tryz.func212 (by kernel_rfl) (by kernel_rfl) rfl (fun v=>(ALQ v).trans (AGs v)) (AA AP6 ⟨ALP,trivial⟩)
def GL:Env:=PY.FL 212 3 204 (AH 4 Oj Oi Oh Zi)
theorem EI:Af Tryz.prog GL:=Env.Bc Ha ACl (AO rfl rfl)
abbrev Fq:Hints:={ loop:=fun n=>match n with|0=>Ad 1 90 Zv Zs Zp|1=>Ad 1 90 Zu Zr Zo|2=>Ad 1 90 Zt Zq Zn|_=>fun _ _ _=>none,fp:=fun n=>match n with|8=>[[],[],[],[],[],[],[0],[0],[],[],[0],[0],[0],[1],[0],[1]]|3=>[[],[],[],[],[],[],[],[0],[0],[],[],[0],[0],[],[],[],[]]|5=>[[],[],[],[],[],[],[],[0],[0],[],[],[0],[0],[],[],[]]|1=>[[],[],[],[],[],[],[0],[0],[],[],[0],[0],[0],[1],[0],[1]]|_=>[] }
theorem ACt:∀ v,Zn v=roundOf Tryz.prog GL Fq 3 1 90 (AB Tryz.f213 2) Zt Zq v:=by
 rintro⟨a0,a1,a2,a3,⟨⟩⟩
 kernel_rfl
theorem AQB:AD (AB Tryz.f213 2) 3=[]:=by kernel_rfl
theorem AQE:Ab Tryz.prog 1 (.loop (AB Tryz.f213 2)) (Fq.loop 2):=AX EI (ACt) (AA AQB trivial)
theorem ACu:∀ v,Zo v=roundOf Tryz.prog GL Fq 2 1 90 (AB Tryz.f213 1) Zu Zr v:=by
 rintro⟨a0,a1,a2,a3,⟨⟩⟩
 kernel_rfl
theorem AQC:AD (AB Tryz.f213 1) 2=[]:=by kernel_rfl
theorem AQF:Ab Tryz.prog 1 (.loop (AB Tryz.f213 1)) (Fq.loop 1):=AX EI (ACu) (AA AQC trivial)
theorem ACv:∀ v,Zp v=roundOf Tryz.prog GL Fq 1 1 90 (AB Tryz.f213 0) Zv Zs v:=by
 rintro⟨a0,a1,a2,a3,⟨⟩⟩
 kernel_rfl
theorem AQD:AD (AB Tryz.f213 0) 1=[(1,AB Tryz.f213 1),(2,AB Tryz.f213 2)]:=by kernel_rfl
theorem AQG:Ab Tryz.prog 1 (.loop (AB Tryz.f213 0)) (Fq.loop 0):=AX EI (ACv) (AA AQD ⟨AQF,AQE,trivial⟩)
theorem ALy:∀ v,AEF v=AT Tryz.prog GL Fq Tryz.f213 Sd Sc Sb v:=by
 rintro⟨a0,a1,a2,a3,⟨⟩⟩
 kernel_rfl
theorem AVe:AD (AW Tryz.f213) 0=[(0,AB Tryz.f213 0)]:=by kernel_rfl
theorem AGz:AU Tryz.prog 213 (AH 5 Sd Sc Sb AG0):=AN EI Tryz.func213 (by kernel_rfl) (by kernel_rfl) rfl (fun v=>(AQH v).trans (ALy v)) (AA AVe ⟨AQG,trivial⟩)
def E1:Env:=GL.FL 213 4 204 (AH 5 Sd Sc Sb AG0)
theorem C5:Af Tryz.prog E1:=Env.Bc EI AGz (AO rfl rfl)
abbrev E9:Hints:={ loop:=fun n=>match n with|0=>Ad 1 178 ALH ALC AK7|1=>Ad 1 178 ALG ALB AK5|2=>Ad 1 178 ALF ALA AK3|3=>Ad 1 178 ALE AK9 AK1|4=>Ad 1 178 ALD AK8 AKz|_=>fun _ _ _=>none,fp:=fun n=>match n with|3=>[[],[],[],[],[],[],[],[0],[0],[],[],[0],[0],[],[],[]]|5=>[[],[],[],[],[],[],[],[0],[0],[],[],[0],[0],[],[],[],[]]|18=>[[],[],[],[],[],[],[0],[0],[],[],[0],[0],[0],[1],[0],[1]]|13=>[[],[],[],[],[],[],[],[0],[0],[],[],[0],[0],[],[],[]]|15=>[[],[],[],[],[],[],[],[0],[0],[],[],[0],[0],[],[],[],[]]|21=>[[],[],[],[],[],[],[0],[0],[],[],[0],[0],[0],[1],[0],[1]]|10=>[[],[],[],[],[],[],[0],[0],[],[],[0],[0],[0],[1],[0],[1]]|8=>[[],[],[],[],[],[],[0],[0],[],[],[0],[0],[0],[1],[0],[1]]|1=>[[],[],[],[],[],[],[0],[0],[],[],[0],[0],[0],[1],[0],[1]]|_=>[] }
theorem AKy:∀ v,AKz v=roundOf Tryz.prog E1 E9 5 1 178 (AB Tryz.f214 4) ALD AK8 v:=by
 rintro⟨a0,a1,a2,a3,⟨⟩⟩
 kernel_rfl
theorem AZV:AD (AB Tryz.f214 4) 5=[]:=by kernel_rfl
theorem AZa:Ab Tryz.prog 1 (.loop (AB Tryz.f214 4)) (E9.loop 4):=AX C5 (AKy) (AA AZV trivial)
theorem AK0:∀ v,AK1 v=roundOf Tryz.prog E1 E9 4 1 178 (AB Tryz.f214 3) ALE AK9 v:=by
 rintro⟨a0,a1,a2,a3,⟨⟩⟩
 kernel_rfl
theorem AZW:AD (AB Tryz.f214 3) 4=[]:=by kernel_rfl
theorem AZb:Ab Tryz.prog 1 (.loop (AB Tryz.f214 3)) (E9.loop 3):=AX C5 (AK0) (AA AZW trivial)
theorem AK2:∀ v,AK3 v=roundOf Tryz.prog E1 E9 3 1 178 (AB Tryz.f214 2) ALF ALA v:=by
 rintro⟨a0,a1,a2,a3,⟨⟩⟩
 kernel_rfl
theorem AZX:AD (AB Tryz.f214 2) 3=[(3,AB Tryz.f214 3),(4,AB Tryz.f214 4)]:=by kernel_rfl
theorem AZc:Ab Tryz.prog 1 (.loop (AB Tryz.f214 2)) (E9.loop 2):=AX C5 (AK2) (AA AZX ⟨AZb,AZa,trivial⟩)
theorem AK4:∀ v,AK5 v=roundOf Tryz.prog E1 E9 2 1 178 (AB Tryz.f214 1) ALG ALB v:=by
 rintro⟨a0,a1,a2,a3,⟨⟩⟩
 kernel_rfl
theorem AZY:AD (AB Tryz.f214 1) 2=[]:=by kernel_rfl
theorem AZd:Ab Tryz.prog 1 (.loop (AB Tryz.f214 1)) (E9.loop 1):=AX C5 (AK4) (AA AZY trivial)
theorem AK6:∀ v,AK7 v=roundOf Tryz.prog E1 E9 1 1 178 (AB Tryz.f214 0) ALH ALC v:=by
 rintro⟨a0,a1,a2,a3,⟨⟩⟩
 kernel_rfl
theorem AZZ:AD (AB Tryz.f214 0) 1=[]:=by kernel_rfl
theorem AZe:Ab Tryz.prog 1 (.loop (AB Tryz.f214 0)) (E9.loop 0):=AX C5 (AK6) (AA AZZ trivial)
theorem AVa:∀ v,ATQ v=AT Tryz.prog E1 E9 Tryz.f214 AGr AGq AGp v:=by
 rintro⟨a0,a1,a2,a3,⟨⟩⟩
 kernel_rfl
theorem AcV:AD (AW Tryz.f214) 0=[(0,AB Tryz.f214 0),(1,AB Tryz.f214 1),(2,AB Tryz.f214 2)]:=by kernel_rfl
theorem AP5:AU Tryz.prog 214 (AH 5 AGr AGq AGp AZg):=AN C5 Tryz.func214 (by kernel_rfl) (by kernel_rfl) rfl (fun v=>(AZf v).trans (AVa v)) (AA AcV ⟨AZe,AZd,AZc,trivial⟩)
def AJJ:Env:=E1.FL 214 4 204 (AH 5 AGr AGq AGp AZg)
theorem ACA:Af Tryz.prog AJJ:=Env.Bc C5 AP5 (AO rfl rfl)
abbrev APy(self:(List (List Int)×Int×Int×Int×Unit)→Option ((List (List Int)×Unit))):Hints:={ loop:=fun n=>match n with|0=>Ad 1 148 ATL ATK (ATJ self)|_=>fun _ _ _=>none,fp:=fun n=>match n with|17=>[[],[],[],[],[],[],[],[0],[0],[],[],[0],[0],[],[],[],[]]|_=>[] }
abbrev AGh(self:(List (List Int)×Int×Int×Int×Unit)→Option ((List (List Int)×Unit))):Env:=AJJ.ext 206 false true (AH 5 ZX ZW ZV self)
theorem APx(self:(List (List Int)×Int×Int×Int×Unit)→Option ((List (List Int)×Unit))):∀ v,ATJ self v=roundOf Tryz.prog (AGh self) (APy self) 1 1 148 (AB Tryz.f206 0) ATL ATK v:=by
 rintro⟨a0,a1,a2,a3,a4,a5,⟨⟩⟩
 kernel_rfl
theorem AcL:AD (AB Tryz.f206 0) 1=[]:=by kernel_rfl
theorem AcM(self:(List (List Int)×Int×Int×Int×Unit)→Option ((List (List Int)×Unit)))(hE:Af Tryz.prog (AGh self)):Ab Tryz.prog 1 (.loop (AB Tryz.f206 0)) ((APy self).loop 0):=AX hE (APx self) (AA AcL trivial)
theorem AZF(self:(List (List Int)×Int×Int×Int×Unit)→Option ((List (List Int)×Unit))):∀ v,Ad4 self v=AT Tryz.prog (AGh self) (APy self) Tryz.f206 ZX ZW ZV v:=by
 rintro⟨a0,a1,a2,a3,⟨⟩⟩
 kernel_rfl
theorem Ad3:AD (AW Tryz.f206) 0=[(0,AB Tryz.f206 0)]:=by kernel_rfl
theorem APz:∀ n,AU Tryz.prog 206 (AH 5 ZX ZW ZV (ZY n)):=by
 intro n
 induction n with
 |zero=>exact Vr fun _=>rfl
 |succ n ih=>
  have hE:Af Tryz.prog (AGh (ZY n)):=Env.Ai ACA ih ((by simp)) (fun _=>AO rfl rfl)
  let self:=ZY n
  exact AN hE Tryz.func206 (by kernel_rfl) (by kernel_rfl) rfl (AZF self) (AA Ad3 ⟨(AcM self hE),trivial⟩)
theorem AVR:AU Tryz.prog 206 (AH 5 ZX ZW ZV AcO):=by
 have e:AcO=ZY 100:=funext AcN
 rw[e]
 exact APz _
def ASp:Env:=AJJ.FL 206 4 204 (AH 5 ZX ZW ZV AcO)
theorem AE2:Af Tryz.prog ASp:=Env.Bc ACA AVR (AO rfl rfl)
abbrev Aby:Hints:={  }
theorem AUq:∀ v,AS6 v=AT Tryz.prog ASp Aby Tryz.f203 AFp AFo AFn v:=by
 rintro⟨a0,⟨⟩⟩
 kernel_rfl
theorem Abx:AD (AW Tryz.f203) 0=[]:=by kernel_rfl
theorem AOl:AU Tryz.prog 203 (AH 2 AFp AFo AFn AJ5):=AN AE2 Tryz.func203 (by kernel_rfl) (by kernel_rfl) rfl (fun v=>(AYR v).trans (AUq v)) (AA Abx trivial)
def RO:Env:=ASp.FL 203 1 204 (AH 2 AFp AFo AFn AJ5)
theorem K4:Af Tryz.prog RO:=Env.Bc AE2 AOl (AO rfl rfl)
end
end Go.Pev
end
