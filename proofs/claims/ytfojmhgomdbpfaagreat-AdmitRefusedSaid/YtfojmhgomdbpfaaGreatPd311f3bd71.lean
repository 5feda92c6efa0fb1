/- A part of the proofs of this seat: U26b U26c U26d U26e U26f T26a U26g U26h T18a T18b T18c AKA T18d PevTake PevClaim AKB AKC T19a. -/
import Derived.Test.YtfojmhgomdbpfaaGreatPfef733496f
import Derived.ProofKit
import Derived.ChangeArms
import Derived.ReadAgain
import Derived.Deep.Slices
import Derived.OpenShut
import Derived.KernelRfl
set_option linter.unusedVariables false
set_option linter.unusedSimpArgs false
set_option linter.unusedSectionVars false
set_option maxRecDepth 100000
section
namespace Go.Pev.Pl
abbrev CrI:=(List TkI×Int×List Bool×Unit)×List (List Int)×Bool×Int×Int×Unit
abbrev EvI:=Int×Int×Int×Bool×Unit
def nI(l:List Nat):List Int:=l.map fun n:Nat=>(n:Int)
def BS(ds:List (List Nat)):List (List Int):=ds.map nI
def Vv(g:Nat)(c:Crw):CrI:=(Mv g c.ts c.dn,BS c.ds,c.ov,(c.st:Int),(c.idl:Int),())
def Cn(e:Evt):EvI:=((e.w:Int),(match e.ft with|some q=>(q.1:Int)|none=>-1),(match e.ft with|some q=>(q.2:Int)|none=>-1),e.pt,())
theorem DS{l:List Nat}{i:Nat}{x:Nat}(h:l[i]? = some x):(nI l)[i]? = some (x:Int):=by unfold nI;rw[Ap7,h];rfl
theorem Bc(l:List Nat):(nI l).length=l.length:=by unfold nI;simp
theorem J3(ds:List (List Nat)):(BS ds).length=ds.length:=by unfold BS;simp
theorem Gi{ds:List (List Nat)}{i:Nat}{l:List Nat}(h:ds[i]? = some l):(BS ds)[i]? = some (nI l):=by unfold BS;rw[Ap7,h];rfl
theorem AEX(ds:List (List Nat))(i:Nat)(l:List Nat):(BS ds).set i (nI l)=BS (ds.set i l):=by unfold BS;rw[List.map_set]
structure Cok(g W:Nat)(c:Crw):Prop where
 wok:Wok g c.ts c.dn
 w1:1≤W
 w2:W≤8
 w:c.ds.length=W
 st:c.st<100000
 idl:c.idl<100000
 nod:c.ds.flatten.Nodup
 act:∀ a∈c.ds.flatten,∃ t:Tsk,c.ts[a]? = some t∧t.wait=0∧c.dn[t.lo]? = some false
 few:c.ts.length+2≤2000∨∀ a∈c.ds.flatten,∀ t:Tsk,c.ts[a]? = some t→¬ g<t.hi-t.lo
 short:c.ds.flatten.length≤1000
theorem AZv{g W:Nat}{c:Crw}(h:Cok g W c){a:Nat}(ha:a∈c.ds.flatten):AFQ (Mv g c.ts c.dn,(a:Int),())=some (true,()):=by
 obtain⟨t,ht,hw,hd⟩:=h.act a ha
 have hl:=(Apn.1 ht).1
 rw[AJo,SA]
 simp only[An,ApX (show(0:Int)≤(a:Int) by omega),AS,Ap1,AL,ApX hl,AW (E6 ht)]
 have e1:ieq (Ai t).2.2.2.1 (0:Int)=true:=by rw[Ag];exact ApX (by simp[Ai,hw])
 simp only[e1,XT h.wok ht]
 have e2:(Ai t).1=(t.lo:Int):=rfl
 by_cases hg:g<t.hi-t.lo
 ·simp only[ApX hg]
 ·simp only[ApW hg,e2,AW hd,Ap8]
theorem AOZ(n:Nat):J8 ((n:Int),())=some (decide (n≤100000),()):=by
 rw[YR,LQ,An,ApX (by omega),An]
 by_cases h:n≤100000
 ·rw[ApX h,ApX (by omega)]
 ·rw[ApW h,ApW (by omega)]
def M1(l:List Nat):List (Int×Int):=l.map fun n:Nat=>((n:Int),(1:Int))
theorem AUz{l:List Nat}{x:Nat}(h:x∉l):Ad (M1 l) (x:Int) (1:Int)=M1 (l++[x])∧AR (M1 l) (x:Int)=none:=by
 induction l with
 |nil=>exact⟨rfl,rfl⟩
 |cons y l ih=>
  rw[Ape,not_or]at h
  obtain⟨h1,h2⟩:=ih h.2
  have hne:¬ (y:Int)=(x:Int):=by have:=h.1;omega
  constructor
  ·show(if(y:Int)=(x:Int)then _ else _)=_
   rw[Apg hne]
   show _::Ad (M1 l) (x:Int) 1=_
   rw[h1];rfl
  ·show(if(y:Int)=(x:Int)then _ else _)=_
   rw[Apg hne];exact h2
theorem LC{ds:List (List Nat)}{i:Nat}{l:List Nat}(h:ds[i]? = some l):ds.flatten=(ds.take i).flatten++(l++(ds.drop (i+1)).flatten)∧(ds.take (i+1)).flatten=(ds.take i).flatten++l:=by
 obtain⟨hl,rfl⟩:=Apn.1 h
 constructor
 ·conv=>lhs;rw[← Aqh i ds,AqL hl]
  rw[Ar4,Aq3]
 ·rw[Arv,ApZ hl,Ar4]
  simp
theorem AZb{g W:Nat}{c:Crw}(h:Cok g W c):AE5 (Vv g c,())=some (true,()):=by
 have:=h.w1;have:=h.w2;have:=h.w;have:=h.st;have:=h.idl;have:=h.short
 rw[AJm,Ry]
 simp only[Vv,XS h.wok,Aph,AS,J3]
 rw[Ag,ApW (show ¬ (c.ds.length:Int)=0 by omega),Ae,ApW (show ¬ (8:Int)<(c.ds.length:Int) by omega)]
 simp only[AOZ,ApX (show c.st≤100000 by omega),ApX (show c.idl≤100000 by omega),Aph]
 have inner:∀ (i:Nat) (l:List Nat) (W9:Int),c.ds[i]? = some l→AU Ek many (c.ts.map Ai,(g:Int),c.dn,BS c.ds,c.ov,(c.st:Int),(c.idl:Int),M1 (c.ds.take i).flatten,BS c.ds,W9,(i:Int),nI l,(l.length:Int),(0:Int),()) =
   some (.inr (.inl (c.ts.map Ai,(g:Int),c.dn,BS c.ds,c.ov,(c.st:Int),(c.idl:Int),M1 (c.ds.take (i+1)).flatten,BS c.ds,W9,(i:Int),()))):=by
  intro i l W9 hl
  obtain⟨f1,f2⟩:=LC hl
  have hll:l.length≤1000:=by
   have:=Aq7 List.length f1
   simp only[Apd]at this
   omega
  have e:=Io (step:=Ek) (fun j=>(c.ts.map Ai,(g:Int),c.dn,BS c.ds,c.ov,(c.st:Int),(c.idl:Int),M1 ((c.ds.take i).flatten++l.take j),BS c.ds,W9,(i:Int),nI l,(l.length:Int),(j:Int),())) l (fun _=>false)
   (fun _=>.inl (false,())) (.inr (.inl (c.ts.map Ai,(g:Int),c.dn,BS c.ds,c.ov,(c.st:Int),(c.idl:Int),M1 (c.ds.take (i+1)).flatten,BS c.ds,W9,(i:Int),()))) (by omega)
   (fun j x hj hx=>by
    rw[Ek,AL,ApX hj]
    have hnd:=h.nod
    have hsp:l=l.take j++x::l.drop (j+1):=by
     obtain⟨hjl,rfl⟩:=Apn.1 hx
     rw[← AqL hjl,Aqh]
    have hnot:x∉(c.ds.take i).flatten++l.take j:=by
     rw[f1,← AqD]at hnd
     have:=(Aq9.1 hnd).1
     rw[hsp,← AqD]at this
     intro hm
     exact(Aq9.1 this).2.2 x hm x (by simp) rfl
    have hxm:x∈c.ds.flatten:=by rw[f1];simp only[Apc];exact .inr (.inl (Apm hx))
    obtain⟨m1,m2⟩:=AUz hnot
    have hw1:IntKind.wrap .i64 (((AR (M1 ((c.ds.take i).flatten++l.take j)) (x:Int)).getD (0:Int))+(1:Int))=1:=by
     rw[m2];exact Ah (by decide)
    simp only[AW (DS hx),hw1,m1]
    have hlk:AR (M1 ((c.ds.take i).flatten++l.take j++[x])) (x:Int)=some 1:=by
     rw[← m1,Di,Apk rfl]
    rw[hlk,Ae]
    simp only[AqT,ApW (show ¬ (1:Int)<1 by omega)]
    have:=AZv h hxm
    simp only[Mv]at this
    simp only[this,Aph]
    rw[AP (by omega),AqD]
    have:l.take (j+1)=l.take j++[x]:=by rw[Arv,hx];rfl
    rw[this]
    simp)
   (by
    rw[Ek,AL,ApW (by omega),AqF,f2])
  have e':AU Ek many (c.ts.map Ai,(g:Int),c.dn,BS c.ds,c.ov,(c.st:Int),(c.idl:Int),M1 ((c.ds.take i).flatten++l.take 0),BS c.ds,W9,(i:Int),nI l,(l.length:Int),(0:Int),())=_:=e
  rw[List.take_zero,Aqn]at e'
  rw[e']
  simp
 have e:=Io (step:=F9) (fun i=>(c.ts.map Ai,(g:Int),c.dn,BS c.ds,c.ov,(c.st:Int),(c.idl:Int),M1 (c.ds.take i).flatten,BS c.ds,(c.ds.length:Int),(i:Int),())) c.ds (fun _=>false) (fun _=>.inl (false,())) (.inr (.inl ())) (by omega)
  (fun i l hi hl=>by
   rw[F9,AL,ApX hi]
   simp only[AW (Gi hl),AS,Bc]
   simp only[inner i l _ hl]
   rw[AP (by omega)]
   simp)
  (by rw[F9,AL,ApW (by omega)])
 have e':AU F9 many (c.ts.map Ai,(g:Int),c.dn,BS c.ds,c.ov,(c.st:Int),(c.idl:Int),([]:List (Int×Int)),BS c.ds,(c.ds.length:Int),(0:Int),())=_:=e
 simp only[e']
 simp
def BP(W:Nat)(x:Int):Nat:=((x.tmod W+W).tmod W).toNat
theorem Nu{W:Nat}(hW:1≤W)(x:Int):BP W x<W:=by
 unfold BP
 have h1:=Int.tmod_lt_of_pos (x.tmod W+W) (show(0:Int)<W by omega)
 omega
theorem AmG{a:Int}{W:Nat}(hW:1≤W):rem? a (W:Int)=some (a.tmod W):=by
 rw[AWf,AGv,Apg (by omega)]
theorem AT6{ds:List (List Nat)}{W:Nat}(hW:1≤W)(hW8:W≤8)(hd:ds.length=W)(a0:List TkI)(a1:Int)(a2:List Bool)(a4:Bool)(a5 a6 a7 a8 a9:Int)(a10:Bool)(x:Int):
  OB (a0,a1,a2,BS ds,a4,a5,a6,a7,a8,a9,a10,x,())=some (a0,a1,a2,BS ds,a4,a5,a6,a7,a8,a9,a10,(BP W x:Int),()):=by
 rw[AFG,OA]
 simp only[AS,J3,hd,AmG hW]
 have h1:=Int.tmod_lt_of_pos x (show(0:Int)<W by omega)
 have h2:-(W:Int)<x.tmod W:=by
  have:=Int.tmod_lt_of_pos (-x) (show(0:Int)<W by omega)
  rw[Int.neg_tmod]at this
  omega
 rw[Ah (by omega)]
 have h3:0≤(x.tmod W+W).tmod W:=Int.tmod_nonneg _ (by omega)
 unfold BP
 rw[Int.toNat_of_nonneg h3]
theorem Amd(l:List Nat)(k:Nat):(nI l).take k=nI (l.take k):=by unfold nI;rw[List.map_take]
theorem AZy{ds:List (List Nat)}{p v:Nat}(hp:p<ds.length)(hv:v<ds.length)(hs:ds.flatten.length≤1000)(a0:List TkI)(a1:Int)(a2:List Bool)(a4:Bool)(a5 a6 a7 a8 a9:Int)(a10:Bool):
  AFU (a0,a1,a2,BS ds,a4,a5,a6,a7,a8,a9,a10,(p:Int),(v:Int),())=match found ds p v with
   |some (t,f,ds')=>some (a0,a1,a2,BS ds',a4,a5,a6,a7,(f:Int),(t:Int),a10,true,())
   |none=>some (a0,a1,a2,BS ds,a4,a5,a6,a7,a8,a9,a10,false,()):=by
 have e1:ds[p]? = some (ds.getD p []):=by rw[ApZ hp,Jx (ApZ hp)]
 have e2:ds[v]? = some (ds.getD v []):=by rw[ApZ hv,Jx (ApZ hv)]
 have hlen:∀ {i:Nat} {l:List Nat},ds[i]? = some l→l.length≤1000:=by
  intro i l hl
  have:=Aq7 List.length (LC hl).1
  simp only[Apd]at this
  omega
 have l1:=hlen e1
 have l2:=hlen e2
 unfold found
 generalize ds.getD p []=lp at *
 generalize ds.getD v []=lv at *
 rw[AJp,SB]
 simp only[AW (Gi e1),AW (Gi e2),BJ (Gi e1),BJ (Gi e2),AS,Bc]
 rw[Ah (by omega),An]
 cases hg:lp.getLast? with
 |some t=>
  obtain⟨ys,rfl⟩:=Asb.1 hg
  rw[Apd,List.length_singleton]at *
  have e3:(((ys.length+1:Nat):Int)-1)=(ys.length:Int):=by omega
  rw[e3,ApX (by omega)]
  have e4:(nI (ys++[t]))[ys.length]? = some (t:Int):=DS (by simp)
  have e5:ieq (ys.length:Int) (ys.length:Int)=true:=by rw[Ag];exact ApX rfl
  simp only[AW e4,e5,AAt (show ys.length≤(nI (ys++[t])).length by rw[Bc];simp),Amd,Ar0,DW,AEX,List.dropLast_concat]
 |none=>
  have:lp=[]:=List.getLast?_eq_none_iff.1 hg
  subst this
  rw[ApW (by simp)]
  cases lv with
  |nil=>
   rw[Ae,ApW (by simp)]
  |cons t r=>
   rw[Ae,ApX (by simp)]
   have e4:idx (nI (t::r)) (0:Int)=some (t:Int):=by rw[Ju];rfl
   have e5:=Qq (xs:=nI (t::r)) (l:=1) (by rw[Bc];simp)
   rw[AS,Bc]at e5
   have e6:EG (nI (t::r)) (1:Int) (((t::r).length:Nat):Int)=some (nI r):=e5
   simp only[e4,e6,DW,AEX]
theorem Anf{g W:Nat}{c:Crw}(h:Cok g W c){t f p:Nat}{ds':List (List Nat)}(hp:p<ds'.length)(hl:ds'.flatten.length≤1000){k:Tsk}(hk:c.ts[t]? = some k)(hw:k.wait=0)(hd:c.dn[k.lo]? = some false)
  (hfew:g<k.hi-k.lo→c.ts.length+2≤2000) (ov:Bool) (st idl w fr:Int) :
  cgo (c.ts.map Ai,(g:Int),c.dn,BS ds',ov,st,idl,w,fr,(t:Int),false,(p:Int),()) =
   if g<k.hi-k.lo then some ((c.ts.set t { k with wait:=2 }++([⟨k.lo,A8 k,some t,0⟩,⟨A8 k,k.hi,some t,0⟩]:List Tsk)).map Ai,(g:Int),c.dn,BS (ds'.set p (ds'.getD p []++[c.ts.length+1,c.ts.length])),ov,st,idl,w,fr,(t:Int),true,0,())
   else some ((fin c.ts.length c.ts k.up).1.map Ai,(g:Int),Of c.dn k.lo (k.hi-k.lo),BS ds',ov||(fin c.ts.length c.ts k.up).2,st,idl,w,fr,(t:Int),false,0,()):=by
 have e1:ds'[p]? = some (ds'.getD p []):=by rw[ApZ hp,Jx (ApZ hp)]
 have l1:(ds'.getD p []).length≤1000:=by
  have:=Aq7 List.length (LC e1).1
  simp only[Apd]at this
  omega
 rw[Ak0,Abw]
 have hgr:=XT h.wok hk
 simp only[Mv]at hgr
 simp only[hgr]
 have e0:ieq (0:Int) 0=true:=by rw[Ag];rfl
 by_cases hg:g<k.hi-k.lo
 ·rw[Apk hg]
  have hpt:=AVX h.wok hk hg hw (hfew hg)
  simp only[Mv]at hpt
  have e5:ieq (((ds'.getD p []).length:Nat):Int) (((ds'.getD p []).length:Nat):Int)=true:=by rw[Ag];exact ApX rfl
  have e6:EG (nI (ds'.getD p [])) (0:Int) (((ds'.getD p []).length:Nat):Int)=some (nI (ds'.getD p [])):=by
   have:=AAt (xs:=nI (ds'.getD p [])) (h:=(nI (ds'.getD p [])).length) (Apj _)
   rw[AqF,Bc]at this
   exact this
  simp only[ApX hg,hpt,e0,AW (Gi e1),BJ (Gi e1),AS,Bc,e5,e6,Api,Apt]
  rw[Bj (by omega)]
  simp only[ET,DW]
  have:nI (ds'.getD p [])++[((c.ts.length+1:Nat):Int),(c.ts.length:Int)]=nI (ds'.getD p []++[c.ts.length+1,c.ts.length]):=by unfold nI;rw[AqZ];rfl
  rw[this,AEX]
 ·rw[Apg hg]
  have hdo:=Ag9 h.wok hk hg hw hd
  simp only[Mv]at hdo
  simp only[ApW hg,hdo]
  cases ov<;>rfl
theorem Afv{g W:Nat}{c:Crw}(h:Cok g W c)(x y:Int):
  ATv (Vv g c,x,y,())=some ((stp g c (BP W x) (BP W y)).1.ts.map Ai,(g:Int),(stp g c (BP W x) (BP W y)).1.dn,BS (stp g c (BP W x) (BP W y)).1.ds,(stp g c (BP W x) (BP W y)).1.ov,((stp g c (BP W x) (BP W y)).1.st:Int),((stp g c (BP W x) (BP W y)).1.idl:Int),
   Cn (stp g c (BP W x) (BP W y)).2,0,()):=by
 have hpW:=Nu h.w1 x
 have hvW:=Nu h.w1 y
 have:=h.st;have:=h.idl;have:=h.w;have:=h.short;have:=h.w2
 have hcl:c.ds.length≤8:=by omega
 rw[ATu,Zq]
 have hr:=AZb h
 simp only[Vv,Mv]at hr
 simp only[Vv,Mv,hr,Aph]
 rw[Ag,ApW (show ¬ (c.st:Int)=100000 by omega)]
 simp only[LP (show(BS c.ds).length≤4294967296 by rw[J3];omega),AT6 h.w1 h.w2 h.w]
 rw[AP (by omega)]
 have hf:=fun a0 a1 a2 a4 a5 a6 a7 a8 a9 a10=>AZy (ds:=c.ds) (p:=BP W x) (v:=BP W y) (by omega) (by omega) h.short a0 a1 a2 a4 a5 a6 a7 a8 a9 a10
 simp only[hf]
 cases hfd:found c.ds (BP W x) (BP W y)with
 |none=>
  unfold stp
  simp only[hfd]
  rw[Ag,ApW (show ¬ (c.idl:Int)=100000 by omega),AP (by omega)]
  rfl
 |some q=>
  obtain⟨t,f,ds'⟩:=q
  obtain⟨p1,p2,p3⟩:=AED (by omega) (by omega) hfd
  have htm:t∈c.ds.flatten:=p1.mem_iff.2 (by simp)
  obtain⟨k,hk,hw,hd⟩:=h.act t htm
  have hl':ds'.flatten.length≤1000:=by have:=p1.length_eq;simp only[Api]at this;omega
  have hgo:=Anf h (t:=t) (f:=f) (p:=BP W x) (ds':=ds') (by omega) hl' hk hw hd (fun hg=>by
   rcases h.few with h1|h1
   ·exact h1
   ·exact absurd hg (h1 t htm k hk))
  simp only[hgo]
  have e0:ieq (0:Int) 0=true:=by rw[Ag];rfl
  unfold stp
  simp only[hfd,hk]
  by_cases hg:g<k.hi-k.lo
  ·simp only[Apk hg,e0,Aph]
   rfl
  ·simp only[Apg hg,e0,Aph]
   rfl
end Go.Pev.Pl
end
section
namespace Go.Pev.Pl
theorem FM{σ ρ:Type}{step:σ→Option (σ⊕ρ)}(st:Nat→σ)(N:Nat)(r:ρ)(hN:N<9223372036854775808)(h:∀ i,i<N→step (st i)=some (.inl (st (i+1))))(hr:step (st N)=some (.inr r)):AU step many (st 0)=some r:=by
 have:=Io (step:=step) st (List.range N) (fun _=>false) (fun _=>r) r (by simpa using hN) (fun i x hi _=>by
  simp only[Apo,Apr]
  exact h i (by simpa using hi)) (by simpa using hr)
 simpa using this
theorem AoT{n:Nat}{ts:List Tsk}{dn:List Bool}{A U:List Nat}{D:Nat}(h:Iv n ts dn A U D):pot ts A≤2*n:=by
 have h1:=h.units.length_eq
 rw[Apd,AqA]at h1
 have h2:pot ts A≤2*(A.flatMap (rng ts)).length:=by
  clear h h1
  induction A with
  |nil=>exact ArZ _
  |cons a A ih=>
   have e:pot ts (a::A)=L7 ts a+pot ts A:=by unfold pot;rw[AqE,Ar9]
   rw[e,AqH,Apd]
   have:L7 ts a≤2*(rng ts a).length:=by
    unfold L7 rng
    split
    ·simp only[List.length_range'];omega
    ·omega
   omega
 omega
section
variable {g n W:Nat} {c:Crw} {E:List Evt}
theorem StI.cok(h:StI n W c E)(hg:1≤g)(hg2:g≤100)(hn1:1≤n)(hn2:n≤1000)(hW:1≤W)(hW8:W≤8)(hl:E.length<100000):Cok g W c:=by
 obtain⟨D,iv⟩:=h.iv
 have hb:=iv.bound
 have hs:=iv.size
 have hst:=h.st
 have hidl:=h.idl
 refine⟨⟨hg,hg2,by rw[iv.len];exact hn1,by rw[iv.len];exact hn2,by omega,by omega,fun i t ht => ?_⟩,hW,hW8,h.w,by omega,by omega,iv.tr.nod,fun a ha => ?_,?_,by omega⟩
 ·obtain⟨a1,a2,a3,_,a5⟩:=iv.tr.tree i t ht
  exact⟨a1,by rw[iv.len];exact a2,a3,a5⟩
 ·obtain⟨t,ht,hw⟩:=iv.tr.act a ha
  exact⟨t,ht,hw,iv.AoC ha ht⟩
 ·by_cases hx:∃ a∈c.ds.flatten,∃ t:Tsk,c.ts[a]? = some t∧g<t.hi-t.lo
  ·obtain⟨a,ha,t,ht,hgt⟩:=hx
   left
   obtain⟨l1,l2,e⟩:=AsA ha
   have hp:c.ds.flatten.Perm (a::(l1++l2)):=by rw[e];exact List.perm_middle
   have:=(iv.perm hp).Aoz ht (A8:=t.lo+1) (by omega) (by omega)
   omega
  ·right
   intro a ha t ht hgt
   exact hx ⟨a,ha,t,ht,hgt⟩
theorem AgG(h:Cok g W c):AUO (Vv g c,())=some ((c.ds.flatten.length:Int),()):=by
 have:=h.w;have:=h.w2;have:=h.short
 rw[AUN,Zr]
 have e:=FM (step:=Hy) (fun i=>(((c.ds.take i).flatten.length:Int),BS c.ds,(c.ds.length:Int),(i:Int),())) c.ds.length (.inl ((c.ds.flatten.length:Int),())) (by omega)
  (fun i hi=>by
   rw[Hy,AL,ApX hi]
   have hg:=ApZ hi
   obtain⟨f1,f2⟩:=LC hg
   have hle:=Aq7 List.length f1
   simp only[Apd]at hle
   simp only[AW (Gi hg),AS,Bc]
   rw[wrap_add (by omega),AP (by omega),f2,Apd])
  (by rw[Hy,AL,ApW (by omega),AqF])
 have e':AU Hy many ((0:Int),BS c.ds,(c.ds.length:Int),(0:Int),())=_:=e
 simp only[Vv,AS,J3,e']
theorem AJZ(h:Cok g W c)(hl:E.length<100000)(x y:Int):
  AJa (c.ts.map Ai,(g:Int),c.dn,BS c.ds,c.ov,(c.st:Int),(c.idl:Int),E.map Cn,x,y,()) =
   some ((stp g c (BP W x) (BP W y)).1.ts.map Ai,(g:Int),(stp g c (BP W x) (BP W y)).1.dn,BS (stp g c (BP W x) (BP W y)).1.ds,(stp g c (BP W x) (BP W y)).1.ov,((stp g c (BP W x) (BP W y)).1.st:Int),((stp g c (BP W x) (BP W y)).1.idl:Int),
    (E++[(stp g c (BP W x) (BP W y)).2]).map Cn,0,()):=by
 rw[ATe,Zn]
 have hc:=Afv h x y
 simp only[Vv,Mv]at hc
 simp only[hc]
 have e0:ieq (0:Int) 0=true:=by rw[Ag];rfl
 simp only[e0,AS,Ap1,Api,Apt]
 rw[Bj (by omega)]
 simp only[ET,AqZ]
 rfl
end
theorem AeC{W p:Nat}(h:p<W):BP W (p:Int)=p:=by
 unfold BP
 have h1:((p:Nat):Int).tmod (W:Int)=p:=Int.tmod_eq_of_lt (by omega) (by omega)
 rw[h1]
 have h2:((p:Int)+W).tmod W=p:=by
  rw[show(p:Int)+W=((p+W:Nat):Int) by omega,← Int.ofNat_tmod]
  rw[Nat.add_mod_right,ArN h]
 rw[h2];rfl
theorem AjK{W p:Nat}(hW:1≤W):BP W (p:Int)=p % W:=by
 unfold BP
 rw[← Int.ofNat_tmod]
 have:=AsC p (show 0<W by omega)
 rw[show((p % W:Nat):Int)+W=((p % W+W:Nat):Int) by omega,← Int.ofNat_tmod,Nat.add_mod_right,Nat.mod_mod]
 rfl
section
variable {g n W:Nat} {s:Crw×List Evt}
theorem Ac3{t:Nat}(h:(Am g W s t).1.ov=false):Am g W s (t+1)=((stp g (Am g W s t).1 (t % W) ((t % W+1+t/W) % W)).1,(Am g W s t).2++[(stp g (Am g W s t).1 (t % W) ((t % W+1+t/W) % W)).2]):=by
 rw[Am]
 simp only[h]
 rfl
theorem Ac2(hg:1≤g)(hW:0<W)(h:StI n W s.1 s.2):∃ T,T≤(2*n+1)*W∧(Am g W s T).1.ov=true∧∀ t,t<T→(Am g W s t).1.ov=false:=by
 obtain⟨D,iv⟩:=h.iv
 have h1:=Ac4 hg hW h
 have h2:=AoT iv
 generalize hb:(pot s.1.ts s.1.ds.flatten+1)*W=b at h1
 have hbl:b≤(2*n+1)*W:=by rw[← hb];exact AqO _ (by omega)
 clear hb
 have main:∀ k,k≤b→(∃ T,T≤b∧(Am g W s T).1.ov=true∧∀ t,t<T→(Am g W s t).1.ov=false)∨∀ t,t<k→(Am g W s t).1.ov=false:=by
  intro k
  induction k with
  |zero=>intro _;exact .inr fun t ht=>absurd ht (by omega)
  |succ k ih=>
   intro hk
   rcases ih (by omega)with h|h
   ·exact .inl h
   ·cases hx:(Am g W s k).1.ov with
    |true=>exact .inl ⟨k,by omega,hx,h⟩
    |false=>
     right
     intro t ht
     by_cases ht':t=k
     ·rw[ht'];exact hx
     ·exact h t (by omega)
 rcases main b (Apj _)with⟨T,h3,h4,h5⟩|h3
 ·exact⟨T,by omega,h4,h5⟩
 ·exact⟨b,hbl,h1,h3⟩
theorem ATf(hg:1≤g)(hg2:g≤100)(hn1:1≤n)(hn2:n≤1000)(hW:1≤W)(hW8:W≤8)(h:StI n W s.1 s.2)(hl:s.2.length≤4000):
  ∃ s':Crw×List Evt,StI n W s'.1 s'.2∧s'.1.ov=true∧s'.2.length≤40000∧Rr (s.1.ts.map Ai,(g:Int),s.1.dn,BS s.1.ds,s.1.ov,(s.1.st:Int),(s.1.idl:Int),s.2.map Cn,())=some (s'.1.ts.map Ai,(g:Int),s'.1.dn,BS s'.1.ds,s'.1.ov,(s'.1.st:Int),(s'.1.idl:Int),s'.2.map Cn,0,()):=by
 obtain⟨T,hT,hov,hnot⟩:=Ac2 hg (by omega) h
 have hT':T≤17000:=by
  have:(2*n+1)*W≤2001*8:=ArF (by omega) hW8
  omega
 obtain⟨hS,hSl⟩:=ZZ hg (by omega) h T
 refine⟨Am g W s T,hS,hov,by omega,?_⟩
 have hok:∀ t,t≤T→StI n W (Am g W s t).1 (Am g W s t).2∧(Am g W s t).2.length<100000:=fun t ht=>by
  obtain⟨a,b⟩:=ZZ hg (by omega) h t
  exact⟨a,by omega⟩
 have hcok:∀ t,t≤T→Cok g W (Am g W s t).1:=fun t ht=>(hok t ht).1.cok hg hg2 hn1 hn2 hW hW8 (hok t ht).2
 have hne:∀ t,t<T→¬ (Am g W s t).1.ds.flatten.length=0:=fun t ht h0=>by
  have:=(hok t (by omega)).1.ov
  rw[hnot t ht,Ap0 h0]at this
  cases this
 have step1:∀ r j:Nat,j<W→r*W+j<T→CK ((Am g W s (r*W+j)).1.ts.map Ai,(g:Int),(Am g W s (r*W+j)).1.dn,BS (Am g W s (r*W+j)).1.ds,(Am g W s (r*W+j)).1.ov,((Am g W s (r*W+j)).1.st:Int),((Am g W s (r*W+j)).1.idl:Int),(Am g W s (r*W+j)).2.map Cn,(r:Int),(W:Int),(j:Int),()) =
   some (.inl ((Am g W s (r*W+(j+1))).1.ts.map Ai,(g:Int),(Am g W s (r*W+(j+1))).1.dn,BS (Am g W s (r*W+(j+1))).1.ds,(Am g W s (r*W+(j+1))).1.ov,((Am g W s (r*W+(j+1))).1.st:Int),((Am g W s (r*W+(j+1))).1.idl:Int),(Am g W s (r*W+(j+1))).2.map Cn,(r:Int),(W:Int),((j+1:Nat):Int),())):=by
  intro r j hj hlt
  have hrW:r≤r*W:=Ash _ (by omega)
  unfold CK
  dsimp only
  rw[AL,ApX hj]
  have h1:=hnot _ hlt
  have hc:=hcok _ (AsO hlt)
  have hl:=(hok _ (AsO hlt)).2
  have hst:=Ac3 h1
  have hh:=AgG hc
  have hn0:=hne _ hlt
  have hd:=AJZ hc hl
  rw[Arb]at hst
  rw[hst]
  generalize Am g W s (r*W+j)=S at h1 hc hl hh hn0 hd
  simp only[Vv,Mv,h1]at hh
  simp only[h1]at hd
  simp only[h1,hh]
  rw[Ag,ApW (by omega)]
  rw[AP (by omega),wrap_add (by omega)]
  simp only[hd]
  rw[Ag,ApX rfl]
  simp only[Aph]
  rw[AeC hj,AjK hW]
  have e1:(r*W+j) % W=j:=by rw[Nat.mul_comm,Nat.mul_add_mod,ArN hj]
  have e2:(r*W+j)/W=r:=by rw[Nat.mul_comm,Nat.mul_add_div (by omega),Nat.div_eq_of_lt hj];omega
  rw[e1,e2]
 have round:∀ r:Nat,(r+1)*W≤T→Cx ((Am g W s (r*W)).1.ts.map Ai,(g:Int),(Am g W s (r*W)).1.dn,BS (Am g W s (r*W)).1.ds,(Am g W s (r*W)).1.ov,((Am g W s (r*W)).1.st:Int),((Am g W s (r*W)).1.idl:Int),(Am g W s (r*W)).2.map Cn,(r:Int),()) =
   some (.inl ((Am g W s ((r+1)*W)).1.ts.map Ai,(g:Int),(Am g W s ((r+1)*W)).1.dn,BS (Am g W s ((r+1)*W)).1.ds,(Am g W s ((r+1)*W)).1.ov,((Am g W s ((r+1)*W)).1.st:Int),((Am g W s ((r+1)*W)).1.idl:Int),(Am g W s ((r+1)*W)).2.map Cn,((r+1:Nat):Int),())):=by
  intro r hr
  have hrW:r≤r*W:=Ash _ (by omega)
  rw[AsP]at hr
  rw[Cx]
  have hw:(BS (Am g W s (r*W)).1.ds).length=W:=by rw[J3];exact(hcok (r*W) (by omega)).w
  have e:=FM (step:=CK) (fun j=>((Am g W s (r*W+j)).1.ts.map Ai,(g:Int),(Am g W s (r*W+j)).1.dn,BS (Am g W s (r*W+j)).1.ds,(Am g W s (r*W+j)).1.ov,((Am g W s (r*W+j)).1.st:Int),((Am g W s (r*W+j)).1.idl:Int),(Am g W s (r*W+j)).2.map Cn,(r:Int),(W:Int),(j:Int),())) W
   (.inr (.inl ((Am g W s (r*W+W)).1.ts.map Ai,(g:Int),(Am g W s (r*W+W)).1.dn,BS (Am g W s (r*W+W)).1.ds,(Am g W s (r*W+W)).1.ov,((Am g W s (r*W+W)).1.st:Int),((Am g W s (r*W+W)).1.idl:Int),(Am g W s (r*W+W)).2.map Cn,(r:Int),()))) (by omega)
   (fun j hj=>step1 r j hj (by omega)) (by unfold CK;dsimp only;rw[AL,ApW (by omega)])
  simp only[Aqz]at e
  have e':AU CK many ((Am g W s (r*W)).1.ts.map Ai,(g:Int),(Am g W s (r*W)).1.dn,BS (Am g W s (r*W)).1.ds,(Am g W s (r*W)).1.ov,((Am g W s (r*W)).1.st:Int),((Am g W s (r*W)).1.idl:Int),(Am g W s (r*W)).2.map Cn,(r:Int),(W:Int),(0:Int),())=_:=e
  simp only[AS,hw,e']
  rw[AP (by omega),AsP]
 have last:Cx ((Am g W s (T/W*W)).1.ts.map Ai,(g:Int),(Am g W s (T/W*W)).1.dn,BS (Am g W s (T/W*W)).1.ds,(Am g W s (T/W*W)).1.ov,((Am g W s (T/W*W)).1.st:Int),((Am g W s (T/W*W)).1.idl:Int),(Am g W s (T/W*W)).2.map Cn,((T/W:Nat):Int),()) =
   some (.inr (.inl ((Am g W s T).1.ts.map Ai,(g:Int),(Am g W s T).1.dn,BS (Am g W s T).1.ds,(Am g W s T).1.ov,((Am g W s T).1.st:Int),((Am g W s T).1.idl:Int),(Am g W s T).2.map Cn,(0:Int),()))):=by
  have hdm:T/W*W+T % W=T:=by rw[Nat.mul_comm];exact Nat.div_add_mod T W
  have hm:=AsC T (show 0<W by omega)
  rw[Cx]
  have hw:(BS (Am g W s (T/W*W)).1.ds).length=W:=by rw[J3];exact(hcok (T/W*W) (by omega)).w
  have e:=FM (step:=CK) (fun j=>((Am g W s (T/W*W+j)).1.ts.map Ai,(g:Int),(Am g W s (T/W*W+j)).1.dn,BS (Am g W s (T/W*W+j)).1.ds,(Am g W s (T/W*W+j)).1.ov,((Am g W s (T/W*W+j)).1.st:Int),((Am g W s (T/W*W+j)).1.idl:Int),(Am g W s (T/W*W+j)).2.map Cn,((T/W:Nat):Int),(W:Int),(j:Int),())) (T % W)
   (.inl ((Am g W s T).1.ts.map Ai,(g:Int),(Am g W s T).1.dn,BS (Am g W s T).1.ds,(Am g W s T).1.ov,((Am g W s T).1.st:Int),((Am g W s T).1.idl:Int),(Am g W s T).2.map Cn,(0:Int),())) (by omega)
   (fun j hj=>step1 (T/W) j (by omega) (by omega)) (by unfold CK;dsimp only;rw[hdm,AL,ApX hm,hov])
  simp only[Aqz]at e
  have e':AU CK many ((Am g W s (T/W*W)).1.ts.map Ai,(g:Int),(Am g W s (T/W*W)).1.dn,BS (Am g W s (T/W*W)).1.ds,(Am g W s (T/W*W)).1.ov,((Am g W s (T/W*W)).1.st:Int),((Am g W s (T/W*W)).1.idl:Int),(Am g W s (T/W*W)).2.map Cn,((T/W:Nat):Int),(W:Int),(0:Int),())=_:=e
  simp only[AS,hw,e']
 rw[AEj,N5]
 have e:=FM (step:=Cx) (fun r=>((Am g W s (r*W)).1.ts.map Ai,(g:Int),(Am g W s (r*W)).1.dn,BS (Am g W s (r*W)).1.ds,(Am g W s (r*W)).1.ov,((Am g W s (r*W)).1.st:Int),((Am g W s (r*W)).1.idl:Int),(Am g W s (r*W)).2.map Cn,(r:Int),())) (T/W) _ (by
   have:=Nat.div_le_self T W
   omega)
  (fun r hr=>round r (AqY (AqO _ hr) (Nat.div_mul_le_self T W))) last
 rw[Arj]at e
 have e':AU Cx many ((Am g W s 0).1.ts.map Ai,(g:Int),(Am g W s 0).1.dn,BS (Am g W s 0).1.ds,(Am g W s 0).1.ov,((Am g W s 0).1.st:Int),((Am g W s 0).1.idl:Int),(Am g W s 0).2.map Cn,(0:Int),())=_:=e
 simp only[Am]at e'
 simp only[e']
end
end Go.Pev.Pl
end
section
namespace Go.Pev.Pl
def cr0(n W:Nat):Crw:=⟨[⟨0,n,none,0⟩],List.replicate n false,[0]::List.replicate (W-1) [],false,0,0⟩
theorem AfL(k:Nat):([0]::List.replicate k ([]:List Nat)).flatten=[0]:=by
 rw[Aq3]
 have:(List.replicate k ([]:List Nat)).flatten=[]:=by
  induction k with
  |zero=>rfl
  |succ k ih=>rw[Ar3,Aq3,ih];rfl
 rw[this];rfl
theorem ApM{n W:Nat}(hn:1≤n)(hW:1≤W):StI n W (cr0 n W) []:=by
 have hf:(cr0 n W).ds.flatten=[0]:=AfL _
 have get:∀ {i:Nat} {t:Tsk},(cr0 n W).ts[i]? = some t→i=0∧t=⟨0,n,none,0⟩:=by
  intro i t h
  have h':([⟨0,n,none,0⟩]:List Tsk)[i]? = some t:=h
  cases i with
  |zero=>simp at h';exact⟨rfl,h'.symm⟩
  |succ i=>simp at h'
 refine⟨⟨0,?_⟩,?_,?_,?_,rfl,ArZ _⟩
 ·rw[hf]
  refine⟨by simp[cr0],⟨fun i t ht => ?_,by simp,fun a ha => ?_,fun a ha j t ht => ?_,fun i t ht => ?_⟩,?_,fun u hu => ?_,rfl,ArZ _⟩
  ·obtain⟨rfl,rfl⟩:=get ht
   exact⟨hn,Apj _,by simp,fun _=>rfl,fun x h=>by cases h⟩
  ·simp at ha;subst ha
   exact⟨_,rfl,rfl⟩
  ·obtain⟨rfl,rfl⟩:=get ht
   intro h;cases h
  ·obtain⟨rfl,rfl⟩:=get ht
   have:kids (cr0 n W).ts [0] 0=0:=by
    rcases AqW (kids (cr0 n W).ts [0] 0)with h|h
    ·exact h
    ·obtain⟨j,t,h1,h2,_⟩:=Mm.1 h
     obtain⟨_,rfl⟩:=get h1
     cases h2
   rw[this];rfl
  ·have:([0]:List Nat).flatMap (rng (cr0 n W).ts)=List.range n:=by
    simp[rng,cr0,List.range_eq_range']
   rw[this]
   simp[evU]
  ·have:(cr0 n W).dn[u]? = some false:=by
    show(List.replicate n false)[u]? = _
    rw[Asj,Apk hu]
   rw[this];simp[evU]
 ·rw[hf];rfl
 ·simp[cr0];omega
 ·intro e he;cases he
theorem AfN{n:Nat}(h:n≤4294967296):CM (n:Int)=true:=(N4 _).2 (by omega)
theorem D2{n:Nat}(h:n≤4294967296):(CM (n:Int)&&CM (n:Int)&&ile (n:Int) (n:Int)&&true)=true:=by
 rw[AfN h,An,ApX (Asp _)];rfl
theorem E8{α:Type}(n:Nat)(x:α):D4 (AN (n:Int)) x=List.replicate n x:=by rw[AEm];rfl
theorem AP6{g n:Nat}(hg:1≤g)(hg2:g≤100)(hn:1≤n)(hn2:n≤1000):Qp ((n:Int),(g:Int),())=some ((cr0 n 1).ts.map Ai,(g:Int),List.replicate n false,0,()):=by
 rw[AAs,Nk]
 simp only[Oa,ApX (show 1≤(n:Int)∧(n:Int)≤1000∧1≤(g:Int)∧(g:Int)≤100 by omega),Aph,D2 (show n≤4294967296 by omega),E8]
 rfl
theorem AZ2{g n W:Nat}(hg:1≤g)(hg2:g≤100)(hn:1≤n)(hn2:n≤1000)(hW:1≤W)(hW8:W≤8):
  AFZ ((n:Int),(g:Int),(W:Int),())=some ((cr0 n W).ts.map Ai,(g:Int),(cr0 n W).dn,BS (cr0 n W).ds,false,0,0,0,()):=by
 rw[AJq,SC]
 have e0:ieq (0:Int) 0=true:=by rw[Ag];rfl
 have h1:ilt (W:Int) 1=false:=by rw[Ae];exact ApW (by omega)
 have h2:ilt 8 (W:Int)=false:=by rw[Ae];exact ApW (by omega)
 obtain⟨k,rfl⟩:∃ k,W=k+1:=⟨W-1,by omega⟩
 have h3:idx (List.replicate (k+1) ()) (0:Int)=some ():=by rw[Ju];rfl
 simp only[h1,h2,AP6 hg hg2 hn hn2,e0,Aph,D2 (show k+1≤4294967296 by omega),E8,h3]
 rw[Bj (by decide)]
 simp only[AqP]
 have:Az (D4 (k+1) ([]:List Int)) 0 [(0:Int)]=BS (cr0 n (k+1)).ds:=by
  show(List.replicate (k+1) ([]:List Int)).set 0 [0]=BS ([0]::List.replicate k [])
  rw[Ar3,List.set_cons_zero]
  unfold BS
  rw[AqE,List.map_replicate]
  rfl
 rw[this]
 rfl
def pkS(g W:Nat):List (List Int)→Crw×List Evt→Crw×List Evt
 |[],s=>s
 |x::l,s=>if s.1.ov then s else pkS g W l ((stp g s.1 (BP W (AY x 0 0)) (BP W (AY x 1 0))).1,s.2++[(stp g s.1 (BP W (AY x 0 0)) (BP W (AY x 1 0))).2])
theorem AoU{g n W:Nat}(hg:1≤g)(hW:1≤W):∀ (l:List (List Int)) (s:Crw×List Evt),StI n W s.1 s.2→StI n W (pkS g W l s).1 (pkS g W l s).2∧(pkS g W l s).2.length≤s.2.length+l.length:=by
 intro l
 induction l with
 |nil=>intro s h;exact⟨h,by simp[pkS]⟩
 |cons x l ih=>
  intro s h
  rw[pkS]
  split
  ·exact⟨h,by omega⟩
  ·have:=ih ((stp g s.1 (BP W (AY x 0 0)) (BP W (AY x 1 0))).1,s.2++[(stp g s.1 (BP W (AY x 0 0)) (BP W (AY x 1 0))).2]) (AK7 hg h (Nu hW (AY x 0 0)) (Nu hW (AY x 1 0))).1
   refine⟨this.1,?_⟩
   have:=this.2
   simp only[Apd,Api,Apt]at this ⊢
   omega
theorem AY8{g n W:Nat}(hg:1≤g)(hg2:g≤100)(hn:1≤n)(hn2:n≤1000)(hW:1≤W)(hW8:W≤8){picks:List (List Int)}(hp:picks.length≤4000):
  ∃ s':Crw×List Evt,StI n W s'.1 s'.2∧s'.1.ov=true∧s'.2.length≤40000∧AEe ((n:Int),(g:Int),(W:Int),picks,())=some (Vv g s'.1,s'.2.map Cn,0,()):=by
 have h0:=ApM (n:=n) (W:=W) hn hW
 obtain⟨p1,p2⟩:=AoU hg hW picks (cr0 n W,[]) h0
 obtain⟨s',q1,q2,q3,q4⟩:=ATf hg hg2 hn hn2 hW hW8 p1 (by simpa using AqY p2 (by simpa using hp))
 refine⟨s',q1,q2,q3,?_⟩
 rw[AJY,Rq]
 have e0:ieq (0:Int) 0=true:=by rw[Ag];rfl
 have e:=Es (step:=Ei) (fun i (s:Crw×List Evt)=>((0:Int),false,(0:Int),(0:Int),s.1.ts.map Ai,(g:Int),s.1.dn,BS s.1.ds,s.1.ov,(s.1.st:Int),(s.1.idl:Int),s.2.map Cn,picks,(picks.length:Int),(i:Int),())) picks
  (fun x s=>if s.1.ov then .inr (.inl ((0:Int),false,(0:Int),(0:Int),s.1.ts.map Ai,(g:Int),s.1.dn,BS s.1.ds,s.1.ov,(s.1.st:Int),(s.1.idl:Int),s.2.map Cn,()))else .inl ((stp g s.1 (BP W (AY x 0 0)) (BP W (AY x 1 0))).1,s.2++[(stp g s.1 (BP W (AY x 0 0)) (BP W (AY x 1 0))).2]))
  (fun s=>.inl ((0:Int),false,(0:Int),(0:Int),s.1.ts.map Ai,(g:Int),s.1.dn,BS s.1.ds,s.1.ov,(s.1.st:Int),(s.1.idl:Int),s.2.map Cn,()))
  (fun i s=>StI n W s.1 s.2∧s.2.length≤i) (by omega)
  (fun i x s hi hx hI=>by
   have hstep:Ei ((0:Int),false,(0:Int),(0:Int),s.1.ts.map Ai,(g:Int),s.1.dn,BS s.1.ds,s.1.ov,(s.1.st:Int),(s.1.idl:Int),s.2.map Cn,picks,(picks.length:Int),(i:Int),())=match s.1.ov with
     |true=>some (.inr (.inl ((0:Int),false,(0:Int),(0:Int),s.1.ts.map Ai,(g:Int),s.1.dn,BS s.1.ds,s.1.ov,(s.1.st:Int),(s.1.idl:Int),s.2.map Cn,())))
     |false=>some (.inl ((0:Int),false,(0:Int),(0:Int),(stp g s.1 (BP W (AY x 0 0)) (BP W (AY x 1 0))).1.ts.map Ai,(g:Int),(stp g s.1 (BP W (AY x 0 0)) (BP W (AY x 1 0))).1.dn,BS (stp g s.1 (BP W (AY x 0 0)) (BP W (AY x 1 0))).1.ds,(stp g s.1 (BP W (AY x 0 0)) (BP W (AY x 1 0))).1.ov,((stp g s.1 (BP W (AY x 0 0)) (BP W (AY x 1 0))).1.st:Int),((stp g s.1 (BP W (AY x 0 0)) (BP W (AY x 1 0))).1.idl:Int),(s.2++[(stp g s.1 (BP W (AY x 0 0)) (BP W (AY x 1 0))).2]).map Cn,picks,(picks.length:Int),((i+1:Nat):Int),())):=by
    unfold Ei
    dsimp only
    have hd:=AJZ (hI.1.cok hg hg2 hn hn2 hW hW8 (by omega)) (E:=s.2) (by omega) (AY x 0 0) (AY x 1 0)
    cases hov:s.1.ov with
    |true=>simp only[AL,ApX hi,AW hx]
    |false=>
     rw[hov]at hd
     simp only[AL,ApX hi,AW hx,hd,e0,Aph]
     rw[AP (by omega)]
   rw[hstep]
   cases hov:s.1.ov with
   |true=>
    refine⟨fun a' ha=>by simp at ha,fun r hr => ?_⟩
    simp only[AqI,Sum.inr.injEq]at hr
    rw[← hr]
   |false=>
    refine⟨fun a' ha => ?_,fun r hr=>by simp at hr⟩
    simp only[Apo,Apr,Sum.inl.injEq]at ha
    subst ha
    refine⟨rfl,(AK7 hg hI.1 (Nu hW (AY x 0 0)) (Nu hW (AY x 1 0))).1,?_⟩
    simp only[Apd,Api,Apt]
    have:=hI.2
    omega)
  (fun s _=>by
   unfold Ei
   dsimp only
   rw[AL,ApW (by omega)])
  (cr0 n W,[]) ⟨h0,Apj _⟩
 have hw:∀ (l:List (List Int)) (s:Crw×List Evt),walk (ρ:=((Int×Bool×Int×Int×List TkI×Int×List Bool×List (List Int)×Bool×Int×Int×List EvI×Unit)⊕(List TkI×Int×List Bool×List (List Int)×Bool×Int×Int×List EvI×Int×Unit)⊕Unit)) (fun x s=>if s.1.ov then .inr (.inl ((0:Int),false,(0:Int),(0:Int),s.1.ts.map Ai,(g:Int),s.1.dn,BS s.1.ds,s.1.ov,(s.1.st:Int),(s.1.idl:Int),s.2.map Cn,()))else .inl ((stp g s.1 (BP W (AY x 0 0)) (BP W (AY x 1 0))).1,s.2++[(stp g s.1 (BP W (AY x 0 0)) (BP W (AY x 1 0))).2]))
  (fun s=>.inl ((0:Int),false,(0:Int),(0:Int),s.1.ts.map Ai,(g:Int),s.1.dn,BS s.1.ds,s.1.ov,(s.1.st:Int),(s.1.idl:Int),s.2.map Cn,())) l s =
   .inl ((0:Int),false,(0:Int),(0:Int),(pkS g W l s).1.ts.map Ai,(g:Int),(pkS g W l s).1.dn,BS (pkS g W l s).1.ds,(pkS g W l s).1.ov,((pkS g W l s).1.st:Int),((pkS g W l s).1.idl:Int),(pkS g W l s).2.map Cn,()):=by
  intro l
  induction l with
  |nil=>intro s;rfl
  |cons x l ih=>
   intro s
   rw[walk,pkS]
   cases hov:s.1.ov with
   |true=>simp only[AqI,hov]
   |false=>
    simp only[Apo,Apr]
    exact ih _
 rw[hw]at e
 have e':AU Ei many ((0:Int),false,(0:Int),(0:Int),(cr0 n W).ts.map Ai,(g:Int),(cr0 n W).dn,BS (cr0 n W).ds,false,(0:Int),(0:Int),([]:List EvI),picks,(picks.length:Int),(0:Int),())=_:=e
 simp only[AZ2 hg hg2 hn hn2 hW hW8,e0,Aph,AS,e',q4]
 rfl
def HX(ts:List Tsk)(e:Evt):Option (Nat×Nat):=match e.ft with
 |some (_,t)=>if e.pt then none else ts[t]?.map fun k=>(k.lo,k.hi)
 |none=>none
def ATZ(p:Nat×Nat):Int×Int×Unit:=((p.1:Int),(p.2:Int),())
theorem ATj{g n W:Nat}{s:Crw×List Evt}(h:StI n W s.1 s.2)(hl:s.2.length≤40000):Ru (Vv g s.1,s.2.map Cn,())=some ((s.2.filterMap (HX s.1.ts)).map ATZ,()):=by
 rw[AEp,N6]
 have e:=FM (step:=EP) (fun i=>(s.1.ts.map Ai,(g:Int),s.1.dn,BS s.1.ds,s.1.ov,(s.1.st:Int),(s.1.idl:Int),((s.2.take i).filterMap (HX s.1.ts)).map ATZ,s.2.map Cn,(s.2.length:Int),(i:Int),())) s.2.length (.inl ((s.2.filterMap (HX s.1.ts)).map ATZ,())) (by omega)
  (fun i hi=>by
   unfold EP
   dsimp only
   have hg0:=ApZ hi
   have hev:=h.ev s.2[i] (ArQ hi)
   have htk:s.2.take (i+1)=s.2.take i++[s.2[i]]:=by rw[Arv,hg0];rfl
   have hln:((s.2.take i).filterMap (HX s.1.ts)).length≤40000:=by
    have:=List.length_filterMap_le (HX s.1.ts) (s.2.take i)
    rw[Aps]at this
    omega
   rw[htk,List.filterMap_append,AqZ]
   have hix:idx (s.2.map Cn) (i:Int)=some (Cn s.2[i]):=AW (by rw[Ap7,hg0];rfl)
   simp only[AL,ApX hi,hix]
   generalize s.2[i]=x at hev hix
   obtain⟨w,ft,pt⟩:=x
   rw[AP (by omega)]
   cases pt with
   |true=>
    have:HX s.1.ts ⟨w,ft,true⟩=none:=by unfold HX;cases ft<;>rfl
    simp only[Cn,Ar6,this,List.filterMap_nil,ArM,Aqn]
   |false=>
    cases ft with
    |none=>
     have:HX s.1.ts ⟨w,none,false⟩=none:=rfl
     simp only[Cn,Ar6,this,List.filterMap_nil,ArM,Aqn]
     rw[Ae,ApX (by decide)]
    |some q=>
     obtain⟨f,t⟩:=q
     have ht:=hev f t rfl
     obtain⟨k,hk⟩:∃ k,s.1.ts[t]? = some k:=⟨_,ApZ ht⟩
     have:HX s.1.ts ⟨w,some (f,t),false⟩=some (k.lo,k.hi):=by
      show(if false=true then none else s.1.ts[t]?.map _)=_
      rw[hk];rfl
     simp only[Cn,Ar6,this,List.filterMap_nil]
     rw[Ae,ApW (by omega),AS,Ap1,DF,ApW (by omega),AW (E6 hk),AS,Ap1]
     simp only[AS,Api,Apt]
     rw[Bj (by omega)]
     simp only[ET]
     rfl)
  (by unfold EP;dsimp only;rw[AL,ApW (by omega),AqF])
 have e':AU EP many (s.1.ts.map Ai,(g:Int),s.1.dn,BS s.1.ds,s.1.ov,(s.1.st:Int),(s.1.idl:Int),([]:List (Int×Int×Unit)),s.2.map Cn,(s.2.length:Int),(0:Int),())=_:=e
 simp only[Vv,Mv,AS,Ap1,e']
def Od(p:Nat×Nat):List Nat:=List.range' p.1 (p.2-p.1)
theorem AVx(ts:List Tsk)(E:List Evt):(E.filterMap (HX ts)).flatMap Od=evU ts E:=by
 induction E with
 |nil=>rfl
 |cons e E ih=>
  have:evU ts (e::E)=evU ts [e]++evU ts E:=by rw[← Zl];rfl
  rw[this,← ih]
  obtain⟨w,ft,pt⟩:=e
  cases ft with
  |none=>rw[Ar6];simp[HX,evU]
  |some q=>
   obtain⟨f,t⟩:=q
   rw[Ar6]
   cases pt with
   |true=>simp[HX,evU]
   |false=>
    simp only[HX,evU,Apo,Apr,AqH,List.flatMap_nil,Aqn,rng]
    cases ts[t]? with
    |none=>rfl
    |some k=>simp[Od]
theorem AHR(a0:List EvI)(acc:List Int)(lo hi:Nat)(a4:List (Int×Int×Unit))(a5 a6:Int)(h1:lo≤hi)(h2:hi≤1000)(hacc:acc.length≤1000000):
  AU Fy many (a0,acc,(lo:Int),(hi:Int),a4,a5,a6,((hi-lo:Nat):Int),(0:Int),())=some (.inl (a0,acc++nI (List.range' lo (hi-lo)),a4,a5,a6,())):=by
 have e:=FM (step:=Fy) (fun i=>(a0,acc++nI (List.range' lo i),(lo:Int),(hi:Int),a4,a5,a6,((hi-lo:Nat):Int),(i:Int),())) (hi-lo) (.inl (a0,acc++nI (List.range' lo (hi-lo)),a4,a5,a6,())) (by omega)
  (fun i hi'=>by
   unfold Fy
   dsimp only
   rw[AL,ApX hi',wrap_add (by omega),AP (by omega),AS,AS]
   simp only[Apd,Bc,List.length_range',Api,Apt]
   rw[Bj (by omega)]
   simp only[ET,AqD]
   rw[List.range'_concat]
   unfold nI
   rw[AqZ]
   simp)
  (by unfold Fy;dsimp only;rw[AL,ApW (by omega)])
 have:acc++nI (List.range' lo 0)=acc:=by simp[nI]
 rw[this]at e
 exact e
theorem P5(a b:Int)(picks:List (List Int)):AEC ((a,b,picks,()),())=some (decide (1≤a∧a≤100∧1≤b∧b≤8∧picks.length≤4000),()):=by
 rw[AJJ,Rh]
 simp only[An,AS]
 by_cases h1:1≤a
 ·by_cases h2:a≤100
  ·by_cases h3:1≤b
   ·by_cases h4:b≤8
    ·have:decide ((picks.length:Int)≤4000)=decide (picks.length≤4000):=by rw[Aqs];omega
     simp[h1,h2,h3,h4,this]
    ·simp[h1,h2,h3,h4]
   ·simp[h1,h2,h3]
  ·simp[h1,h2]
 ·simp[h1]
def G1(p:Int×Int×List (List Int)×Unit):Prop:=1≤p.1∧p.1≤100∧1≤p.2.1∧p.2.1≤8∧p.2.2.1.length≤4000
instance (p:Int×Int×List (List Int)×Unit):Decidable (G1 p):=by unfold G1;exact inferInstance
theorem AYu{n:Int}{p:Int×Int×List (List Int)×Unit}(h:¬ (0≤n∧n≤1000∧G1 p)):CO (n,p,())=some ([],0,1,()):=by
 rw[N3,Jz]
 by_cases h1:n<0
 ·rw[Ae,ApX h1]
 ·rw[Ae,ApW h1]
  by_cases h2:1000<n
  ·rw[Ae,ApX h2]
  ·rw[Ae,ApW h2]
   have h3:¬ G1 p:=fun hp=>h ⟨by omega,by omega,hp⟩
   simp only[P5]
   rw[ApW (by unfold G1 at h3;exact h3)]
   simp only[Ap8]
theorem Mr{p:Int×Int×List (List Int)×Unit}(hp:G1 p):CO ((0:Int),p,())=some ([],0,0,()):=by
 rw[N3,Jz]
 rw[Ae,ApW (by decide),Ae,ApW (by decide)]
 simp only[P5]
 rw[ApX (by unfold G1 at hp;exact hp),Ag,ApX rfl]
 simp only[Aph]
theorem AYs{n:Nat}(hn:1≤n)(hn2:n≤1000){p:Int×Int×List (List Int)×Unit}(hp:G1 p):∃ (U:List Nat) (k:Nat),U.Perm (List.range n)∧1≤k∧k≤40000∧CO ((n:Int),p,())=some (nI U,(k:Int),0,()):=by
 obtain⟨a,b,picks,u⟩:=p
 obtain⟨p1,p2,p3,p4,p5⟩:=hp
 simp only at p1 p2 p3 p4 p5
 obtain⟨g,rfl⟩:=Apl (show 0≤a by omega)
 obtain⟨W,rfl⟩:=Apl (show 0≤b by omega)
 obtain⟨s,h1,h2,h3,h4⟩:=AY8 (g:=g) (n:=n) (W:=W) (by omega) (by omega) hn hn2 (by omega) (by omega) p5
 have hU:=h1.done h2
 have hlen:=hU.length_eq
 rw[AqA]at hlen
 refine⟨evU s.1.ts s.2,s.2.length,hU,?_,h3,?_⟩
 ·rcases AqW s.2.length with h0|h0
  ·rw[Ap0 h0]at hlen
   simp[evU]at hlen
   omega
  ·exact h0
 rw[N3,Jz]
 rw[Ae,ApW (by omega),Ae,ApW (by omega)]
 have e0:ieq (0:Int) 0=true:=by rw[Ag];rfl
 have hlv:=ATj (g:=g) h1 h3
 simp only[Vv,Mv]at hlv h4
 simp only[P5,ApX (show 1≤(g:Int)∧(g:Int)≤100∧1≤(W:Int)∧(W:Int)≤8∧picks.length≤4000 by omega),Aph]
 rw[Ag,ApW (by omega)]
 simp only[h4,e0,Aph,hlv]
 generalize hS:s.2.filterMap (HX s.1.ts)=S
 have hfl:S.flatMap Od=evU s.1.ts s.2:=by rw[← hS];exact AVx _ _
 have hSl:S.length≤40000:=by
  rw[← hS]
  exact AqY (List.length_filterMap_le _ _) h3
 have hsp:∀ q∈S,q.1≤q.2∧q.2≤1000:=by
  intro q hq
  rw[← hS,List.mem_filterMap]at hq
  obtain⟨e,he,hq⟩:=hq
  obtain⟨D,iv⟩:=h1.iv
  unfold HX at hq
  split at hq
  ·rename_i f t hft
   split at hq
   ·cases hq
   ·cases hk:s.1.ts[t]? with
    |none=>rw[hk]at hq;cases hq
    |some k=>
     rw[hk]at hq
     simp only[Arq,ApY]at hq
     subst hq
     have:=iv.tr.tree t k hk
     exact⟨by simp only;omega,by simp only;omega⟩
  ·cases hq
 have hpre:∀ i,i≤S.length→((S.take i).flatMap Od).length≤1000:=by
  intro i _
  have h5:((S.take i).flatMap Od).length≤(S.flatMap Od).length:=by
   conv=>rhs;rw[← Aqh i S,Aqw,Apd]
   omega
  rw[hfl,hlen]at h5
  omega
 have e:=FM (step:=Fz) (fun i=>(s.2.map Cn,nI ((S.take i).flatMap Od),S.map ATZ,(S.length:Int),(i:Int),())) S.length (.inl (s.2.map Cn,nI (S.flatMap Od),())) (by omega)
  (fun i hi=>by
   unfold Fz
   dsimp only
   have hg0:=ApZ hi
   obtain⟨q1,q2⟩:=hsp _ (ArQ hi)
   have htk:S.take (i+1)=S.take i++[S[i]]:=by rw[Arv,hg0];rfl
   have hix:(S.map ATZ)[i]? = some (ATZ S[i]):=by rw[Ap7,hg0];rfl
   have hl:=hpre i (by omega)
   rw[htk,Aqw]
   generalize S[i]=q at q1 q2 hix
   obtain⟨lo,hi'⟩:=q
   simp only[AL,ApX hi,AW hix,BJ hix,ATZ]
   simp only at q1 q2
   rw[Ah (show -9223372036854775808≤(hi':Int)-lo∧(hi':Int)-lo≤9223372036854775807 by omega),show(hi':Int)-lo=((hi'-lo:Nat):Int) by omega]
   simp only[AHR _ _ lo hi' _ _ _ q1 q2 (show(nI ((S.take i).flatMap Od)).length≤1000000 by rw[Bc];omega)]
   rw[AP (by omega)]
   unfold nI
   rw[AqZ]
   simp[Od])
  (by unfold Fz;dsimp only;rw[AL,ApW (by omega),AqF])
 have e':AU Fz many (s.2.map Cn,([]:List Int),S.map ATZ,(S.length:Int),(0:Int),())=_:=e
 simp only[AS,Ap1,e',hfl]
end Go.Pev.Pl
end
section
namespace Go.Pev.Pl
theorem AaX(a b:Int):IntKind.wrap .u32 (a+b)=(a+b) % 4294967296:=by rw[IntKind.wrap_u32]
def sm(xs:List Int):Int:=xs.sum % 4294967296
def ahL(xs:List Int):List Int:=(List.range xs.length).map fun i=>sm (xs.take i)
theorem AhV(xs ys:List Int):sm (xs++ys)=(sm xs+sm ys) % 4294967296:=by
 unfold sm;rw[List.sum_append,Int.add_emod]
theorem ALL(xs:List Int)(x:Int):sm (xs++[x])=(sm xs+x) % 4294967296:=by
 unfold sm;rw[List.sum_append,Int.emod_add_emod];simp
def L8{α:Type}(N:Nat)(f:Nat→α)(z:α)(i:Nat):List α:=(List.range N).map fun j=>if j<i then f j else z
theorem UQ{α:Type}(N:Nat)(f:Nat→α)(z:α):L8 N f z 0=List.replicate N z:=by
 unfold L8
 apply Ar1 (by simp)
 intro i h1 h2
 simp
theorem ADF{α:Type}(N:Nat)(f:Nat→α)(z:α):L8 N f z N=(List.range N).map f:=by
 unfold L8
 refine ArH fun j hj => ?_
 rw[Apk (AqC.1 hj)]
theorem Mg{α:Type}(N:Nat)(f:Nat→α)(z:α)(i:Nat):(L8 N f z i).length=N:=by simp[L8]
theorem ADE{α:Type}(N:Nat)(f:Nat→α)(z:α)(i j:Nat):(L8 N f z i)[j]? = if j<N then some (if j<i then f j else z)else none:=by
 unfold L8
 rw[Ap7]
 by_cases h:j<N<;>simp[h]
theorem ADD{α:Type}{N:Nat}(f:Nat→α)(z:α){i:Nat}:(L8 N f z i).set i (f i)=L8 N f z (i+1):=by
 apply Aqi
 intro j
 rw[ArA,ADE,ADE,Mg]
 by_cases h:i=j
 ·subst h
  rw[Apk rfl,Apk (show i<i+1 by omega)]
 ·rw[Apg h]
  by_cases hj:j<i
  ·rw[Apk hj,Apk (show j<i+1 by omega)]
  ·rw[Apg hj,Apg (show ¬ j<i+1 by omega)]
theorem Bh{α:Type}{xs:List α}{i:Nat}{x:α}(h:xs[i]? = some x):xs.take (i+1)=xs.take i++[x]:=by rw[Arv,h];rfl
theorem BX{α:Type}{xs:List α}{i:Nat}(h:i<xs.length):∃ x,xs[i]? = some x:=⟨_,ApZ h⟩
theorem PQ(xs:List Int)(hl:xs.length≤1000000):PR (xs,())=some (ahL xs,sm xs,()):=by
 rw[AIV,Qy]
 have e:=FM (step:=FW) (fun i=>(L8 xs.length (fun j=>sm (xs.take j)) (0:Int) i,sm (xs.take i),xs,(xs.length:Int),(i:Int),())) xs.length (.inl (ahL xs,sm xs,())) (by omega)
  (fun i hi=>by
   obtain⟨x,hx⟩:=BX hi
   obtain⟨y,hy⟩:=BX (xs:=L8 xs.length (fun j=>sm (xs.take j)) (0:Int) i) (i:=i) (by rw[Mg];exact hi)
   rw[FW,AL,ApX hi]
   simp only[AW hx,AW hy,DW,ADD,AaX]
   rw[AP (by omega),Bh hx,ALL])
  (by rw[FW,AL,ApW (by omega),ADF,AqF];rfl)
 rw[UQ]at e
 have e':AU FW many (List.replicate xs.length (0:Int),(0:Int),xs,(xs.length:Int),(0:Int),())=_:=e
 simp only[AS,D2 (show xs.length≤4294967296 by omega),E8,e']
theorem AkI{α:Type}(f:Nat→α):∀ (U:List Nat) (a:List α) (j:Nat),(U.foldl (fun a i=>a.set i (f i)) a)[j]? = if j∈U∧j<a.length then some (f j)else a[j]? := by
 intro U
 induction U with
 |nil=>intro a j;simp
 |cons u U ih=>
  intro a j
  rw[Aqd,ih,Aqm]
  by_cases h1:j∈U∧j<a.length
  ·rw[Apk h1,Apk ⟨by simp[h1.1],h1.2⟩]
  ·rw[Apg h1,ArA]
   by_cases h2:u=j
   ·subst h2
    rw[Apk rfl]
    by_cases h3:u<a.length
    ·rw[Apk h3,Apk ⟨by simp,h3⟩]
    ·rw[Apg h3,Apg (fun h=>h3 h.2)]
     exact(Apw (by omega)).symm
   ·rw[Apg h2,Apg]
    rintro⟨h3,h4⟩
    rcases Ape.1 h3 with h|h
    ·exact h2 h.symm
    ·exact h1 ⟨h,h4⟩
theorem LB{α:Type}(f:Nat→α)(U:List Nat):∀ (a:List α),(U.foldl (fun a i=>a.set i (f i)) a).length=a.length:=by
 induction U with
 |nil=>intro a;rfl
 |cons u U ih=>intro a;rw[Aqd,ih,Aqm]
theorem ATO{α:Type}{f:Nat→α}{U:List Nat}{N:Nat}(hU:∀ j,j<N→j∈U)(z:α):U.foldl (fun a i=>a.set i (f i)) (List.replicate N z)=(List.range N).map f:=by
 apply Aqi
 intro j
 rw[AkI,AqP]
 by_cases h:j<N
 ·rw[Apk ⟨hU j h,h⟩];simp[h]
 ·rw[Apg fun x=>h x.2];simp[h]
def nbl(n b:Nat):Nat:=(n+b-1)/b
theorem ADN{n b i:Nat}(hb:1≤b):i<nbl n b↔i*b<n:=by
 unfold nbl
 rw[Nat.lt_div_iff_mul_lt (by omega)]
 omega
theorem ADO{n b:Nat}(hb:1≤b):nbl n b≤n:=by
 rcases AqW n with h|h
 ·subst h;unfold nbl;rw[Nat.div_eq_of_lt (by omega)];exact Apj _
 ·have:¬ n<nbl n b:=by
   rw[ADN hb]
   have:n*1≤n*b:=Nat.mul_le_mul_left n hb
   omega
  omega
theorem Th(b:Int):Td (b,())=some (decide (1≤b∧b≤100),()):=by
 rw[AIF,Qs,An]
 by_cases h1:1≤b
 ·rw[ApX h1,An];simp[h1]
 ·rw[ApW h1];simp[h1]
theorem Xc{n b:Nat}(hn:n≤1000)(hb:1≤b)(hb2:b≤100):Qw ((n:Int),(b:Int),())=some ((nbl n b:Int),()):=by
 rw[AA9,Nn]
 rw[Ae,ApW (by omega),Ae,ApW (by omega)]
 simp only[Th,ApX (show 1≤(b:Int)∧(b:Int)≤100 by omega),Aph]
 rw[wrap_add (by omega),BA (by omega),Pa,Q9,Apg (by omega),← Int.ofNat_tdiv]
 have:(n+b-1)/b≤2000:=AqY (Nat.div_le_self _ _) (by omega)
 unfold nbl
 generalize (n+b-1)/b=q at this
 rw[Ah (by omega)]
def blk(xs:List Int)(b i:Nat):List Int:=(xs.take (min xs.length ((i+1)*b))).drop (i*b)
theorem AIH{xs:List Int}{b i:Nat}(hl:xs.length≤1000)(hb2:b≤100)(hi:i*b≤xs.length)(hi2:i≤1000):AII (xs,(i:Int),(b:Int),())=some (blk xs b i,()):=by
 rw[AQB,ZX]
 have h1:i*b≤100000:=ArF hi2 hb2
 have h2:(i+1)*b=i*b+b:=AsP i b
 have e1:IntKind.wrap .i64 ((i:Int)*(b:Int))=((i*b:Nat):Int):=by rw[← ArX,Ah (by omega)]
 have e2:IntKind.wrap .i64 (IntKind.wrap .i64 ((i:Int)+1)*(b:Int))=(((i+1)*b:Nat):Int):=by
  rw[AP (by omega),← ArX,Ah (by omega)]
 have e3:B7 (xs.length:Int) (((i+1)*b:Nat):Int)=((min xs.length ((i+1)*b):Nat):Int):=by
  unfold B7;split<;>omega
 simp only[AS,e1,e2,e3]
 rw[AK6 (by omega) (Nat.min_le_left ..)]
 rfl
theorem AUb{xs:List Int}{b i k:Nat}(hk:i*b+k≤(i+1)*b):xs.take (i*b+k)=xs.take (i*b)++(blk xs b i).take k:=by
 rw[List.take_add]
 congr 1
 unfold blk
 apply Aqi
 intro j
 simp only[AqV,Aqb]
 by_cases hj:j<k
 ·rw[Apk hj,Apk hj]
  by_cases h:i*b+j<min xs.length ((i+1)*b)
  ·rw[Apk h]
  ·rw[Apg h]
   exact Apw (by omega)
 ·rw[Apg hj,Apg hj]
theorem SF{xs:List Int}{b i:Nat}:(blk xs b i).length=min xs.length ((i+1)*b)-i*b:=by
 unfold blk;rw[Aqc,Aps];omega
theorem Al0{xs:List Int}{b i:Nat}:sm (xs.take ((i+1)*b))=(sm (xs.take (i*b))+sm (blk xs b i)) % 4294967296:=by
 have h2:(i+1)*b=i*b+b:=AsP i b
 have h:=AUb (xs:=xs) (b:=b) (i:=i) (k:=b) (by omega)
 rw[← h2]at h
 rw[h,AhV]
 congr 2
 rw[AqU (by rw[SF];omega)]
theorem XR(xs:List Int)(b N:Nat):∀ i,i≤N→sm (((List.range N).map fun i=>sm (blk xs b i)).take i)=sm (xs.take (i*b)):=by
 intro i
 induction i with
 |zero=>intro _;simp
 |succ i ih=>
  intro hi
  rw[Bh (x:=sm (blk xs b i)) (by rw[Ap7,Aq2 (by omega)];rfl),ALL,ih (by omega),Al0]
theorem AMf{l:List Nat}{i x:Nat}(h:l[i]? = some x):idx (nI l) (i:Int)=some (x:Int)∧AY (nI l) (AN (i:Int)) (0:Int)=(x:Int):=⟨AW (DS h),BJ (DS h)⟩
section
variable {xs:List Int} {b:Nat} (hl:xs.length≤1000) (hb:1≤b) (hb2:b≤100)
include hl hb hb2
theorem ApP{U:List Nat}{N:Nat}(hN:N=nbl xs.length b)(hU:U.Perm (List.range N))(k:Int):
  AU EJ many (xs,(b:Int),k,nI U,List.replicate N (0:Int),(U.length:Int),(0:Int),())=some (.inl (xs,(b:Int),k,nI U,(List.range N).map (fun i=>sm (blk xs b i)),())):=by
 have hNl:N≤1000:=by rw[hN];exact AqY (ADO hb) hl
 have hUl:=hU.length_eq
 rw[AqA]at hUl
 have e:=FM (step:=EJ) (fun i=>(xs,(b:Int),k,nI U,(U.take i).foldl (fun a i=>a.set i (sm (blk xs b i))) (List.replicate N (0:Int)),(U.length:Int),(i:Int),())) U.length (.inl (xs,(b:Int),k,nI U,(List.range N).map (fun i=>sm (blk xs b i)),())) (by omega)
  (fun i hi=>by
   obtain⟨u,hu⟩:=BX hi
   have huN:u<N:=AqC.1 (hU.mem_iff.1 (Apm hu))
   have hub:u*b<xs.length:=(ADN hb).1 (hN▸huN)
   obtain⟨h1,h2⟩:=AMf hu
   obtain⟨y,hy⟩:=BX (xs:=(U.take i).foldl (fun a i=>a.set i (sm (blk xs b i))) (List.replicate N (0:Int))) (i:=u) (by rw[LB,AqP];exact huN)
   have hbl:(blk xs b u).length≤1000000:=by rw[SF];omega
   rw[EJ,AL,ApX hi]
   simp only[h1,h2,AIH hl hb2 (AsO hub) (by omega),PQ _ hbl,AW hy,DW]
   rw[AP (by omega),Bh hu,ArV]
   rfl)
  (by
   rw[EJ,AL,ApW (by omega),AqF,ATO fun j hj=>hU.mem_iff.2 (AqC.2 hj)])
 exact e
theorem ApN{i N:Nat}(hi:i<N)(hib:i*b<xs.length)(hN:N≤1000)(out:List Int)(ho:out.length=xs.length)(tot k:Int)(nu:List Int)(j9 j10:Int):
  AU EH many (xs,(b:Int),out,tot,k,(List.range N).map (fun i=>sm (xs.take (i*b))),(i:Int),nu,j9,j10,ahL (blk xs b i),((blk xs b i).length:Int),(0:Int),()) =
   some (.inl (xs,(b:Int),(List.range' (i*b) (blk xs b i).length).foldl (fun a p=>a.set p (sm (xs.take p))) out,tot,k,(List.range N).map (fun i=>sm (xs.take (i*b))),nu,j9,j10,())):=by
 have h2:(i+1)*b=i*b+b:=AsP i b
 have hbl:=SF (xs:=xs) (b:=b) (i:=i)
 have hal:(ahL (blk xs b i)).length=(blk xs b i).length:=by simp[ahL]
 have hbase:((List.range N).map (fun i=>sm (xs.take (i*b))))[i]? = some (sm (xs.take (i*b))):=by rw[Ap7,Aq2 hi];rfl
 have e:=FM (step:=EH) (fun j=>(xs,(b:Int),(List.range' (i*b) j).foldl (fun a p=>a.set p (sm (xs.take p))) out,tot,k,(List.range N).map (fun i=>sm (xs.take (i*b))),(i:Int),nu,j9,j10,ahL (blk xs b i),((blk xs b i).length:Int),(j:Int),())) (blk xs b i).length
  (.inl (xs,(b:Int),(List.range' (i*b) (blk xs b i).length).foldl (fun a p=>a.set p (sm (xs.take p))) out,tot,k,(List.range N).map (fun i=>sm (xs.take (i*b))),nu,j9,j10,())) (by omega)
  (fun j hj=>by
   have hw:(ahL (blk xs b i))[j]? = some (sm ((blk xs b i).take j)):=by
    unfold ahL
    rw[Ap7,Aq2 hj];rfl
   have e1:IntKind.wrap .i64 (IntKind.wrap .i64 ((i:Int)*(b:Int))+(j:Int))=((i*b+j:Nat):Int):=by
    have h3:IntKind.wrap .i64 ((i:Int)*(b:Int))=((i*b:Nat):Int):=by rw[← ArX,Ah (by omega)]
    rw[h3,wrap_add (by omega)]
   obtain⟨y,hy⟩:=BX (xs:=(List.range' (i*b) j).foldl (fun a p=>a.set p (sm (xs.take p))) out) (i:=i*b+j) (by rw[LB,ho];omega)
   have e2:IntKind.wrap .u32 (sm (xs.take (i*b))+sm ((blk xs b i).take j))=sm (xs.take (i*b+j)):=by
    rw[AaX,AUb (by omega),AhV]
   rw[EH,AL,ApX hj]
   simp only[AW hw,BJ hw,AW hbase,BJ hbase,e1,AW hy,DW,e2]
   rw[AP (by omega),List.range'_concat,ArV]
   simp)
  (by rw[EH,AL,ApW (by omega)])
 exact e
theorem ApO{U:List Nat}{N:Nat}(hN:N=nbl xs.length b)(hU:U.Perm (List.range N))(tot k:Int):
  AU EI many (xs,(b:Int),List.replicate xs.length (0:Int),tot,k,(List.range N).map (fun i=>sm (xs.take (i*b))),nI U,(U.length:Int),(0:Int),())=some (.inl (ahL xs,tot,k,())):=by
 have hNl:N≤1000:=by rw[hN];exact AqY (ADO hb) hl
 have hUl:=hU.length_eq
 rw[AqA]at hUl
 have e:=FM (step:=EI) (fun i=>(xs,(b:Int),((U.take i).flatMap fun i=>List.range' (i*b) (blk xs b i).length).foldl (fun a p=>a.set p (sm (xs.take p))) (List.replicate xs.length (0:Int)),tot,k,(List.range N).map (fun i=>sm (xs.take (i*b))),nI U,(U.length:Int),(i:Int),())) U.length (.inl (ahL xs,tot,k,())) (by omega)
  (fun i hi=>by
   obtain⟨u,hu⟩:=BX hi
   have huN:u<N:=AqC.1 (hU.mem_iff.1 (Apm hu))
   have hub:u*b<xs.length:=(ADN hb).1 (hN▸huN)
   obtain⟨h1,h2⟩:=AMf hu
   have hbl:(blk xs b u).length≤1000000:=by rw[SF];omega
   have hal:(ahL (blk xs b u)).length=(blk xs b u).length:=by simp[ahL]
   rw[EI,AL,ApX hi]
   simp only[h1,h2,AIH hl hb2 (AsO hub) (by omega),PQ _ hbl,AS,hal]
   have hin:=ApN hl hb hb2 huN hub hNl (((U.take i).flatMap fun i=>List.range' (i*b) (blk xs b i).length).foldl (fun a p=>a.set p (sm (xs.take p))) (List.replicate xs.length (0:Int))) (by rw[LB,AqP]) tot k (nI U) (U.length:Int) (i:Int)
   simp only[hin]
   rw[AP (by omega),Bh hu,Aqw,ArV]
   simp)
  (by
   rw[EI,AL,ApW (by omega),AqF]
   have:∀ j,j<xs.length→j∈U.flatMap fun i=>List.range' (i*b) (blk xs b i).length:=by
    intro j hj
    have h1:j/b*b≤j:=Nat.div_mul_le_self j b
    have h2:j<(j/b+1)*b:=by
     rw[AsP]
     have h3:j/b*b+j % b=j:=by rw[Nat.mul_comm];exact Nat.div_add_mod j b
     have:=AsC j (show 0<b by omega)
     omega
    refine ArP.2 ⟨j/b,hU.mem_iff.2 (AqC.2 (by rw[hN,ADN hb];omega)),?_⟩
    rw[Asn,SF]
    omega
   rw[ATO (f:=fun p=>sm (xs.take p)) this]
   rfl)
 exact e
theorem AIE{p:Int×Int×List (List Int)×Unit}{U:List Nat}{k:Nat}(hk:k≤40000)(hU:U.Perm (List.range (nbl xs.length b)))(hf:CO ((nbl xs.length b:Int),p,())=some (nI U,(k:Int),0,())):
  XY (xs,(b:Int),p,())=some (ahL xs,sm xs,((2*k:Nat):Int),0,()):=by
 have hNl:nbl xs.length b≤1000:=AqY (ADO hb) hl
 have e0:ieq (0:Int) 0=true:=by rw[Ag];rfl
 obtain⟨a,c,q,u⟩:=p
 rw[AAx,Qr]
 have:Nl (xs,(b:Int),(a,c,q,()),())=some (ahL xs,sm xs,((2*k:Nat):Int),0,()):=by
  rw[PJ,Jb]
  simp only[Th,ApX (show 1≤(b:Int)∧(b:Int)≤100 by omega),Aph,AS]
  rw[Ae,ApW (by omega)]
  have hs0:=ApP hl hb hb2 rfl hU (k:Int)
  simp only[Xc hl hb hb2,hf,e0,Aph,D2 (show nbl xs.length b≤4294967296 by omega),E8,Bc,hs0]
  have ht:((List.range (nbl xs.length b)).map fun i=>sm (blk xs b i)).length≤1000000:=by simp;omega
  have hat:ahL ((List.range (nbl xs.length b)).map fun i=>sm (blk xs b i))=(List.range (nbl xs.length b)).map fun i=>sm (xs.take (i*b)):=by
   unfold ahL
   rw[Ap1,AqA]
   refine ArH fun i hi=>XR xs b _ i (AsO (AqC.1 hi))
  have hst:sm ((List.range (nbl xs.length b)).map fun i=>sm (blk xs b i))=sm xs:=by
   have:=XR xs b (nbl xs.length b) (nbl xs.length b) (Apj _)
   rw[AqU (by simp)]at this
   rw[this,AqU]
   have:=(ADN (n:=xs.length) (i:=nbl xs.length b) hb)
   omega
  simp only[PQ _ ht,hat,hst,D2 (show xs.length≤4294967296 by omega)]
  simp only[ApO hl hb hb2 rfl hU (sm xs) (k:Int)]
  rw[show((2:Int)*(k:Int))=((2*k:Nat):Int) by omega,Ah (by omega)]
 simp only[this]
end
theorem Acr{xs:List Int}{b:Int}{p:Int×Int×List (List Int)×Unit}(h:¬ (1≤b∧b≤100∧xs.length≤1000∧G1 p)):XY (xs,b,p,())=some ([],0,0,1,()):=by
 obtain⟨a,c,q,u⟩:=p
 rw[AAx,Qr]
 have:Nl (xs,b,(a,c,q,()),())=some ([],0,0,1,()):=by
  rw[PJ,Jb]
  simp only[Th,AS]
  by_cases h1:1≤b∧b≤100
  ·rw[ApX h1]
   simp only[Aph]
   by_cases h2:xs.length≤1000
   ·rw[Ae,ApW (by omega)]
    obtain⟨b,rfl⟩:=Apl (show 0≤b by omega)
    have h3:¬ G1 (a,c,q,()):=fun hp=>h ⟨h1.1,h1.2,h2,hp⟩
    have hf:CO ((nbl xs.length b:Int),(a,c,q,()),())=some ([],0,1,()):=AYu fun hx=>h3 hx.2.2
    have e1:ieq (1:Int) 0=false:=by rw[Ag];rfl
    simp only[Xc (b:=b) h2 (by omega) (by omega),hf,e1,Ap8]
   ·rw[Ae,ApX (by omega)]
  ·rw[ApW h1]
   simp only[Ap8]
 simp only[this]
end Go.Pev.Pl
end
section
namespace Go.Pev.Pl
theorem AEH{n:Nat}(hn2:n≤1000){p:Int×Int×List (List Int)×Unit}(hp:G1 p):∃ (U:List Nat) (k:Nat),U.Perm (List.range n)∧(1≤n→1≤k)∧k≤40000∧CO ((n:Int),p,())=some (nI U,(k:Int),0,()):=by
 rcases AqW n with h|h
 ·subst h
  exact⟨[],0,by simp,fun h=>by omega,by omega,Mr hp⟩
 ·obtain⟨U,k,h1,h2,h3,h4⟩:=AYs h hn2 hp
  exact⟨U,k,h1,fun _=>h2,h3,h4⟩
def Jo(keep:List Bool):List Int:=keep.map fun b=>if b then 1 else 0
theorem AWu(keep:List Bool)(hl:keep.length≤1000000):ACK (keep,false,())=some (Jo keep,()):=by
 rw[AIk,RC]
 have e:=FM (step:=Fa) (fun i=>(false,L8 keep.length (fun j=>if keep.getD j false then(1:Int)else 0) (0:Int) i,keep,(keep.length:Int),(i:Int),())) keep.length (.inl (Jo keep,())) (by omega)
  (fun i hi=>by
   obtain⟨x,hx⟩:=BX hi
   obtain⟨y,hy⟩:=BX (xs:=L8 keep.length (fun j=>if keep.getD j false then(1:Int)else 0) (0:Int) i) (i:=i) (by rw[Mg];exact hi)
   have hg:keep.getD i false=x:=by rw[Apa,hx];rfl
   rw[Fa,AL,ApX hi]
   simp only[AW hx,AW hy,DW]
   rw[AP (by omega),← ADD]
   cases x with
   |true=>simp only[hg,AqI];rfl
   |false=>
    simp only[hg,Apo,Apr]
    have:(L8 keep.length (fun j=>if keep.getD j false then(1:Int)else 0) (0:Int) i).set i 0=L8 keep.length (fun j=>if keep.getD j false then(1:Int)else 0) (0:Int) i:=by
     apply Aqi
     intro j
     rw[ArA]
     by_cases h:i=j
     ·subst h
      rw[Apk rfl,Mg,Apk hi,ADE,Apk hi,Apg (by omega)]
     ·rw[Apg h]
    rw[this]
    rfl)
  (by
   rw[Fa,AL,ApW (by omega),ADF]
   have:(List.range keep.length).map (fun j=>if keep.getD j false then(1:Int)else 0)=Jo keep:=by
    apply Aqi
    intro j
    unfold Jo
    rw[Ap7,Ap7]
    by_cases h:j<keep.length
    ·rw[Aq2 h,ApZ h]
     simp[Apa,ApZ h]
    ·rw[Apw (by simpa using h),Apw (by omega)];rfl
   rw[this])
 rw[UQ]at e
 have e':AU Fa many (false,List.replicate keep.length (0:Int),keep,(keep.length:Int),(0:Int),())=_:=e
 simp only[AS,D2 (show keep.length≤4294967296 by omega),E8,e']
def kept(keep:List Bool)(n:Nat):List Nat:=(List.range n).filter fun i=>keep.getD i false
theorem VQ(keep:List Bool)(n:Nat):kept keep (n+1)=kept keep n++(if keep.getD n false then [n]else []):=by
 unfold kept
 rw[AqR,Aqu]
 congr 1
 simp[Aqo]
theorem Zi(keep:List Bool):∀ n,(kept keep n).length≤n:=fun n=>by
 have:=Arh (fun i=>keep.getD i false) (List.range n)
 simpa [kept]using this
theorem RP(keep:List Bool){i n:Nat}(h:i<n)(hk:keep.getD i false=true):(kept keep n)[(kept keep i).length]? = some i:=by
 have:∀ d,∃ r,kept keep (i+1+d)=kept keep i++i::r:=by
  intro d
  induction d with
  |zero=>exact⟨[],by rw[Aqz,VQ,hk];rfl⟩
  |succ d ih=>
   obtain⟨r,hr⟩:=ih
   exact⟨r++(if keep.getD (i+1+d) false then [i+1+d]else []),by rw[← Arb,VQ,hr];simp⟩
 obtain⟨r,hr⟩:=this (n-(i+1))
 rw[show i+1+(n-(i+1))=n by omega]at hr
 rw[hr,Ap6 (Apj _),Ark]
 rfl
theorem Aak{keep:List Bool}(hl:keep.length≤1000000):∀ i,i≤keep.length→sm ((Jo keep).take i)=((kept keep i).length:Int):=by
 intro i
 induction i with
 |zero=>intro _;simp[kept,sm]
 |succ i ih=>
  intro hi
  obtain⟨x,hx⟩:=BX (show i<keep.length by omega)
  have hg:keep.getD i false=x:=by rw[Apa,hx];rfl
  have hm:(Jo keep)[i]? = some (if x then 1 else 0):=by unfold Jo;rw[Ap7,hx];rfl
  have:=Zi keep i
  rw[Bh hm,ALL,ih (by omega),VQ,Apd,hg]
  cases x<;>simp<;>omega
theorem ATN{α:Type}{g:Nat→Nat}{v:Nat→α}:∀ (U:List Nat) (a:List α),U.Nodup→(∀ i∈U,∀ j∈U,g i=g j→i=j)→∀ i∈U,g i<a.length→(U.foldl (fun a i=>a.set (g i) (v i)) a)[g i]? = some (v i):=by
 intro U
 induction U with
 |nil=>intro a _ _ i hi;cases hi
 |cons u U ih=>
  intro a hn hinj i hi hl
  rw[Aqd]
  rw[Ap9]at hn
  rcases Ape.1 hi with rfl|hi
  ·have:∀ (V:List Nat) (a:List α),(∀ j∈V,g j≠g i)→(V.foldl (fun a i=>a.set (g i) (v i)) a)[g i]? = a[g i]? := by
    intro V
    induction V with
    |nil=>intro a _;rfl
    |cons x V ih2=>
     intro a h
     rw[Aqd,ih2 _ fun j hj=>h j (by simp[hj]),Aqe (h x (by simp))]
   rw[this U _ fun j hj he=>hn.1 ((hinj j (by simp[hj]) i (by simp) he)▸hj),Ara hl]
  ·exact ih _ hn.2 (fun i hi j hj=>hinj i (by simp[hi]) j (by simp[hj])) i hi (by simpa using hl)
theorem HC{α:Type}(g:Nat→Nat)(v:Nat→α)(U:List Nat):∀ (a:List α),(U.foldl (fun a i=>a.set (g i) (v i)) a).length=a.length:=by
 induction U with
 |nil=>intro a;rfl
 |cons u U ih=>intro a;rw[Aqd,ih,Aqm]
theorem Aje{keep:List Bool}{i j:Nat}(hi:keep.getD i false=true)(hj:keep.getD j false=true)(h:(kept keep i).length=(kept keep j).length):i=j:=by
 have h1:=RP keep (n:=i+j+1) (i:=i) (by omega) hi
 have h2:=RP keep (n:=i+j+1) (i:=j) (by omega) hj
 rw[h,h2]at h1
 exact(Aqj h1).symm
theorem AiP{keep:List Bool}{U:List Nat}(hU:U.Perm (List.range keep.length)):
  ((U.filter fun i=>keep.getD i false).foldl (fun a i=>a.set (kept keep i).length (i:Int)) (List.replicate (kept keep keep.length).length (0:Int)))=nI (kept keep keep.length):=by
 have hput:=ATN (g:=fun i=>(kept keep i).length) (v:=fun i:Nat=>(i:Int)) (U.filter fun i=>keep.getD i false) (List.replicate (kept keep keep.length).length (0:Int))
  ((hU.nodup_iff.2 Aq8).filter _) (fun i hi j hj h=>Aje (AqB.1 hi).2 (AqB.1 hj).2 h)
 apply Aqi
 intro j
 by_cases hj:j<(kept keep keep.length).length
 ·obtain⟨i,hi⟩:=BX hj
  have hm:=Apm hi
  have hm':=AqB.1 hm
  have hlt:i<keep.length:=AqC.1 hm'.1
  have hp:=RP keep hlt hm'.2
  have hjj:(kept keep i).length=j:=by
   have hnd:(kept keep keep.length).Nodup:=List.nodup_range.filter _
   exact(AsJ (Bd hp) hnd).1 (hp.trans hi.symm)
  have:=hput i (AqB.2 ⟨hU.mem_iff.2 hm'.1,hm'.2⟩) (by rw[AqP,hjj];exact hj)
  simp only[hjj]at this
  rw[this,DS hi]
 ·rw[Apw (by rw[HC,AqP];omega),Apw (by rw[Bc];omega)]
theorem AQ8{keep:List Bool}{b:Nat}(hl:keep.length≤1000)(hb:1≤b)(hb2:b≤100){p:Int×Int×List (List Int)×Unit}{U V:List Nat}{k m:Nat}(hk:k≤40000)(hm:m≤40000)
  (hU:U.Perm (List.range (nbl keep.length b))) (hf:CO ((nbl keep.length b:Int),p,())=some (nI U,(k:Int),0,())) (hV:V.Perm (List.range keep.length)) (hf2:CO ((keep.length:Int),p,())=some (nI V,(m:Int),0,())) :
  RB (Jo keep,(b:Int),p,())=some (nI (kept keep keep.length),((2*k+m:Nat):Int),0,()):=by
 have e0:ieq (0:Int) 0=true:=by rw[Ag];rfl
 have hml:(Jo keep).length=keep.length:=by simp[Jo]
 have hkl:=Zi keep keep.length
 have hVl:=hV.length_eq
 rw[AqA]at hVl
 have hs:=AIE (xs:=Jo keep) (b:=b) (by rw[hml];exact hl) hb hb2 (p:=p) (U:=U) hk (by rw[hml];exact hU) (by rw[hml];exact hf)
 have htot:sm (Jo keep)=((kept keep keep.length).length:Int):=by
  have:=Aak (keep:=keep) (by omega) keep.length (Apj _)
  rw[AqU (by rw[hml];exact Apj _)]at this
  exact this
 rw[htot]at hs
 obtain⟨a,c,q,u⟩:=p
 rw[ACE,Ns]
 simp only[hs,e0,Aph,AS,hml,hf2,D2 (show(kept keep keep.length).length≤4294967296 by omega),E8,Bc]
 have e:=FM (step:=EN) (fun i=>(Jo keep,ahL (Jo keep),((2*k:Nat):Int),(m:Int),((V.take i).filter fun i=>keep.getD i false).foldl (fun a i=>a.set (kept keep i).length (i:Int)) (List.replicate (kept keep keep.length).length (0:Int)),nI V,(V.length:Int),(i:Int),())) V.length
  (.inl (((2*k:Nat):Int),(m:Int),nI (kept keep keep.length),())) (by omega)
  (fun i hi=>by
   obtain⟨v,hv⟩:=BX hi
   have hvN:v<keep.length:=AqC.1 (hV.mem_iff.1 (Apm hv))
   obtain⟨h1,h2⟩:=AMf hv
   obtain⟨x,hx⟩:=BX hvN
   have hg:keep.getD v false=x:=by rw[Apa,hx];rfl
   have hmv:(Jo keep)[v]? = some (if x then 1 else 0):=by unfold Jo;rw[Ap7,hx];rfl
   have hav:(ahL (Jo keep))[v]? = some ((kept keep v).length:Int):=by
    unfold ahL
    rw[Ap7,Aq2 (by rw[hml];exact hvN)]
    show some (sm ((Jo keep).take v))=_
    rw[Aak (by omega) v (AsO hvN)]
   rw[EN,AL,ApX hi]
   simp only[h1,h2,AW hmv]
   rw[AP (by omega),Bh hv,Aqu,ArV]
   cases x with
   |true=>
    have hlt:(kept keep v).length<(kept keep keep.length).length:=Bd (RP keep hvN hg)
    obtain⟨y,hy⟩:=BX (xs:=((V.take i).filter fun i=>keep.getD i false).foldl (fun a i=>a.set (kept keep i).length (i:Int)) (List.replicate (kept keep keep.length).length (0:Int))) (i:=(kept keep v).length) (by
     rw[HC (fun i=>(kept keep i).length) (fun i:Nat=>(i:Int)),AqP];exact hlt)
    have e1:ieq (1:Int) 1=true:=by rw[Ag];rfl
    simp only[AqI,e1,AW hav,BJ hav,AW hy,DW,Aqo,hg]
    rfl
   |false=>
    have e1:ieq (0:Int) 1=false:=by rw[Ag];rfl
    simp only[Apo,Apr,e1,Aqo,hg]
    rfl)
  (by rw[EN,AL,ApW (by omega),AqF,AiP hV])
 have e':AU EN many (Jo keep,ahL (Jo keep),((2*k:Nat):Int),(m:Int),List.replicate (kept keep keep.length).length (0:Int),nI V,(V.length:Int),(0:Int),())=_:=e
 simp only[e']
 rw[wrap_add (by omega)]
theorem AWp{keep:List Bool}{b:Nat}(hl:keep.length≤1000)(hb:1≤b)(hb2:b≤100){p:Int×Int×List (List Int)×Unit}{U V:List Nat}{k m:Nat}(hk:k≤40000)(hm:m≤40000)
  (hU:U.Perm (List.range (nbl keep.length b))) (hf:CO ((nbl keep.length b:Int),p,())=some (nI U,(k:Int),0,())) (hV:V.Perm (List.range keep.length)) (hf2:CO ((keep.length:Int),p,())=some (nI V,(m:Int),0,())) :
  AB9 (keep,(b:Int),p,())=some (nI (kept keep keep.length),((2*k+m:Nat):Int),0,()):=by
 have h:=AQ8 hl hb hb2 hk hm hU hf hV hf2
 obtain⟨a,c,q,u⟩:=p
 rw[AIe,RA]
 simp only[AWu keep (by omega),h]
end Go.Pev.Pl
end
section
namespace Go.Pev.Pl
def bkt(d:Nat→Nat)(l:List Nat)(v:Nat):List Nat:=l.filter fun i=>d i==v
def Ej(d:Nat→Nat)(B:Nat)(l:List Nat):List Nat:=(List.range B).flatMap (bkt d l)
def Dy(d:Nat→Nat)(l:List Nat)(v:Nat):Nat:=(Ej d v l).length
theorem LM(d:Nat→Nat)(B:Nat)(l:List Nat):Ej d (B+1) l=Ej d B l++bkt d l B:=by
 unfold Ej
 rw[AqR,Aqw]
 simp
theorem AUV(d:Nat→Nat)(l:List Nat)(v:Nat):Dy d l (v+1)=Dy d l v+(bkt d l v).length:=by
 unfold Dy;rw[LM,Apd]
theorem AE1(d:Nat→Nat)(l:List Nat):∀ B,(Ej d B l).Perm (l.filter fun i=>decide (d i<B)):=by
 intro B
 induction B with
 |zero=>
  have:l.filter (fun i=>decide (d i<0))=[]:=List.filter_eq_nil_iff.2 fun a _=>by simp
  rw[this];exact Asg _
 |succ B ih=>
  rw[LM]
  have h:=List.filter_append_perm (fun i=>decide (d i<B)) (l.filter fun i=>decide (d i<B+1))
  refine List.Perm.trans ?_ h
  have e1:(l.filter fun i=>decide (d i<B+1)).filter (fun i=>decide (d i<B))=l.filter fun i=>decide (d i<B):=by
   rw[List.filter_filter]
   refine Art fun x _ => ?_
   rw[Aql];simp;omega
  have e2:(l.filter fun i=>decide (d i<B+1)).filter (fun i => !decide (d i<B))=bkt d l B:=by
   unfold bkt
   rw[List.filter_filter]
   refine Art fun x _ => ?_
   rw[Aql];simp;omega
  rw[e1,e2]
  exact ih.append_right _
theorem YM{d:Nat→Nat}{B:Nat}{l:List Nat}(h:∀ i∈l,d i<B):(Ej d B l).Perm l:=by
 have:=AE1 d l B
 rw[Ar5.2 fun a ha=>ApX (h a ha)]at this
 exact this
def OW(d:Nat→Nat)(l:List Nat)(t:Nat):Nat:=Dy d l (d (l.getD t 0))+(bkt d (l.take t) (d (l.getD t 0))).length
theorem ATw(d:Nat→Nat)(l:List Nat){v B:Nat}(h:v<B):∃ r,Ej d B l=Ej d v l++(bkt d l v++r):=by
 have:∀ k,∃ r,Ej d (v+1+k) l=Ej d v l++(bkt d l v++r):=by
  intro k
  induction k with
  |zero=>exact⟨[],by rw[Aqz,LM];simp⟩
  |succ k ih=>
   obtain⟨r,hr⟩:=ih
   exact⟨r++bkt d l (v+1+k),by rw[← Arb,LM,hr];simp⟩
 have:=this (B-(v+1))
 rw[show v+1+(B-(v+1))=B by omega]at this
 exact this
theorem ATx{d:Nat→Nat}{B:Nat}{l:List Nat}(h:∀ i∈l,d i<B){t x:Nat}(ht:l[t]? = some x):(Ej d B l)[OW d l t]? = some x:=by
 have hx:=h x (Apm ht)
 have hg:l.getD t 0=x:=by rw[Apa,ht];rfl
 obtain⟨r,hr⟩:=ATw d l hx
 unfold OW
 rw[hg,hr,Ap6 (by unfold Dy;omega)]
 unfold Dy
 rw[Asi]
 have hb:bkt d l (d x)=bkt d (l.take t) (d x)++x::bkt d (l.drop (t+1)) (d x):=by
  have e:l=l.take t++x::l.drop (t+1):=by
   obtain⟨hl,rfl⟩:=Apn.1 ht
   rw[← AqL hl,Aqh]
  unfold bkt
  conv=>lhs;rw[e]
  rw[Aqu,Aqo]
  simp
 rw[hb,AqD,Ap6 (Apj _),Ark]
 rfl
theorem AN7{k:Nat→Nat}{m b B:Nat}{l:List Nat}(hB:B=2 ^ b)(h:l.Pairwise fun i j=>k i % 2 ^ m≤k j % 2 ^ m):
  (Ej (fun i=>k i/2 ^ m % B) B l).Pairwise fun i j=>k i % 2 ^ (m+b)≤k j % 2 ^ (m+b):=by
 have key:∀ i,k i % 2 ^ (m+b)=2 ^ m*(k i/2 ^ m % B)+k i % 2 ^ m:=by
  intro i
  rw[Nat.pow_add,Nat.mod_mul,hB]
  omega
 unfold Ej
 rw[List.pairwise_flatMap]
 constructor
 ·intro v _
  unfold bkt
  have:=h.filter (fun i=>k i/2 ^ m % B==v)
  refine this.imp_of_mem fun {i j} hi hj hij => ?_
  have h1:k i/2 ^ m % B=v:=by simpa using (AqB.1 hi).2
  have h2:k j/2 ^ m % B=v:=by simpa using (AqB.1 hj).2
  rw[key,key,h1,h2];omega
 ·refine List.pairwise_lt_range.imp fun {v w} hvw i hi j hj => ?_
  have h1:k i/2 ^ m % B=v:=by simpa using (AqB.1 hi).2
  have h2:k j/2 ^ m % B=w:=by simpa using (AqB.1 hj).2
  rw[key,key,h1,h2]
  have h3:=AsC (k i) (Asd m)
  have h4:2 ^ m*(v+1)≤2 ^ m*w:=Nat.mul_le_mul_left _ hvw
  rw[Nat.mul_succ]at h4
  omega
def ABd(k:Nat→Nat)(b:Nat)(l:List Nat):Nat→List Nat
 |0=>l
 |p+1=>Ej (fun i=>k i/2 ^ (p*b) % 2 ^ b) (2 ^ b) (ABd k b l p)
theorem AIX(k:Nat→Nat)(b:Nat)(l:List Nat):∀ p,(ABd k b l p).Perm l∧(ABd k b l p).Pairwise fun i j=>k i % 2 ^ (p*b)≤k j % 2 ^ (p*b):=by
 intro p
 induction p with
 |zero=>
  refine⟨Asg _,?_⟩
  simp only[Arj,Nat.pow_zero,Nat.mod_one]
  exact List.pairwise_of_forall fun _ _=>Apj _
 |succ p ih=>
  refine⟨(YM fun i _=>AsC _ (Asd b)).trans ih.1,?_⟩
  rw[AsP]
  exact AN7 rfl ih.2
def P2(s:List Int):List Bool:=(List.range s.length).map fun i=>decide (i=0)||decide (s.getD (i-1) 0≠s.getD i 0)
end Go.Pev.Pl
end
section
namespace Go.Pev.Pl
def nps(b:Nat):Nat:=(32+b-1)/b
theorem AjL{b p:Nat}(hb:1≤b):p<nps b↔p*b<32:=by
 unfold nps
 rw[Nat.lt_div_iff_mul_lt (by omega)]
 omega
theorem AMb{b:Nat}:nps b≤47:=by
 unfold nps
 rcases AqW b with h|h
 ·subst h;simp
 ·have h1:=Nat.div_mul_le_self (32+b-1) b
  generalize (32+b-1)/b=q at h1
  rcases Aqf 32 q with h2|h2
  ·have:33*b≤q*b:=AqO _ h2
   omega
  ·omega
theorem AbD{b:Nat}(hb:1≤b):1≤nps b:=by
 have:=(AjL (p:=0) hb).2 (by omega)
 omega
theorem AQm{b:Int}(h:¬ (1≤b∧b≤16)):KV (b,())=some (0,()):=by
 rw[PU,Je]
 by_cases h1:b<1
 ·rw[Ae,ApX h1]
 ·rw[Ae,ApW h1,Ae,ApX (by omega)]
theorem MT{b:Nat}(h:1≤b)(h2:b≤16):KV ((b:Int),())=some ((nps b:Int),()):=by
 have:=AMb (b:=b)
 rw[PU,Je]
 rw[Ae,ApW (by omega),Ae,ApW (by omega)]
 have e:IntKind.wrap .i64 (IntKind.wrap .i64 ((32:Int)+(b:Int))-1)=((32+b-1:Nat):Int):=by
  have e0:IntKind.wrap .i64 ((32:Int)+(b:Int))=((32+b:Nat):Int):=by rw[Ah (by omega)];omega
  rw[e0,Ah (by omega)];omega
 simp only[e]
 rw[Pa,Q9,Apg (by omega),← Int.ofNat_tdiv]
 unfold nps at this ⊢
 generalize (32+b-1)/b=q at this ⊢
 rw[Ah (by omega)]
theorem AKY{n:Nat}(h:n<18446744073709551616):IntKind.wrap .u64 (n:Int)=n:=IntWalk.u64_in _ (by omega)
theorem IP{n:Nat}(h:n<4294967296):IntKind.wrap .u32 (n:Int)=n:=IntWalk.u32_in _ (by omega)
theorem AjR{x b:Nat}(hx:x<4294967296)(hb:b≤16):IntKind.wrap .u32 (BitVec.ofInt (IntKind.bits .u32) (x:Int) &&& BitVec.ofInt (IntKind.bits .u32) ((2 ^ b-1:Nat):Int)).toNat=((x % 2 ^ b:Nat):Int):=by
 have hp:2 ^ b≤2 ^ 16:=AsT (by omega) hb
 have h1:(2:Nat) ^ 16=65536:=by decide
 have e:(BitVec.ofInt (IntKind.bits .u32) (x:Int) &&& BitVec.ofInt (IntKind.bits .u32) ((2 ^ b-1:Nat):Int)).toNat=x % 2 ^ b:=by
  rw[BitVec.toNat_and,Ary,Ary,AsD,AsD]
  have hbits:IntKind.bits .u32=32:=rfl
  rw[hbits,ArN (by omega),ArN (by omega),Nat.and_two_pow_sub_one_eq_mod]
 rw[e]
 have:=Nat.mod_le x (2 ^ b)
 exact IP (by omega)
theorem AWk{x p b:Nat}(hx:x<4294967296)(hb:1≤b)(hb2:b≤16)(hp:p<nps b):PW ((x:Int),(p:Int),(b:Int),())=some (((x/2 ^ (p*b) % 2 ^ b:Nat):Int),()):=by
 have hpb:=(AjL hb).1 hp
 have hn:=AMb (b:=b)
 rw[AIc,Q8]
 have ht:ABY ((p:Int),(b:Int),())=some (true,()):=by
  rw[AIW,Qz]
  rw[An,ApX (by omega)]
  simp only[MT hb hb2]
  rw[AL,ApX hp]
 have e1:IntKind.wrap .u64 (IntKind.wrap .i64 ((p:Int)*(b:Int)))=((p*b:Nat):Int):=by
  rw[← ArX,Ah (by omega),AKY (by omega)]
 have e2:IntKind.wrap .u64 (b:Int)=(b:Int):=AKY (by omega)
 have e3:shr? .u32 (x:Int) ((p*b:Nat):Int)=some ((x/2 ^ (p*b):Nat):Int):=by
  rw[AA7,Yw,Apg (by omega)]
  have:min ((p*b:Nat):Int).toNat (IntKind.bits .u32)=p*b:=by
   show min _ 32=_
   rw[AqX];omega
  rw[this]
  congr 1
  rw[show(2:Int) ^ (p*b)=((2 ^ (p*b):Nat):Int) by rw[Int.natCast_pow];rfl]
  exact(Int.ofNat_fdiv _ _).symm
 have h16:2 ^ b≤2 ^ 16:=AsT (by omega) hb2
 have h16':(2:Nat) ^ 16=65536:=by decide
 have hpos:=Asd b
 have e4:shl? .u32 (1:Int) (b:Int)=some ((2 ^ b:Nat):Int):=by
  rw[PL,Qv,Apg (by omega)]
  have:min (b:Int).toNat (IntKind.bits .u32)=b:=by
   show min _ 32=_
   rw[AqX];omega
  rw[this,Int.one_mul,show(2:Int) ^ b=((2 ^ b:Nat):Int) by rw[Int.natCast_pow];rfl,IP (by omega)]
 have e5:IntKind.wrap .u32 (((2 ^ b:Nat):Int)-1)=((2 ^ b-1:Nat):Int):=by
  rw[show((2 ^ b:Nat):Int)-1=((2 ^ b-1:Nat):Int) by omega,IP (by omega)]
 have hq:x/2 ^ (p*b)<4294967296:=Nat.lt_of_le_of_lt (Nat.div_le_self _ _) hx
 simp only[ht,Aph,e1,e2,e3,e4,e5]
 rw[AjR hq hb2]
section
variable {ks l:List Nat} {b p:Nat} (hk:∀ x∈ks,x<4294967296) (hb:1≤b) (hb2:b≤16) (hp:p<nps b) (hn:ks.length≤1000) (hl:l.Perm (List.range ks.length))
include hk hb hb2 hp hn hl
def dgt(ks:List Nat)(b p:Nat)(i:Nat):Nat:=ks.getD i 0/2 ^ (p*b) % 2 ^ b
omit hl hn in
theorem ANr{i:Nat}(hi:i<ks.length):∃ x:Nat,ks[i]? = some x∧PW ((x:Int),(p:Int),(b:Int),())=some ((dgt ks b p i:Int),())∧dgt ks b p i<2 ^ b:=by
 obtain⟨x,hx⟩:=BX hi
 refine⟨x,hx,?_,AsC _ (Asd b)⟩
 rw[AWk (hk x (Apm hx)) hb hb2 hp]
 unfold dgt
 rw[Apa,hx]
 rfl
def AZl(d:Nat→Nat)(l:List Nat):Nat→Int
 |0=>(0:Int)
 |v+1=>((bkt d l v).length:Int)
def M8(d:Nat→Nat)(B:Nat)(l:List Nat):List Int:=(List.range (B+1)).map (AZl d l)
omit hk hb hb2 hp hn hl in
theorem AOG(d:Nat→Nat)(B:Nat)(l:List Nat){j:Nat}(h:j<B+1):(M8 d B l)[j]? = some (AZl d l j):=by
 unfold M8
 rw[Ap7,Aq2 h];rfl
omit hk hb hb2 hp hn hl in
theorem AFH(d:Nat→Nat)(B:Nat)(l:List Nat):(M8 d B l).length=B+1:=by simp[M8]
omit hk hb hb2 hp hn hl in
theorem AUc(d:Nat→Nat)(l:List Nat)(x v:Nat):bkt d (l++[x]) v=bkt d l v++(if d x==v then [x]else []):=by
 unfold bkt
 rw[Aqu]
 congr 1
 simp[Aqo]
omit hk hb hb2 hp hn hl in
theorem Af7(d:Nat→Nat)(B:Nat)(l:List Nat)(x:Nat):M8 d B (l++[x])=(M8 d B l).set (d x+1) (((bkt d l (d x)).length+1:Nat):Int):=by
 apply Aqi
 intro j
 rw[ArA,AFH]
 by_cases hj:j<B+1
 ·rw[AOG d B _ hj]
  by_cases h:d x+1=j
  ·subst h
   rw[Apk rfl,Apk hj]
   simp[AZl,AUc]
  ·rw[Apg h,AOG d B _ hj]
   cases j with
   |zero=>rfl
   |succ v=>
    have:¬ d x=v:=fun e=>h (by omega)
    simp[AZl,AUc,this]
 ·rw[Apw (l:=M8 d B (l++[x])) (by rw[AFH];omega)]
  by_cases h:d x+1=j
  ·rw[Apk h,Apg (by omega)]
  ·rw[Apg h];exact(Apw (by rw[AFH];omega)).symm
def QM(d:Nat→Nat)(B:Nat)(l:List Nat)(k:Nat):List Int:=(List.range (B+1)).map fun v=>if v≤k then(Dy d l v:Int)else AZl d l v
omit hk hb hb2 hp hn hl in
theorem AgT(d:Nat→Nat)(B:Nat)(l:List Nat):QM d B l 0=M8 d B l:=by
 unfold QM M8
 refine ArH fun v _ => ?_
 cases v with
 |zero=>rfl
 |succ v=>rw[Apg (by omega)]
omit hk hb hb2 hp hn hl in
theorem Zt(d:Nat→Nat)(B:Nat)(l:List Nat)(k:Nat){v:Nat}(hv:v<B+1):(QM d B l k)[v]? = some (if v≤k then(Dy d l v:Int)else AZl d l v):=by
 unfold QM
 rw[Ap7,Aq2 hv];rfl
omit hk hb hb2 hp hn hl in
theorem AgU(d:Nat→Nat)(B:Nat)(l:List Nat){k:Nat}(h:k<B):(QM d B l k)[k]? = some (Dy d l k:Int)∧(QM d B l k)[k+1]? = some ((bkt d l k).length:Int)∧(QM d B l k).set (k+1) (Dy d l (k+1):Int)=QM d B l (k+1):=by
 refine⟨by rw[Zt d B l k (by omega),Apk (Apj _)],by rw[Zt d B l k (by omega),Apg (by omega)];rfl,?_⟩
 have hlen:∀ k,(QM d B l k).length=B+1:=fun k=>by simp[QM]
 apply Aqi
 intro j
 rw[ArA,hlen]
 by_cases hj:j<B+1
 ·rw[Zt d B l (k+1) hj]
  by_cases hjk:k+1=j
  ·subst hjk
   rw[Apk rfl,Apk hj,Apk (Apj _)]
  ·rw[Apg hjk,Zt d B l k hj]
   by_cases h1:j≤k
   ·rw[Apk h1,Apk (show j≤k+1 by omega)]
   ·rw[Apg h1,Apg (show ¬ j≤k+1 by omega)]
 ·rw[Apw (l:=QM d B l (k+1)) (by rw[hlen];omega)]
  by_cases hjk:k+1=j
  ·rw[Apk hjk,Apg (by omega)]
  ·rw[Apg hjk];exact Apw (by rw[hlen];omega)
def ADK(d:Nat→Nat)(B:Nat)(l:List Nat)(t:Nat):List Int:=(List.range (B+1)).map fun v=>((Dy d l v+(bkt d (l.take t) v).length:Nat):Int)
omit hk hb hb2 hp hn hl in
theorem ADJ(d:Nat→Nat)(B:Nat)(l:List Nat)(t:Nat){v:Nat}(h:v<B+1):(ADK d B l t)[v]? = some ((Dy d l v+(bkt d (l.take t) v).length:Nat):Int):=by
 unfold ADK
 rw[Ap7,Aq2 h];rfl
omit hk hb hb2 hp hn hl in
theorem AeB(d:Nat→Nat)(B:Nat)(l:List Nat){t x:Nat}(h:l[t]? = some x):(ADK d B l t).set (d x) ((Dy d l (d x)+(bkt d (l.take t) (d x)).length+1:Nat):Int)=ADK d B l (t+1):=by
 have hlen:∀ t,(ADK d B l t).length=B+1:=fun t=>by simp[ADK]
 apply Aqi
 intro j
 rw[ArA]
 by_cases hj:j<B+1
 ·have hb:bkt d (l.take (t+1)) j=bkt d (l.take t) j++(if d x==j then [x]else []):=by
   rw[Bh h]
   unfold bkt
   rw[Aqu]
   congr 1
   simp[Aqo]
  rw[ADJ d B l _ hj,ADJ d B l _ hj,hb]
  by_cases hx:d x=j
  ·subst hx
   rw[Apk rfl,Apk (by rw[hlen];exact hj)]
   simp
   omega
  ·rw[Apg hx]
   simp[hx]
 ·rw[Apw (l:=ADK d B l (t+1)) (by rw[hlen];omega)]
  by_cases hx:d x=j
  ·rw[Apk hx,Apg (by rw[hlen];omega)]
  ·rw[Apg hx];exact Apw (by rw[hlen];omega)
theorem AmH:rby (nI ks,nI l,(p:Int),(b:Int),())=some (nI (Ej (dgt ks b p) (2 ^ b) l),()):=by
 have h16:2 ^ b≤2 ^ 16:=AsT (by omega) hb2
 have h16':(2:Nat) ^ 16=65536:=by decide
 have hpos:=Asd b
 have hll:=hl.length_eq
 rw[AqA]at hll
 generalize hB:2 ^ b=B at *
 have hd:∀ {t x:Nat},l[t]? = some x→x<ks.length:=fun h=>AqC.1 (hl.mem_iff.1 (Apm h))
 have hdB:∀ i∈l,dgt ks b p i<B:=fun i hi=>by
  obtain⟨x,_,_,h⟩:=ANr hk hb hb2 hp (AqC.1 (hl.mem_iff.1 hi))
  rw[← hB];exact h
 have hbk:∀ (l':List Nat) v,(bkt (dgt ks b p) l' v).length≤l'.length:=fun l' v=>Arh _ _
 have hcs:=YM hdB
 have hst:∀ v,v≤B→Dy (dgt ks b p) l v≤1000:=fun v hv=>by
  have h1:=(AE1 (dgt ks b p) l v).length_eq
  have h2:=Arh (fun i=>decide (dgt ks b p i<v)) l
  unfold Dy
  omega
 rw[AiK,Aau]
 have e1:IntKind.wrap .u64 (b:Int)=(b:Int):=AKY (by omega)
 have e2:shl? .i64 (1:Int) (b:Int)=some (B:Int):=by
  rw[PL,Qv,Apg (by omega)]
  have:min (b:Int).toNat (IntKind.bits .i64)=b:=by
   show min _ 64=_
   rw[AqX];omega
  rw[this,Int.one_mul,show(2:Int) ^ b=((2 ^ b:Nat):Int) by rw[Int.natCast_pow];rfl,hB,Ah (by omega)]
 simp only[e1,e2]
 rw[AP (by omega)]
 simp only[D2 (show B+1≤4294967296 by omega),E8,AS,Bc]
 have q0:=FM (step:=PZ) (fun t=>(nI ks,nI l,(p:Int),(b:Int),M8 (dgt ks b p) B (l.take t),nI l,(l.length:Int),(t:Int),())) l.length (.inl (nI ks,nI l,(p:Int),(b:Int),M8 (dgt ks b p) B l,())) (by omega)
  (fun t ht=>by
   obtain⟨x,hx⟩:=BX ht
   obtain⟨y,hy,hdv,hlt⟩:=ANr hk hb hb2 hp (hd hx)
   rw[hB]at hlt
   have hc:(M8 (dgt ks b p) B (l.take t))[dgt ks b p x+1]? = some ((bkt (dgt ks b p) (l.take t) (dgt ks b p x)).length:Int):=AOG _ _ _ (by omega)
   have hbl:=hbk (l.take t) (dgt ks b p x)
   rw[Aps]at hbl
   have hw:IntKind.wrap .u32 ((dgt ks b p x:Int)+1)=((dgt ks b p x+1:Nat):Int):=by
    rw[show(dgt ks b p x:Int)+1=((dgt ks b p x+1:Nat):Int) by omega,IP (by omega)]
   rw[PZ,AL,ApX ht]
   simp only[AW (DS hx),AW (DS hy),hdv,hw,AW hc,BJ hc,DW]
   rw[AP (by omega),AP (by omega),Bh hx,Af7])
  (by rw[PZ,AL,ApW (by omega),AqF])
 have z0:M8 (dgt ks b p) B (l.take 0)=List.replicate (B+1) (0:Int):=by
  rw[List.take_zero]
  unfold M8
  apply Ar1 (by simp)
  intro i _ _
  cases i<;>simp[bkt,AZl]
 rw[z0]at q0
 have q0':AU PZ many (nI ks,nI l,(p:Int),(b:Int),List.replicate (B+1) (0:Int),nI l,(l.length:Int),(0:Int),())=_:=q0
 simp only[q0']
 have q1:=FM (step:=PY) (fun k=>(nI ks,nI l,(p:Int),(b:Int),QM (dgt ks b p) B l k,(B:Int),(k:Int),())) B (.inl (nI ks,nI l,(p:Int),(b:Int),QM (dgt ks b p) B l B,())) (by omega)
  (fun k hk'=>by
   obtain⟨g1,g2,g3⟩:=AgU (dgt ks b p) B l hk'
   have hb1:=hbk l k
   have hb2:=hst k (by omega)
   rw[PY,AL,ApX hk']
   rw[AP (by omega)]
   simp only[AW g1,AW g2,BJ g1,BJ g2,DW]
   rw[wrap_add (by omega),← g3,AUV,Nat.add_comm (bkt (dgt ks b p) l k).length])
  (by rw[PY,AL,ApW (by omega)])
 rw[AgT]at q1
 have q1':AU PY many (nI ks,nI l,(p:Int),(b:Int),M8 (dgt ks b p) B l,(B:Int),(0:Int),())=_:=q1
 have hcl:((M8 (dgt ks b p) B l).length:Int)-1=(B:Int):=by simp[M8]
 rw[hcl,Ah (by omega)]
 simp only[q1',Bc,D2 (show l.length≤4294967296 by omega),E8]
 have hnd:l.Nodup:=hl.nodup_iff.2 Aq8
 have hpi:∀ t,t<l.length→(Ej (dgt ks b p) B l)[OW (dgt ks b p) l t]? = some (l.getD t 0):=fun t ht=>by
  obtain⟨x,hx⟩:=BX ht
  rw[ATx hdB hx,Apa,hx];rfl
 have hinj:∀ i∈List.range l.length,∀ j∈List.range l.length,OW (dgt ks b p) l i=OW (dgt ks b p) l j→i=j:=fun i hi j hj he=>by
  have hi:=AqC.1 hi
  have hj:=AqC.1 hj
  have h1:=hpi i hi
  have h2:=hpi j hj
  rw[he,h2]at h1
  obtain⟨x,hx⟩:=BX hi
  obtain⟨y,hy⟩:=BX hj
  have h3:=Aqj h1
  rw[Apa,Apa,hx,hy]at h3
  simp only[AqT]at h3
  subst h3
  exact(AsJ (Bd hx) hnd).1 (hx.trans hy.symm)
 have q2:=FM (step:=PX) (fun t=>(nI ks,(p:Int),(b:Int),ADK (dgt ks b p) B l t,(List.range t).foldl (fun a i=>a.set (OW (dgt ks b p) l i) ((l.getD i 0:Nat):Int)) (List.replicate l.length (0:Int)),nI l,(l.length:Int),(t:Int),())) l.length (.inl (nI (Ej (dgt ks b p) B l),())) (by omega)
  (fun t ht=>by
   obtain⟨x,hx⟩:=BX ht
   obtain⟨y,hy,hdv,hlt⟩:=ANr hk hb hb2 hp (hd hx)
   rw[hB]at hlt
   have hg:l.getD t 0=x:=by rw[Apa,hx];rfl
   have hc:=ADJ (dgt ks b p) B l t (v:=dgt ks b p x) (by omega)
   have hbl:=hbk (l.take t) (dgt ks b p x)
   rw[Aps]at hbl
   have hs1:=hst (dgt ks b p x) (by omega)
   have hbp:Dy (dgt ks b p) l (dgt ks b p x)+(bkt (dgt ks b p) (l.take t) (dgt ks b p x)).length=OW (dgt ks b p) l t:=by unfold OW;rw[hg]
   have hplt:OW (dgt ks b p) l t<l.length:=by
    have:=Bd (hpi t ht)
    rw[hcs.length_eq]at this;exact this
   obtain⟨z,hz⟩:=BX (xs:=(List.range t).foldl (fun a i=>a.set (OW (dgt ks b p) l i) ((l.getD i 0:Nat):Int)) (List.replicate l.length (0:Int))) (i:=OW (dgt ks b p) l t) (by
    rw[HC (OW (dgt ks b p) l) (fun i=>((l.getD i 0:Nat):Int)),AqP];exact hplt)
   rw[PX,AL,ApX ht]
   simp only[AW (DS hx),AW (DS hy),hdv,AW hc,BJ hc]
   rw[hbp]at hc ⊢
   simp only[AW hz,DW]
   rw[AP (by omega),AP (by omega),← AeB (dgt ks b p) B l hx,hbp,AqR,ArV]
   simp only[Aqd,List.foldl_nil,hg])
  (by
   rw[PX,AL,ApW (by omega)]
   have hput:=ATN (g:=OW (dgt ks b p) l) (v:=fun i=>((l.getD i 0:Nat):Int)) (List.range l.length) (List.replicate l.length (0:Int)) Aq8 hinj
   have:(List.range l.length).foldl (fun a i=>a.set (OW (dgt ks b p) l i) ((l.getD i 0:Nat):Int)) (List.replicate l.length (0:Int))=nI (Ej (dgt ks b p) B l):=by
    apply Aqi
    intro j
    by_cases hj:j<l.length
    ·obtain⟨x,hx⟩:=BX (xs:=Ej (dgt ks b p) B l) (i:=j) (by rw[hcs.length_eq];exact hj)
     obtain⟨t,ht⟩:=Arm (hcs.mem_iff.1 (Apm hx))
     have htl:=Bd ht
     have hpt:=ATx hdB ht
     have hcn:(Ej (dgt ks b p) B l).Nodup:=hcs.nodup_iff.2 hnd
     have hje:OW (dgt ks b p) l t=j:=(AsJ (Bd hpt) hcn).1 (hpt.trans hx.symm)
     have:=hput t (AqC.2 htl) (by rw[AqP,hje];exact hj)
     rw[hje]at this
     rw[this,DS hx,Apa,ht];rfl
    ·rw[Apw (by rw[HC (OW (dgt ks b p) l) (fun i=>((l.getD i 0:Nat):Int)),AqP];omega),Apw (by rw[Bc,hcs.length_eq];omega)]
   rw[this])
 have z2:QM (dgt ks b p) B l B=ADK (dgt ks b p) B l 0:=by
  unfold QM ADK
  refine ArH fun v hv => ?_
  rw[Apk (by have:=AqC.1 hv;omega)]
  simp[bkt]
 rw[z2]
 have q2':AU PX many (nI ks,(p:Int),(b:Int),ADK (dgt ks b p) B l 0,List.replicate l.length (0:Int),nI l,(l.length:Int),(0:Int),())=_:=q2
 simp only[q2']
end
end Go.Pev.Pl
end
section
namespace Go.Pev.Pl
abbrev An9:=Int×Int×List (List Int)×Unit
abbrev AHt:=Int×Int×An9×Unit
def O4(w:AHt):Prop:=1≤w.1∧w.1≤16∧1≤w.2.1∧w.2.1≤100∧G1 w.2.2.1
def Y0(ks:List Nat)(i:Nat):Nat:=ks.getD i 0
def Ai9(ks:List Nat)(b:Nat):List Nat:=ABd (Y0 ks) b (List.range ks.length) (nps b)
def srt(ks:List Nat)(b:Nat):List Nat:=(Ai9 ks b).map (Y0 ks)
theorem AIu(ks:List Nat)(b:Nat):(Ai9 ks b).Perm (List.range ks.length):=(AIX _ _ _ _).1
theorem MN(ks:List Nat)(b:Nat):(srt ks b).Perm ks:=by
 have h:=(AIu ks b).map (Y0 ks)
 have:(List.range ks.length).map (Y0 ks)=ks:=by
  apply Ar1 (by simp)
  intro i h1 h2
  simp[Y0,ApZ h2]
 rw[this]at h
 exact h
section
variable {ks:List Nat} {b c:Nat} {p:An9} (hk:∀ x∈ks,x<4294967296) (hn:ks.length≤1000)
theorem AdJ(hb:1≤b)(hb2:b≤16)(hc:1≤c)(hc2:c≤100)(hk:∀ x∈ks,x<4294967296)(hn:ks.length≤1000){U:List Nat}{k:Nat}(hkk:k≤40000)(hU:U.Perm (List.range (nbl ks.length c)))(hf:CO ((nbl ks.length c:Int),p,())=some (nI U,(k:Int),0,())):
  ABe (nI ks,(b:Int),(c:Int),p,())=some (nI (Ai9 ks b),((2*k*nps b:Nat):Int),0,()):=by
 have e0:ieq (0:Int) 0=true:=by rw[Ag];rfl
 have hnp:=AMb (b:=b)
 have hnp1:=AbD hb
 have hs:=AIE (xs:=nI ks) (b:=c) (by rw[Bc];exact hn) hc hc2 (p:=p) (U:=U) (k:=k) hkk (by rw[Bc];exact hU) (by rw[Bc];exact hf)
 obtain⟨a,d,q,u⟩:=p
 rw[ABc,Q1]
 simp only[MT hb hb2]
 rw[Ag,ApW (by omega)]
 simp only[hs,e0,Aph,AS,Bc]
 have q0:=FM (step:=Hc) (fun i=>(nI ks,(b:Int),(nps b:Int),((2*k:Nat):Int),nI (List.range i),(ks.length:Int),(i:Int),())) ks.length (.inl (nI ks,(b:Int),(nps b:Int),((2*k:Nat):Int),nI (List.range ks.length),())) (by omega)
  (fun i hi=>by
   rw[Hc,AL,ApX hi,AS,Bc,AqA,AS]
   simp only[Api,Apt]
   rw[Bj (by omega),AP (by omega)]
   simp only[ET]
   rw[AqR]
   unfold nI
   rw[AqZ]
   rfl)
  (by rw[Hc,AL,ApW (by omega)])
 have q0':AU Hc many (nI ks,(b:Int),(nps b:Int),((2*k:Nat):Int),([]:List Int),(ks.length:Int),(0:Int),())=_:=q0
 simp only[q0']
 have q1:=FM (step:=Hb) (fun i=>(nI ks,(b:Int),(nps b:Int),((2*k:Nat):Int),nI (ABd (Y0 ks) b (List.range ks.length) i),(nps b:Int),(i:Int),())) (nps b) (.inl ((nps b:Int),((2*k:Nat):Int),nI (Ai9 ks b),())) (by omega)
  (fun i hi=>by
   have hp:=(AIX (Y0 ks) b (List.range ks.length) i).1
   rw[Hb,AL,ApX hi]
   simp only[AmH hk hb hb2 hi hn hp]
   rw[AP (by omega)]
   rfl)
  (by rw[Hb,AL,ApW (by omega)];rfl)
 have q1':AU Hb many (nI ks,(b:Int),(nps b:Int),((2*k:Nat):Int),nI (List.range ks.length),(nps b:Int),(0:Int),())=_:=q1
 simp only[q1']
 have hmul:2*k*nps b≤80000*47:=ArF (by omega) hnp
 rw[← ArX,Ah (by omega)]
theorem AdL{xs:List Int}{w:AHt}(h:¬ (O4 w∧xs.length≤1000)):ABe (xs,w.1,w.2.1,w.2.2.1,())=some ([],0,1,()):=by
 obtain⟨b,c,⟨a,d,q,u⟩,v⟩:=w
 rw[ABc,Q1]
 by_cases h1:1≤b∧b≤16
 ·obtain⟨b,rfl⟩:=Apl (show 0≤b by omega)
  have hp:=AbD (b:=b) (by omega)
  have e1:ieq (1:Int) 0=false:=by rw[Ag];rfl
  have h2:=Acr (xs:=xs) (b:=c) (p:=(a,d,q,u)) (fun hx=>h ⟨⟨h1.1,h1.2,hx.1,hx.2.1,hx.2.2.2⟩,hx.2.2.1⟩)
  simp only[MT (b:=b) (by omega) (by omega)]
  rw[Ag,ApW (by omega)]
  have h2':XY (xs,c,(a,d,q,()),())=some ([],0,0,1,()):=h2
  simp only[h2',e1,Ap8]
 ·simp only[AQm h1]
  rw[Ag,ApX rfl]
theorem AdO{l:List Nat}{n:Nat}(hl:l.Perm (List.range n))(hn:n≤1000):AQu (nI l,(n:Int),())=some (true,()):=by
 have hll:=hl.length_eq
 rw[AqA]at hll
 have hnd:l.Nodup:=hl.nodup_iff.2 Aq8
 rw[AQt,Za]
 have q:=FM (step:=Hd) (fun i=>(nI l,(n:Int),M1 (l.take i),nI l,(l.length:Int),(i:Int),())) l.length (.inr (.inl (nI l,(n:Int),()))) (by omega)
  (fun i hi=>by
   obtain⟨x,hx⟩:=BX hi
   have hxn:x<n:=AqC.1 (hl.mem_iff.1 (Apm hx))
   have hnot:x∉l.take i:=by
    intro hm
    obtain⟨j,hj⟩:=Arm hm
    rw[AqV]at hj
    split at hj
    ·have:=(AsJ (Bd hj) hnd).1 (hj.trans hx.symm)
     omega
    ·cases hj
   obtain⟨m1,m2⟩:=AUz hnot
   have hw1:IntKind.wrap .i64 (((AR (M1 (l.take i)) (x:Int)).getD (0:Int))+(1:Int))=1:=by
    rw[m2];exact Ah (by decide)
   have hlk:AR (M1 (l.take i++[x])) (x:Int)=some 1:=by
    rw[← m1,Di,Apk rfl]
   rw[Hd,AL,ApX hi]
   simp only[AW (DS hx)]
   rw[Ae,ApW (by omega),DF,ApW (by omega)]
   simp only[hw1,m1,hlk,AqT]
   rw[Ae,ApW (by decide),AP (by omega),Bh hx])
  (by rw[Hd,AL,ApW (by omega)])
 have q':AU Hd many (nI l,(n:Int),([]:List (Int×Int)),nI l,(l.length:Int),(0:Int),())=_:=q
 simp only[AS,Bc,q']
 rw[AM5,ApX hll]
theorem Ajd{i:Nat}(h:i<ks.length):ks[i]? = some (Y0 ks i):=by
 unfold Y0
 rw[Apa,ApZ h];rfl
theorem AQb{l:List Nat}(hl:l.Perm (List.range ks.length))(hn:ks.length≤1000):Np (nI ks,nI l,())=some (nI (l.map (Y0 ks)),true,()):=by
 have hll:=hl.length_eq
 rw[AqA]at hll
 rw[ABb,No]
 simp only[AS,Bc,AdO hl hn,Aph]
 have q:=FM (step:=EM) (fun i=>(nI ks,nI ((l.take i).map (Y0 ks)),nI l,(l.length:Int),(i:Int),())) l.length (.inl (nI (l.map (Y0 ks)),())) (by omega)
  (fun i hi=>by
   obtain⟨x,hx⟩:=BX hi
   have hxn:x<ks.length:=AqC.1 (hl.mem_iff.1 (Apm hx))
   rw[EM,AL,ApX hi]
   simp only[AW (DS hx),AW (DS (Ajd hxn)),AS,Bc,Ap1,Aps,Api,Apt]
   rw[Bj (by omega),AP (by omega),Bh hx]
   simp only[ET]
   unfold nI
   simp)
  (by rw[EM,AL,ApW (by omega),AqF])
 have q':AU EM many (nI ks,([]:List Int),nI l,(l.length:Int),(0:Int),())=_:=q
 simp only[q']
theorem ATo(s:List Int)(hl:s.length≤1000000):Rw (s,())=some (P2 s,()):=by
 rw[AEu,N8]
 have q:=FM (step:=ES) (fun i=>(s,L8 s.length (fun i=>decide (i=0)||decide (s.getD (i-1) 0≠s.getD i 0)) false i,s,(s.length:Int),(i:Int),())) s.length (.inl (P2 s,())) (by omega)
  (fun i hi=>by
   obtain⟨x,hx⟩:=BX hi
   obtain⟨y,hy⟩:=BX (xs:=L8 s.length (fun i=>decide (i=0)||decide (s.getD (i-1) 0≠s.getD i 0)) false i) (i:=i) (by rw[Mg];exact hi)
   rw[ES,AL,ApX hi]
   simp only[AW hx,AW hy,DW]
   rw[AP (by omega),← ADD,Ag]
   by_cases h0:i=0
   ·subst h0
    rw[ApX (by rfl)]
    rfl
   ·obtain⟨j,rfl⟩:∃ j,i=j+1:=⟨i-1,by omega⟩
    obtain⟨z,hz⟩:=BX (xs:=s) (i:=j) (by omega)
    rw[ApW (by omega),show((j+1:Nat):Int)-1=(j:Int) by omega,Ah (by omega)]
    simp only[AW hz]
    have e1:s.getD j 0=z:=by rw[Apa,hz];rfl
    have e2:s.getD (j+1) 0=x:=by rw[Apa,hx];rfl
    have:(!(ieq z x))=(decide (j+1=0)||decide (s.getD (j+1-1) 0≠s.getD (j+1) 0)):=by
     rw[Nat.add_sub_cancel,e1,e2,Ag];simp
    rw[this])
  (by rw[ES,AL,ApW (by omega),ADF];rfl)
 rw[UQ]at q
 have q':AU ES many (s,List.replicate s.length false,s,(s.length:Int),(0:Int),())=_:=q
 simp only[AS,D2 (show s.length≤4294967296 by omega),E8,q']
def ADI(s:List Int):List Int:=(kept (P2 s) s.length).map fun i=>s.getD i 0
theorem AD8(s:List Int):(P2 s).length=s.length:=by simp[P2]
theorem ATJ{s:List Int}{i:Nat}(h:i<s.length):(P2 s).getD i false=(decide (i=0)||decide (s.getD (i-1) 0≠s.getD i 0)):=by
 unfold P2
 rw[Apa,Ap7,Aq2 h];rfl
theorem ADQ{s:List Int}{x:Int}:x∈ADI s↔x∈s:=by
 unfold ADI
 rw[Apx]
 constructor
 ·rintro⟨i,hi,rfl⟩
  have:=AqC.1 (AqB.1 hi).1
  rw[Apa,ApZ this]
  exact ArQ this
 ·intro h
  have key:∀ i,i<s.length→s.getD i 0=x→∃ j,j∈kept (P2 s) s.length∧s.getD j 0=x:=by
   intro i
   induction i with
   |zero=>
    intro hi hx
    exact⟨0,AqB.2 ⟨AqC.2 hi,by rw[ATJ hi];rfl⟩,hx⟩
   |succ i ih=>
    intro hi hx
    by_cases hp:s.getD i 0=x
    ·exact ih (by omega) hp
    ·refine⟨i+1,AqB.2 ⟨AqC.2 hi,?_⟩,hx⟩
     rw[ATJ hi,Nat.add_sub_cancel,hx,ApX hp]
     simp
  obtain⟨i,hi⟩:=Arm h
  exact key i (Bd hi) (by rw[Apa,hi];rfl)
theorem ATl(hb:1≤b)(hb2:b≤16)(hc:1≤c)(hc2:c≤100)(hk:∀ x∈ks,x<4294967296)(hn:ks.length≤1000){U V:List Nat}{k m:Nat}(hkk:k≤40000)(hmm:m≤40000)(hU:U.Perm (List.range (nbl ks.length c)))(hf:CO ((nbl ks.length c:Int),p,())=some (nI U,(k:Int),0,()))
  (hV:V.Perm (List.range ks.length)) (hf2:CO ((ks.length:Int),p,())=some (nI V,(m:Int),0,())) :
  ∃ T,N7 (nI ks,((b:Int),(c:Int),p,()),())=some (ADI (nI (srt ks b)),T,((2*k*nps b+(2*k+m):Nat):Int),0,()):=by
 have e0:ieq (0:Int) 0=true:=by rw[Ag];rfl
 have hnp:=AMb (b:=b)
 have hmul:2*k*nps b≤80000*47:=ArF (by omega) hnp
 have hsl:(srt ks b).length=ks.length:=(MN ks b).length_eq
 have h1:=AdJ (p:=p) hb hb2 hc hc2 hk hn hkk hU hf
 have h2:=AQb (AIu ks b) hn
 have h2':Np (nI ks,nI (Ai9 ks b),())=some (nI (srt ks b),true,()):=h2
 have h3:=ATo (nI (srt ks b)) (by rw[Bc,hsl];omega)
 have hfl:(P2 (nI (srt ks b))).length=ks.length:=by rw[AD8,Bc,hsl]
 have h4:=AWp (keep:=P2 (nI (srt ks b))) (b:=c) (p:=p) (U:=U) (V:=V) (k:=k) (m:=m) (by rw[hfl];exact hn) hc hc2 hkk hmm (by rw[hfl];exact hU) (by rw[hfl];exact hf) (by rw[hfl];exact hV) (by rw[hfl];exact hf2)
 obtain⟨a,d,q,u⟩:=p
 rw[QB,J5]
 simp only[h1,e0,Aph,h2',h3,h4]
 generalize hP:kept (P2 (nI (srt ks b))) (P2 (nI (srt ks b))).length=P
 generalize hS:nI (srt ks b)=S at *
 have hSl:S.length=ks.length:=by rw[← hS,Bc,hsl]
 have hPl:P.length≤1000:=by
  rw[← hP]
  have:=Zi (P2 S) (P2 S).length
  rw[hfl]at this ⊢
  omega
 have hPm:∀ {i x:Nat},P[i]? = some x→S[x]? = some (S.getD x 0)∧x≤1000:=fun {i x} hx=>by
  have:=Apm hx
  rw[← hP]at this
  have:=AqC.1 (AqB.1 this).1
  rw[AD8]at this
  exact⟨by rw[Apa,ApZ this];rfl,by omega⟩
 let tm:Nat→Int:=fun i=>if i+1<P.length then IntKind.wrap .i64 ((P.getD (i+1) 0:Nat)-(P.getD i 0:Nat):Int)else IntKind.wrap .i64 ((S.length:Int)-(P.getD i 0:Nat))
 have Q:=FM (step:=ER) (fun i=>(((2*k*nps b:Nat):Int),S,nI P,((2*k+m:Nat):Int),(P.take i).map (fun i=>S.getD i 0),(List.range i).map tm,(P.length:Int),(i:Int),())) P.length
  (.inl (((2*k*nps b:Nat):Int),((2*k+m:Nat):Int),P.map (fun i=>S.getD i 0),(List.range P.length).map tm,())) (by omega)
  (fun i hi=>by
   obtain⟨x,hx⟩:=BX hi
   obtain⟨s1,s2⟩:=hPm hx
   have hg:P.getD i 0=x:=by rw[Apa,hx];rfl
   rw[ER,AL,ApX hi]
   simp only[AW (DS hx),BJ (DS hx),AS,Bc]
   rw[AP (by omega),AL]
   simp only[AW s1,BJ s1,Ap1,Aps,AqA,Api,Apt]
   rw[Bj (by omega),Bj (by omega)]
   simp only[ET]
   rw[Bh hx,AqR,AqZ,AqZ]
   by_cases h1:i+1<P.length
   ·obtain⟨y,hy⟩:=BX h1
    have hgy:P.getD (i+1) 0=y:=by rw[Apa,hy];rfl
    have:tm i=IntKind.wrap .i64 ((y:Int)-(x:Int)):=by
     show(if i+1<P.length then _ else _)=_
     rw[Apk h1,hgy,hg]
    simp only[ApX h1,AW (DS hy),BJ (DS hy),AqE,ArM,this]
   ·have:tm i=IntKind.wrap .i64 ((S.length:Int)-(x:Int)):=by
     show(if i+1<P.length then _ else _)=_
     rw[Apg h1,hg]
    simp only[ApW h1,AqE,ArM,this])
  (by rw[ER,AL,ApW (by omega),AqF])
 have Q':AU ER many (((2*k*nps b:Nat):Int),S,nI P,((2*k+m:Nat):Int),([]:List Int),([]:List Int),(P.length:Int),(0:Int),())=_:=Q
 refine⟨(List.range P.length).map tm,?_⟩
 simp only[Bc,AS,Q']
 rw[wrap_add (by omega)]
 have:ADI S=P.map fun i=>S.getD i 0:=by
  unfold ADI
  rw[← hP,AD8]
 rw[this]
end
end Go.Pev.Pl
end
section
namespace Go.Pev.Pl
inductive Tok where
 |ver (v:Int)
 |arc (u v:Int)
 deriving DecidableEq
namespace Tok
def st:Tok→Int
 |.ver v=>v
 |.arc _ v=>v
def step(s:List Int×List Int):Tok→Option (List Int×List Int)
 |.ver v=>match s.1 with
  |w::_=>if w=v then some s else none
  |[]=>none
 |.arc u v=>match s.1 with
  |w::r=>if w=u then match r with
    |p::r'=>if p=v then some (p::r',s.2)else if v∈s.2 then none else some (v::w::r,v::s.2)
    |[]=>if v∈s.2 then none else some (v::w::r,v::s.2)
   else none
  |[]=>none
def run:List Int×List Int→List Tok→Option (List Int×List Int)
 |s,[]=>some s
 |s,t::l=>match step s t with
  |some s=>run s l
  |none=>none
theorem DO(s:List Int×List Int)(a b:List Tok):run s (a++b)=(run s a).bind fun s=>run s b:=by
 induction a generalizing s with
 |nil=>rfl
 |cons t a ih=>
  simp only[Ap2,run]
  cases step s t with
  |none=>rfl
  |some s=>exact ih s
theorem Bw{s s':List Int×List Int}{t:Tok}(h:step s t=some s'):
  (∃ v r,t = .ver v∧s.1=v::r∧s'=s) ∨
  (∃ u v r,t = .arc u v∧s.1=u::v::r∧s'=(v::r,s.2)) ∨
  (∃ u v r,t = .arc u v∧s.1=u::r∧r.head?≠some v∧v∉s.2∧s'=(v::u::r,v::s.2)):=by
 obtain⟨way,c⟩:=s
 cases t with
 |ver v=>
  cases way with
  |nil=>simp[step]at h
  |cons w r=>
   simp only[step]at h
   split at h
   ·rename_i e;cases h;exact .inl ⟨v,r,rfl,by simp[e],rfl⟩
   ·cases h
 |arc u v=>
  cases way with
  |nil=>simp[step]at h
  |cons w r=>
   simp only[step]at h
   split at h
   ·rename_i e
    subst e
    cases r with
    |nil=>
     simp only at h
     split at h
     ·cases h
     ·rename_i hc;cases h;exact .inr (.inr ⟨w,v,[],rfl,rfl,by simp,hc,rfl⟩)
    |cons p r=>
     simp only at h
     split at h
     ·rename_i e;subst e;cases h;exact .inr (.inl ⟨w,p,r,rfl,rfl,rfl⟩)
     ·split at h
      ·cases h
      ·rename_i e hc;cases h;exact .inr (.inr ⟨w,v,p::r,rfl,rfl,by simpa using e,hc,rfl⟩)
   ·cases h
theorem DM(v:Int)(r c:List Int):step (v::r,c) (.ver v)=some (v::r,c):=by simp[step]
theorem Gb(u v:Int)(r c:List Int):step (u::v::r,c) (.arc u v)=some (v::r,c):=by simp[step]
theorem FU(u v:Int)(r c:List Int)(h1:r.head?≠some v)(h2:v∉c):step (u::r,c) (.arc u v)=some (v::u::r,v::c):=by
 cases r with
 |nil=>simp[step,h2]
 |cons p r=>
  have:p≠v:=by simpa using h1
  simp[step,h2,this]
def Inv(s:List Int×List Int):Prop:=s.1.Nodup∧(∀ x∈s.1,x∈s.2)
theorem AAv{s s':List Int×List Int}{t:Tok}(h:step s t=some s')(hi:Inv s):Inv s'∧(∀ x∈s.2,x∈s'.2)∧s'.1.head? = some t.st:=by
 obtain⟨way,c⟩:=s
 obtain⟨h1,h2⟩:=hi
 rcases Bw h with⟨v,r,rfl,hw,rfl⟩|⟨u,v,r,rfl,hw,rfl⟩|⟨u,v,r,rfl,hw,_,hn,rfl⟩
 ·exact⟨⟨h1,h2⟩,fun x hx=>hx,by rw[hw];rfl⟩
 ·simp only at hw h1 h2
  subst hw
  refine⟨⟨?_,?_⟩,fun x hx=>hx,rfl⟩
  ·exact(Ap9.1 h1).2
  ·intro x hx;exact h2 x (by simp only at hx;simp[Ape.1 hx])
 ·simp only at hw h1 h2 hn
  subst hw
  refine⟨⟨?_,?_⟩,fun x hx=>by simp[hx],rfl⟩
  ·exact Ap9.2 ⟨fun hm=>hn (h2 _ hm),h1⟩
  ·intro x hx
   rcases Ape.1 hx with rfl|hx
   ·simp
   ·exact Ap5 _ (h2 x hx)
theorem IW{l:List Tok}:∀ {s s':List Int×List Int},run s l=some s'→Inv s→Inv s'∧(∀ x∈s.2,x∈s'.2)∧∀ t,l.getLast? = some t→s'.1.head? = some t.st:=by
 induction l with
 |nil=>intro s s' h hi;cases h;exact⟨hi,fun x hx=>hx,fun t ht=>by simp at ht⟩
 |cons t l ih=>
  intro s s' h hi
  simp only[run]at h
  split at h
  ·rename_i s1 h1
   obtain⟨q1,q2,q3⟩:=AAv h1 hi
   obtain⟨p1,p2,p3⟩:=ih h q1
   refine⟨p1,fun x hx=>p2 x (q2 x hx),fun t' ht' => ?_⟩
   cases l with
   |nil=>simp at ht';subst ht';simp only[run]at h;cases h;exact q3
   |cons y l=>exact p3 t' (by rw[Asl]at ht';exact ht')
  ·cases h
theorem HL{Z:Int→Prop}:∀ {l:List Tok} {way way' c d c2 low:List Int},run (way,c) l=some (way',d)→way≠[]→(∀ x,x∈c2↔x∈c∨Z x) →
  (∀ u v,.arc u v∈l→¬ Z v)→(∀ y∈low,Z y)→∃ d2,run (way++low,c2) l=some (way'++low,d2)∧(∀ x,x∈d2↔x∈d∨Z x):=by
 intro l
 induction l with
 |nil=>intro way way' c d c2 low h _ hc _ _;cases h;exact⟨c2,rfl,hc⟩
 |cons t l ih=>
  intro way way' c d c2 low h hne hc hz hl
  simp only[run]at h
  split at h
  ·rename_i s1 h1
   have hz':∀ u v,Tok.arc u v∈l→¬ Z v:=fun u v hm=>hz u v (Ap5 _ hm)
   rcases Bw h1 with⟨v,r,rfl,hw,rfl⟩|⟨u,v,r,rfl,hw,rfl⟩|⟨u,v,r,rfl,hw,hh,hn,rfl⟩
   ·simp only at hw
    subst hw
    obtain⟨d2,e1,e2⟩:=ih h hne hc hz' hl
    exact⟨d2,by simp only[run,Ap2,DM];exact e1,e2⟩
   ·simp only at hw
    subst hw
    obtain⟨d2,e1,e2⟩:=ih h (by simp) hc hz' hl
    exact⟨d2,by simp only[run,Ap2,Gb];exact e1,e2⟩
   ·simp only at hw hn
    subst hw
    have hzv:=hz u v (by simp)
    have hn2:v∉c2:=by rw[hc];rintro (h|h);exact hn h;exact hzv h
    have hh2:(r++low).head?≠some v:=by
     cases r with
     |nil=>
      cases low with
      |nil=>simp
      |cons y low=>
       simp only[AqK,List.head?_cons,ne_eq,ApY]
       rintro rfl
       exact hzv (hl _ (by simp))
     |cons p r=>simpa using hh
    obtain⟨d2,e1,e2⟩:=ih (c2:=v::c2) h (by simp) (by intro x;simp only[Ape,hc,or_assoc]) hz' hl
    exact⟨d2,by simp only[run,Ap2,FU _ _ _ _ hh2 hn2];exact e1,e2⟩
  ·cases h
theorem ABU{z:Int}:∀ {l:List Tok} {way way' c2 d2 c:List Int},run (way,c2) l=some (way',d2)→z∉way→(∀ x,x∈c2↔x∈c∨x=z)→z∉c →
  .ver z∉l∧∃ d,run (way,c) l=some (way',d)∧(∀ x,x∈d2↔x∈d∨x=z)∧z∉d:=by
 intro l
 induction l with
 |nil=>intro way way' c2 d2 c h _ hc hz;cases h;exact⟨by simp,c,rfl,hc,hz⟩
 |cons t l ih=>
  intro way way' c2 d2 c h hzw hc hz
  simp only[run]at h
  split at h
  ·rename_i s1 h1
   rcases Bw h1 with⟨v,r,rfl,hw,rfl⟩|⟨u,v,r,rfl,hw,rfl⟩|⟨u,v,r,rfl,hw,hh,hn,rfl⟩
   ·simp only at hw
    subst hw
    obtain⟨e0,d,e1,e2,e3⟩:=ih h hzw hc hz
    refine⟨?_,d,by simp only[run,DM];exact e1,e2,e3⟩
    rintro hm
    rcases Ape.1 hm with hm|hm
    ·cases hm;exact hzw (by simp)
    ·exact e0 hm
   ·simp only at hw
    subst hw
    obtain⟨e0,d,e1,e2,e3⟩:=ih h (fun hm=>hzw (Ap5 _ hm)) hc hz
    refine⟨?_,d,by simp only[run,Gb];exact e1,e2,e3⟩
    rintro hm
    rcases Ape.1 hm with hm|hm
    ·cases hm
    ·exact e0 hm
   ·simp only at hw hn
    subst hw
    have hvz:v≠z:=by rintro rfl;exact hn ((hc v).2 (.inr rfl))
    have hn':v∉c:=fun hm=>hn ((hc v).2 (.inl hm))
    obtain⟨e0,d,e1,e2,e3⟩:=ih (c:=v::c) h (by intro hm;rcases Ape.1 hm with hm|hm;exact hvz hm.symm;exact hzw hm)
     (by intro x;simp only[Ape,hc,or_assoc])
     (by intro hm;rcases Ape.1 hm with hm|hm;exact hvz hm.symm;exact hz hm)
    refine⟨?_,d,by simp only[run,FU _ _ _ _ hh hn'];exact e1,e2,e3⟩
    rintro hm
    rcases Ape.1 hm with hm|hm
    ·cases hm
    ·exact e0 hm
  ·cases h
def Rot(a b:List Tok):Prop:=∃ x y,a=x++y∧b=y++x
theorem Rot.refl(a:List Tok):Rot a a:=⟨[],a,rfl,by simp⟩
theorem Rot.symm{a b:List Tok}(h:Rot a b):Rot b a:=by obtain⟨x,y,h1,h2⟩:=h;exact⟨y,x,h2,h1⟩
theorem Rot.trans{a b c:List Tok}(h:Rot a b)(g:Rot b c):Rot a c:=by
 obtain⟨x,y,rfl,h2⟩:=h
 obtain⟨z,w,h3,rfl⟩:=g
 rw[h2]at h3
 rcases List.append_eq_append_iff.1 h3 with⟨k,h4,h5⟩|⟨k,h4,h5⟩
 ·subst h4 h5
  exact⟨k,w++y,by simp,by simp⟩
 ·subst h4 h5
  exact⟨x++z,k,by simp,by simp⟩
theorem Rot.perm{a b:List Tok}(h:Rot a b):a.Perm b:=by
 obtain⟨x,y,rfl,rfl⟩:=h
 exact Ari
theorem Rot.mem{a b:List Tok}(h:Rot a b)(t:Tok):t∈a↔t∈b:=h.perm.mem_iff
theorem Rot.nodup{a b:List Tok}(h:Rot a b):a.Nodup↔b.Nodup:=h.perm.nodup_iff
theorem Rot.length{a b:List Tok}(h:Rot a b):a.length=b.length:=h.perm.length_eq
inductive T:List Tok→Prop
 |one (v:Int):T [.ver v]
 |add (x:Tok) (l:List Tok) (v:Int):T (x::l)→x.st≠v→.ver v∉x::l→T (x :: .arc x.st v :: .ver v :: .arc v x.st::l)
 |rot (a b:List Tok):T (a++b)→T (b++a)
theorem T.AXj{a b:List Tok}(h:T a)(r:Rot a b):T b:=by obtain⟨x,y,rfl,rfl⟩:=r;exact T.rot x y h
theorem T.facts{l:List Tok}(h:T l):l≠[]∧(∀ t∈l,.ver t.st∈l)∧(∀ u v,.arc u v∈l→.ver u∈l∧.ver v∈l∧.arc v u∈l∧u≠v):=by
 induction h with
 |one v=>exact⟨by simp,by simp[st],by simp⟩
 |add x l v h hne hv ih=>
  obtain⟨_,i2,i3⟩:=ih
  have hsub:∀ t,t∈x::l→t∈x::Tok.arc x.st v :: .ver v :: .arc v x.st::l:=by
   intro t ht
   rcases Ape.1 ht with rfl|ht
   ·simp
   ·simp[ht]
  have hx:=hsub _ (i2 x (by simp))
  have cases3:∀ t,t∈x::Tok.arc x.st v :: .ver v :: .arc v x.st::l→t∈x::l∨t = .arc x.st v∨t = .ver v∨t = .arc v x.st:=by
   intro t ht
   simp only[Ape]at ht ⊢
   rcases ht with h|h|h|h|h<;>simp[h]
  refine⟨by simp,fun t ht => ?_,fun a b hab => ?_⟩
  ·rcases cases3 t ht with h|rfl|rfl|rfl
   ·exact hsub _ (i2 t h)
   ·simp[st]
   ·simp[st]
   ·exact hx
  ·rcases cases3 _ hab with h|h|h|h
   ·obtain⟨p1,p2,p3,p4⟩:=i3 a b h
    exact⟨hsub _ p1,hsub _ p2,hsub _ p3,p4⟩
   ·cases h;exact⟨hx,by simp,by simp,hne⟩
   ·cases h
   ·cases h;exact⟨by simp,hx,by simp,AqS hne⟩
 |rot a b h ih=>
  obtain⟨i1,i2,i3⟩:=ih
  have hm:∀ t,t∈a++b↔t∈b++a:=fun t=>List.perm_append_comm.mem_iff
  refine⟨by intro e;simp only[List.append_eq_nil_iff]at e;exact i1 (by simp[e.1,e.2]),fun t ht=>(hm _).1 (i2 t ((hm _).2 ht)),fun u v huv => ?_⟩
  obtain⟨p1,p2,p3,p4⟩:=i3 u v ((hm _).2 huv)
  exact⟨(hm _).1 p1,(hm _).1 p2,(hm _).1 p3,p4⟩
theorem T.nodup{l:List Tok}(h:T l):l.Nodup:=by
 induction h with
 |one v=>simp
 |add x l v h hne hv ih=>
  obtain⟨_,_,f3⟩:=h.facts
  have h1:Tok.arc x.st v∉x::l:=fun hm=>hv (f3 _ _ hm).2.1
  have h2:Tok.arc v x.st∉x::l:=fun hm=>hv (f3 _ _ hm).1
  simp only[Ape,not_or]at h1 h2 hv
  have ih':=Ap9.1 ih
  simp only[Ap9,Ape,not_or]
  refine⟨⟨fun e=>h1.1 e.symm,fun e=>hv.1 e.symm,fun e=>h2.1 e.symm,ih'.1⟩,⟨by simp,?_,h1.2⟩,⟨by simp,hv.2⟩,h2.2,ih'.2⟩
  intro e
  simp only[Tok.arc.injEq]at e
  exact hne e.1
 |rot a b h ih=>exact(List.perm_append_comm.nodup_iff).1 ih
def C(l:List Tok):Prop:=∀ r,Rot l r→∀ t,r.getLast? = some t→∃ c,run ([t.st],[t.st]) r=some ([t.st],c)∧∀ x,x∈c↔.ver x∈l
end Tok
end Go.Pev.Pl
end
section
namespace Go.Pev.Pl.Tok
theorem getLast?_app{a b:List Tok}{t:Tok}(h:b.getLast? = some t):(a++b).getLast? = some t:=by
 rw[Arz,h];rfl
theorem A0(s:List Int×List Int)(t:Tok)(l:List Tok):run s (t::l)=(step s t).bind fun s=>run s l:=by
 rw[run]
 cases step s t<;>rfl
theorem OI(v:Int):Inv ([v],[v]):=⟨by simp,by simp⟩
theorem T.toC{l:List Tok}(h:T l):C l:=by
 induction h with
 |one v=>
  intro r hr t ht
  have:r=[.ver v]:=List.perm_singleton.1 hr.perm.symm
  subst this
  simp at ht
  subst ht
  exact⟨[v],by simp[run,st,step],by simp⟩
 |rot a b h ih=>
  intro r hr t ht
  obtain⟨c,h1,h2⟩:=ih r (Rot.trans ⟨a,b,rfl,rfl⟩ hr) t ht
  exact⟨c,h1,fun x=>(h2 x).trans (List.perm_append_comm.mem_iff)⟩
 |add x l v h hne hv ih=>
  obtain⟨_,f2,f3⟩:=h.facts
  have hnz:∀ u w,Tok.arc u w∈x::l→¬ (w=v):=fun u w hm e=>hv (e▸(f3 u w hm).2.1)
  have fin:∀ {d2 c:List Int},(∀ y,y∈d2↔y∈c∨y=v)→(∀ y,y∈c↔.ver y∈x::l)→∀ y,y∈d2↔Tok.ver y∈x :: .arc x.st v :: .ver v :: .arc v x.st::l:=by
   intro d2 c e1 e2 y
   rw[e1,e2]
   simp only[Ape,reduceCtorEq,false_or,Tok.ver.injEq]
   constructor
   ·rintro ((h|h)|h)<;>simp[h]
   ·rintro (h|h|h)<;>simp[h]
  have triple:∀ {w' c1:List Int},Inv (x.st::w',c1)→v∉c1→∀ p,run (x.st::w',c1) (.arc x.st v :: .ver v :: .arc v x.st::p)=run (x.st::w',v::c1) p:=by
   intro w' c1 hi hn p
   have hh:w'.head?≠some v:=by
    intro e
    exact hn (hi.2 v (Ap5 _ (List.mem_of_head? e)))
   rw[A0,FU _ _ _ _ hh hn,AqN,A0,DM,AqN,A0,Gb,AqN]
  have G:∀ q1 p1,l=p1++q1→∀ t,(q1++x :: .arc x.st v :: .ver v :: .arc v x.st::p1).getLast? = some t→∃ c,run ([t.st],[t.st]) (q1++x :: .arc x.st v :: .ver v :: .arc v x.st::p1)=some ([t.st],c)∧∀ y,y∈c↔.ver y∈x :: .arc x.st v :: .ver v :: .arc v x.st::l:=by
   intro q1 p1 hl t ht
   have hrot:Rot (x::l) (q1++x::p1):=⟨x::p1,q1,by simp[hl],rfl⟩
   have ht0:∃ t0,(q1++x::p1).getLast? = some t0∧t0.st=t.st:=by
    cases p1 with
    |nil=>
     refine⟨x,getLast?_app (by simp),?_⟩
     rw[show q1++[x,Tok.arc x.st v,.ver v,.arc v x.st]=(q1++[x,Tok.arc x.st v,.ver v])++[Tok.arc v x.st] by simp,ArU]at ht
     cases ht;rfl
    |cons y p1=>
     refine⟨t,?_,rfl⟩
     rw[show q1++x::Tok.arc x.st v :: .ver v :: .arc v x.st::y::p1=(q1++[x,Tok.arc x.st v,.ver v,.arc v x.st])++y::p1 by simp,Arz]at ht
     rw[show q1++x::y::p1=(q1++[x])++y::p1 by simp,Arz]
     exact ht
   obtain⟨t0,e0,e1⟩:=ht0
   obtain⟨c,h1,h2⟩:=ih _ hrot t0 e0
   rw[e1,show q1++x::p1=(q1++[x])++p1 by simp,DO,AqM]at h1
   obtain⟨⟨w1,c1⟩,g1,g2⟩:=h1
   obtain⟨i1,i2,i3⟩:=IW g1 (OI _)
   obtain⟨j1,j2,j3⟩:=IW g2 i1
   have i3':=i3 x (by simp)
   simp only at i3'
   cases w1 with
   |nil=>simp at i3'
   |cons w0 w'=>
    simp at i3'
    subst i3'
    have hn:v∉c1:=fun hm=>hv ((h2 v).1 (j2 v hm))
    obtain⟨d2,k1,k2⟩:=HL (Z:=(· = v)) (c2:=v::c1) (low:=[]) g2 (by simp) (fun y=>by simp[or_comm]) (fun u w hm=>hnz u w (by simp[hl,hm])) (by simp)
    refine⟨d2,?_,fin k2 h2⟩
    rw[show q1++x::Tok.arc x.st v :: .ver v :: .arc v x.st::p1=(q1++[x])++Tok.arc x.st v :: .ver v :: .arc v x.st::p1 by simp,DO,g1,AqN,triple i1 hn]
    simpa using k1
  intro r hr t ht
  obtain⟨p,q,hpq,rfl⟩:=hr
  have base:∀ t0:Tok,(l++[x]).getLast? = some t0→t0=x:=fun t0 h=>by rw[ArU]at h;exact(Aqj h).symm
  obtain⟨c,h1,h2⟩:=ih (l++[x]) ⟨[x],l,rfl,rfl⟩ x (by simp)
  match p with
  |[]=>
   simp only[AqK]at hpq
   subst hpq
   have:=G [] l (by simp) t (by simpa using ht)
   simpa using this
  |[y]=>
   simp only[Ap2,AqK,Apz]at hpq
   obtain⟨rfl,rfl⟩:=hpq
   have:t=x:=by
    rw[ArU]at ht
    exact(Aqj ht).symm
   subst this
   have hn:v∉[t.st]:=by simp;exact AqS hne
   obtain⟨d2,k1,k2⟩:=HL (Z:=(· = v)) (c2:=[v,t.st]) (low:=[]) h1 (by simp) (fun y=>by simp[or_comm]) (fun u w hm=>hnz u w (by simpa [or_comm]using hm)) (by simp)
   refine⟨d2,?_,fin k2 h2⟩
   rw[show(Tok.arc t.st v :: .ver v :: .arc v t.st::l)++[t]=Tok.arc t.st v :: .ver v :: .arc v t.st::(l++[t]) by simp,triple (OI _) hn]
   simpa using k1
  |[y,z]=>
   simp only[Ap2,AqK,Apz]at hpq
   obtain⟨rfl,rfl,rfl⟩:=hpq
   have:t = .arc x.st v:=by
    rw[show(Tok.ver v :: .arc v x.st::l)++[x,.arc x.st v]=(Tok.ver v :: .arc v x.st::l++[x])++[.arc x.st v] by simp,ArU]at ht
    exact(Aqj ht).symm
   subst this
   obtain⟨d2,k1,k2⟩:=HL (Z:=(· = v)) (c2:=[x.st,v]) (low:=[v]) h1 (by simp) (fun y=>by simp) (fun u w hm=>hnz u w (by simpa [or_comm]using hm)) (by simp)
   refine⟨d2,?_,fin k2 h2⟩
   rw[show(Tok.ver v :: .arc v x.st::l)++[x,.arc x.st v]=Tok.ver v :: .arc v x.st::((l++[x])++[.arc x.st v]) by simp]
   rw[A0]
   show(step ([v],[v]) _).bind _=_
   rw[DM,AqN,A0,FU _ _ _ _ (by simp) (by simp;exact hne),AqN,DO]
   rw[show([x.st]++[v]:List Int)=[x.st,v]from rfl]at k1
   rw[k1,AqN,A0,Gb]
   rfl
  |[y,z,w]=>
   simp only[Ap2,AqK,Apz]at hpq
   obtain⟨rfl,rfl,rfl,rfl⟩:=hpq
   have:t = .ver v:=by
    rw[show(Tok.arc v x.st::l)++[x,.arc x.st v,.ver v]=(Tok.arc v x.st::l++[x,.arc x.st v])++[.ver v] by simp,ArU]at ht
    exact(Aqj ht).symm
   subst this
   obtain⟨d2,k1,k2⟩:=HL (Z:=(· = v)) (c2:=[x.st,v]) (low:=[v]) h1 (by simp) (fun y=>by simp) (fun u w hm=>hnz u w (by simpa [or_comm]using hm)) (by simp)
   refine⟨d2,?_,fin k2 h2⟩
   rw[show(Tok.arc v x.st::l)++[x,.arc x.st v,.ver v]=Tok.arc v x.st::((l++[x])++[.arc x.st v,.ver v]) by simp]
   rw[A0]
   show(step ([v],[v]) _).bind _=_
   rw[FU _ _ _ _ (by simp) (by simp;exact hne),AqN,DO]
   rw[show([x.st]++[v]:List Int)=[x.st,v]from rfl]at k1
   rw[k1,AqN,A0,Gb,AqN,A0,DM]
   rfl
  |y::z::w::w2::p1=>
   simp only[Ap2,Apz]at hpq
   obtain⟨rfl,rfl,rfl,rfl,rfl⟩:=hpq
   exact G q p1 rfl t ht
def comp(P:List Tok):List Int→List Tok
 |[]=>[]
 |w::r=>(if .ver w∈P then []else [.ver w])++match r with
  |[]=>[]
  |p::_=>.arc w p::comp P r
theorem QH{P P':List Tok}:∀ {way:List Int},(∀ w∈way,(Tok.ver w∈P↔Tok.ver w∈P'))→comp P way=comp P' way:=by
 intro way
 induction way with
 |nil=>intro _;rfl
 |cons w r ih=>
  intro h
  have h1:=h w (by simp)
  have h2:=ih fun x hx=>h x (Ap5 _ hx)
  simp only[comp,h1,h2]
theorem Aj7:∀ (M P:List Tok) (way c c':List Int) (r:Int) (t0:Tok),run (way,c) M=some ([r],c')→Inv (way,c)→P.getLast? = some t0→way.head? = some t0.st →
  T (P++comp P way)→(∀ x,.ver x∈P++comp P way→x∈c)→(∀ x∈c',Tok.ver x∈P++M)→(P++M).Nodup→T (P++M):=by
 intro M
 induction M with
 |nil=>
  intro P way c c' r t0 h hi hl hh hT hc hc' hn
  cases h
  have:=hc' r (hi.2 r (by simp))
  rw[Aqn]at this
  simpa [comp,this]using hT
 |cons t M ih=>
  intro P way c c' r t0 h hi hl hh hT hc hc' hn
  rw[A0,AqM]at h
  obtain⟨⟨w1,c1⟩,h1,h2⟩:=h
  obtain⟨hi1,hsub,hhd⟩:=AAv h1 hi
  have asso:P++t::M=(P++[t])++M:=by simp
  rw[asso]at hn hc' ⊢
  have hnt:t∉P:=by
   have:=(Aq9.1 (Aq9.1 hn).1)
   intro hm
   exact this.2.2 t hm t (by simp) rfl
  rcases Bw h1 with⟨v,rr,rfl,hw,e⟩|⟨u,v,rr,rfl,hw,e⟩|⟨u,v,rr,rfl,hw,hh2,hn2,e⟩
  ·cases e
   simp only at hw
   subst hw
   have key:comp P (v::rr) = .ver v::comp (P++[.ver v]) (v::rr):=by
    have e2:comp P rr=comp (P++[.ver v]) rr:=QH fun w hwm=>by
     have:w≠v:=by rintro rfl;exact(Ap9.1 hi.1).1 hwm
     simp[this]
    simp only[comp,hnt,e2]
    simp
   rw[key]at hT hc
   exact ih _ _ _ _ _ (.ver v) h2 hi1 (by simp) hhd (by simpa using hT) (fun x hx=>hc x (by simpa using hx)) hc' hn
  ·cases e
   simp only at hw
   subst hw
   have hu:Tok.ver u∈P:=by
    have hun:=(Ap9.1 hi.1).1
    obtain⟨g1,_⟩:=ABU (z:=u) (c:=c.filter (·≠u)) h2 hun (fun x=>by
     simp only[AqB,Apb]
     constructor
     ·intro h
      by_cases e:x=u
      ·exact .inr e
      ·exact .inl ⟨h,by simpa using e⟩
     ·rintro (h|rfl)
      ·exact h.1
      ·exact hi.2 x (by simp)) (by simp)
    have hmono:=(IW h2 hi1).2.1 u (hi.2 u (by simp))
    have:=hc' u hmono
    simp only[Apc,AqG,reduceCtorEq,AsG]at this
    rcases this with h|h
    ·exact h
    ·exact absurd h g1
   have key:comp P (u::v::rr) = .arc u v::comp (P++[.arc u v]) (v::rr):=by
    have e2:comp P (v::rr)=comp (P++[.arc u v]) (v::rr):=QH fun w hwm=>by simp
    rw[← e2]
    simp only[comp,hu]
    simp
   rw[key]at hT hc
   exact ih _ _ _ _ _ (.arc u v) h2 hi1 (by simp) hhd (by simpa using hT) (fun x hx=>hc x (by simpa using hx)) hc' hn
  ·cases e
   simp only at hw hn2
   subst hw
   have hu:u=t0.st:=by simpa using hh
   subst hu
   have hvc:∀ x,Tok.ver x∈P++comp P (t0.st::rr)→x≠v:=by rintro x hx rfl;exact hn2 (hc x hx)
   have hvP:Tok.ver v∉P++comp P (t0.st::rr):=fun hm=>hvc v hm rfl
   have hvP':Tok.ver v∉P:=fun hm=>hvP (by simp[hm])
   have key:comp (P++[.arc t0.st v]) (v::t0.st::rr) = .ver v :: .arc v t0.st::comp P (t0.st::rr):=by
    have e2:comp (P++[.arc t0.st v]) (t0.st::rr)=comp P (t0.st::rr):=QH fun w hwm=>by simp
    rw[← e2]
    simp only[comp,Apc,hvP',AqG,reduceCtorEq,AsG,Apr]
    rfl
   have hne:t0.st≠v:=by rintro e;exact hn2 (e▸hi.2 t0.st (by simp))
   refine ih _ _ _ _ _ (.arc t0.st v) h2 hi1 (by simp) hhd ?_ ?_ hc' hn
   ·rw[key]
    obtain⟨P0,rfl⟩:∃ P0,P=P0++[t0]:=Asb.1 hl
    have hT1:T (t0::(comp (P0++[t0]) (t0.st::rr)++P0)):=hT.AXj ⟨P0,t0::comp (P0++[t0]) (t0.st::rr),by simp,by simp⟩
    have hT2:=T.add t0 _ v hT1 hne (by
     intro hm
     apply hvP
     simp only[Apc,Ape,ArR,AsG]at hm ⊢
     rcases hm with h|h|h<;>simp[h])
    exact hT2.AXj ⟨t0 :: .arc t0.st v :: .ver v :: .arc v t0.st::comp (P0++[t0]) (t0.st::rr),P0,by simp,by simp⟩
   ·intro x hx
    rw[key]at hx
    simp only[Apc,Ape,ArR,AsG,reduceCtorEq,Tok.ver.injEq,false_or]at hx
    rcases hx with h|h|h
    ·exact Ap5 _ (hc x (by simp[h]))
    ·simp[h]
    ·exact Ap5 _ (hc x (by simp[h]))
def Av(l:List Tok):Prop:=∃ r l' c,l = .ver r::l'∧run ([r],[r]) l=some ([r],c)∧∀ x∈c,Tok.ver x∈l
theorem Av.toT{l:List Tok}(h:Av l)(hn:l.Nodup):T l:=by
 obtain⟨r,l',c,rfl,h1,h2⟩:=h
 rw[A0,DM,AqN]at h1
 have:=Aj7 l' [.ver r] [r] [r] c r (.ver r) h1 (OI r) (by simp) (by simp[st]) (by simp[comp];exact T.one r) (by simp[comp]) (by simpa using h2) (by simpa using hn)
 simpa using this
theorem T.AKo{r:Int}{l:List Tok}(h:T (.ver r::l)):Av (.ver r::l):=by
 obtain⟨t,ht⟩:∃ t,(Tok.ver r::l).getLast? = some t:=⟨_,AsI (by simp)⟩
 obtain⟨c,h1,h2⟩:=h.toC _ (Rot.refl _) t ht
 have h1':=h1
 rw[A0,AqM]at h1'
 obtain⟨s,g1,_⟩:=h1'
 have e:t.st=r:=by
  simp only[step]at g1
  split at g1
  ·assumption
  ·cases g1
 rw[e]at h1
 exact⟨r,l,c,rfl,h1,fun x hx=>(h2 x).1 hx⟩
end Go.Pev.Pl.Tok
end
section
namespace Go.Pev.Pl.Tok
theorem T.AT2{l:List Tok}(h:T l):∃ v r,Rot l (.ver v::r):=by
 obtain⟨f1,f2,_⟩:=h.facts
 obtain⟨t,ht⟩:=List.exists_mem_of_ne_nil l f1
 obtain⟨a,b,rfl⟩:=AsA (f2 t ht)
 exact⟨t.st,b++a,a,.ver t.st::b,rfl,rfl⟩
theorem T.less{x:Tok}{v:Int}{l:List Tok}(h:T (x :: .arc x.st v :: .ver v :: .arc v x.st::l)):T (x::l):=by
 have hC:=h.toC
 have hn:=h.nodup
 obtain⟨_,f2,f3⟩:=h.facts
 have hne:x.st≠v:=(f3 x.st v (by simp)).2.2.2
 have hvl:Tok.ver v∉l:=by
  intro hm
  simp only[Ap9,Ape,not_or]at hn
  exact hn.2.2.1.2 hm
 have hvx:x≠.ver v:=by rintro rfl;exact hne rfl
 have key:∀ p q,l=p++q→∀ t0,(q++x::p).getLast? = some t0→∃ c,run ([t0.st],[t0.st]) (q++x::p)=some ([t0.st],c)∧∀ y,y∈c↔.ver y∈x::l:=by
  intro p q hl t0 ht0
  have hrot:Rot (x :: .arc x.st v :: .ver v :: .arc v x.st::l) (q++x :: .arc x.st v :: .ver v :: .arc v x.st::p):=⟨x :: .arc x.st v :: .ver v :: .arc v x.st::p,q,by simp[hl],rfl⟩
  have ht:∃ t,(q++x::Tok.arc x.st v :: .ver v :: .arc v x.st::p).getLast? = some t∧t.st=t0.st:=by
   cases p with
   |nil=>
    rw[ArU]at ht0
    cases ht0
    exact⟨.arc v x.st,by rw[show q++[x,Tok.arc x.st v,.ver v,.arc v x.st]=(q++[x,Tok.arc x.st v,.ver v])++[Tok.arc v x.st] by simp,ArU],rfl⟩
   |cons y p=>
    refine⟨t0,?_,rfl⟩
    rw[show q++x::Tok.arc x.st v :: .ver v :: .arc v x.st::y::p=(q++[x,Tok.arc x.st v,.ver v,.arc v x.st])++y::p by simp,Arz]
    rw[show q++x::y::p=(q++[x])++y::p by simp,Arz]at ht0
    exact ht0
  obtain⟨t,e0,e1⟩:=ht
  obtain⟨c,h1,h2⟩:=hC _ hrot t e0
  rw[e1,show q++x::Tok.arc x.st v :: .ver v :: .arc v x.st::p=(q++[x])++Tok.arc x.st v :: .ver v :: .arc v x.st::p by simp,DO,AqM]at h1
  obtain⟨⟨w1,c1⟩,g1,g2⟩:=h1
  obtain⟨i1,i2,i3⟩:=IW g1 (OI _)
  have i3':=i3 x (by simp)
  simp only at i3'
  cases w1 with
  |nil=>simp at i3'
  |cons w0 w'=>
   simp at i3'
   subst i3'
   rw[A0,AqM]at g2
   obtain⟨s1,k1,k2⟩:=g2
   rcases Bw k1 with⟨v',r,e,_⟩|⟨u',v',r,e,hw,rfl⟩|⟨u',v',r,e,hw,hh,hnc,rfl⟩
   ·cases e
   ·cases e
    simp only[Apz]at hw
    obtain⟨_,rfl⟩:=hw
    exfalso
    rw[A0,DM,AqN,A0,AqM]at k2
    obtain⟨s2,m1,_⟩:=k2
    have hnd:=i1.1
    rcases Bw m1 with⟨v',r',e,_⟩|⟨u',v',r',e,hw,rfl⟩|⟨u',v',r',e,hw,hh,hnc,rfl⟩
    ·cases e
    ·cases e
     simp only[Apz]at hw
     obtain⟨_,rfl⟩:=hw
     simp at hnd
    ·cases e
     exact hnc (i1.2 _ (by simp))
   ·cases e
    simp only[Apz,AsH]at hw
    subst hw
    simp only at hnc
    rw[A0,DM,AqN,A0,Gb,AqN]at k2
    have hvw:v∉x.st::w':=fun hm=>hnc (i1.2 v hm)
    obtain⟨_,d,m1,m2,m3⟩:=ABU (z:=v) (c:=c1) k2 hvw (fun y=>by simp[or_comm]) hnc
    refine⟨d,?_,fun y => ?_⟩
    ·rw[show q++x::p=(q++[x])++p by simp,DO,g1,AqN,m1]
    ·have q1:=m2 y
     have q2:=h2 y
     by_cases e:y=v
     ·subst e
      refine⟨fun h=>absurd h m3,fun h => ?_⟩
      rcases Ape.1 h with h|h
      ·exact absurd h.symm hvx
      ·exact absurd h hvl
     ·rw[q2]at q1
      simp only[e,AsG]at q1
      rw[← q1]
      simp[e]
 obtain⟨s,b,a,hsb⟩:∃ s a b,x::l=a ++ .ver s::b:=by
  have:=f2 x (by simp)
  simp only[Ape,reduceCtorEq,false_or,Tok.ver.injEq,hne]at this
  rcases this with h|h
  ·exact⟨x.st,[],l,by rw[← h];rfl⟩
  ·obtain⟨a,b,rfl⟩:=AsA h
   exact⟨x.st,x::a,b,rfl⟩
 have hg:Av (.ver s::a++b):=by
  have hr:∃ p q,l=p++q∧q++x::p = .ver s::a++b:=by
   cases b with
   |nil=>
    simp only[AqK,Apz]at hsb
    obtain⟨rfl,rfl⟩:=hsb
    exact⟨l,[],by simp,by simp⟩
   |cons y b=>
    simp only[Ap2,Apz]at hsb
    obtain⟨rfl,rfl⟩:=hsb
    exact⟨b,.ver s::a,rfl,by simp⟩
  obtain⟨p,q,hl,e⟩:=hr
  obtain⟨t0,ht0⟩:∃ t0,(q++x::p).getLast? = some t0:=⟨_,AsI (by simp)⟩
  obtain⟨c,h1,h2⟩:=key p q hl t0 ht0
  rw[e]at h1
  have h1':=h1
  rw[Ap2,A0,AqM]at h1'
  obtain⟨s',g1,_⟩:=h1'
  have e':t0.st=s:=by
   simp only[step]at g1
   split at g1
   ·assumption
   ·cases g1
  rw[e']at h1
  refine⟨s,a++b,c,rfl,h1,fun y hy => ?_⟩
  have:=(h2 y).1 hy
  rw[hsb]at this
  simp only[Apc,Ape]at this ⊢
  rcases this with h|h|h<;>simp[h]
 have hrot2:Rot (.ver s::a++b) (x::l):=⟨.ver s::a,b,rfl,hsb⟩
 have hnx:(x::l).Nodup:=by
  simp only[Ap9,Ape,not_or]at hn ⊢
  exact⟨hn.1.2.2.2,hn.2.2.2.2⟩
 exact(hg.toT (hrot2.nodup.2 hnx)).AXj hrot2
theorem T.leaf{l:List Tok}(h:T l):(∃ v,l=[.ver v])∨∃ x v r,Rot l (x :: .arc x.st v :: .ver v :: .arc v x.st::r):=by
 induction h with
 |one v=>exact .inl ⟨v,rfl⟩
 |add x l v h hne hv ih=>exact .inr ⟨x,v,l,Rot.refl _⟩
 |rot a b h ih=>
  rcases ih with⟨v,e⟩|⟨x,v,r,hr⟩
  ·have hr:Rot [.ver v] (b++a):=⟨a,b,e.symm,rfl⟩
   exact .inl ⟨v,List.perm_singleton.1 hr.perm.symm⟩
  ·exact .inr ⟨x,v,r,Rot.trans ⟨b,a,rfl,rfl⟩ hr⟩
def MC:List Tok→List Int
 |[]=>[]
 |.ver v::l=>v::MC l
 |.arc _ _::l=>MC l
theorem RL{v:Int}:∀ {l:List Tok},v∈MC l↔.ver v∈l
 |[]=>by simp[MC]
 |.ver w::l=>by simp[MC,RL (l:=l)]
 |.arc _ _::l=>by simp[MC,RL (l:=l)]
theorem APY(a b:List Tok):MC (a++b)=MC a++MC b:=by
 induction a with
 |nil=>rfl
 |cons t a ih=>cases t<;>simp[MC,ih]
theorem T.len{l:List Tok}(h:T l):l.length+2=3*(MC l).length:=by
 induction h with
 |one v=>rfl
 |add x l v h hne hv ih=>
  cases x<;>simp[MC]at ih ⊢<;>omega
 |rot a b h ih=>
  simp only[APY,Apd]at ih ⊢
  omega
end Go.Pev.Pl.Tok
end
section
section
namespace Go.Pev.Pl
open Tok
def In(n v:Int):Prop:=1≤n∧n≤64∧0≤v∧v<n
instance (n v:Int):Decidable (In n v):=inferInstanceAs (Decidable (_∧_))
def Sz(n:Int):Prop:=1≤n∧n≤64
instance (n:Int):Decidable (Sz n):=inferInstanceAs (Decidable (_∧_))
theorem KO(n:Int):MD (n,())=some (decide (Sz n),()):=by
 rw[AH1,Qj]
 simp only[An]
 by_cases h1:1≤n<;>by_cases h2:n≤64<;>simp[Sz,h1,h2]
theorem AK4(n v:Int):tin (n,v,())=some (decide (In n v),()):=by
 rw[AhG,Aad]
 simp only[KO,An,Ae]
 by_cases h1:1≤n<;>by_cases h2:n≤64<;>by_cases h3:0≤v<;>simp[In,Sz,h1,h2,h3]
def ApK(n v:Int):Int:=if In n v then v else -1
def OX(n u v:Int):Int:=if In n u∧In n v∧u≠v then n*(u+1)+v else -1
theorem Kg{n u:Int}(h1:1≤n)(h2:n≤64)(h3:0≤u)(h4:u≤64):0≤n*u∧n*u≤4096:=by
 refine⟨Int.mul_nonneg (by omega) h3,?_⟩
 have:=Int.mul_le_mul h2 h4 h3 (by omega)
 omega
theorem AhK(n u v:Int):Acn (n,u,v,())=some (OX n u v,()):=by
 rw[Aae,AK5]
 simp only[AK4,OX,Ag]
 by_cases h3:u=v
 ·simp[h3]
 ·by_cases h1:In n u
  ·by_cases h2:In n v
   ·obtain⟨a1,a2,a3,a4⟩:=h1
    obtain⟨b1,b2,b3,b4⟩:=h2
    have hb:=Kg (u:=u+1) a1 a2 (by omega) (by omega)
    rw[Ah (n:=u+1) (by omega),Ah (n:=n*(u+1)) (by omega),Ah (n:=n*(u+1)+v) (by omega)]
    simp[In,a1,a2,a3,a4,b3,b4,h3]
   ·simp[h1,h2,h3]
  ·simp[h1,h3]
def Ev(n t:Int):Option Tok:=
 if In n t then some (.ver t)
 else if Sz n∧n≤t∧t<n*(n+1)∧t/n-1≠t % n then some (.arc (t/n-1) (t % n))
 else none
def AVR:Option Tok→Int×Int×Bool×Bool×Unit
 |some (.ver v)=>(v,0,false,true,())
 |some (.arc u v)=>(u,v,true,true,())
 |none=>(0,0,false,false,())
def F5(n:Int):Tok→Int
 |.ver v=>v
 |.arc u v=>n*(u+1)+v
def okT(n:Int):Tok→Prop
 |.ver v=>In n v
 |.arc u v=>In n u∧In n v∧u≠v
theorem Zm{n u v:Int}(h1:In n u)(h2:In n v):n≤n*(u+1)+v∧n*(u+1)+v<n*(n+1)∧(n*(u+1)+v)/n=u+1∧(n*(u+1)+v) % n=v:=by
 obtain⟨a1,a2,a3,a4⟩:=h1
 obtain⟨b1,b2,b3,b4⟩:=h2
 have e2:n*(u+1)=n*u+n:=by rw[Int.mul_add,Int.mul_one]
 have e3:n*(n+1)=n*n+n:=by rw[Int.mul_add,Int.mul_one]
 have hb:=Kg (u:=u) a1 a2 (by omega) (by omega)
 have hle:n*(u+1)≤n*n:=Int.mul_le_mul_of_nonneg_left (by omega) (by omega)
 have hd:(n*(u+1)+v)/n=u+1:=by
  rw[Int.add_comm,Int.add_mul_ediv_left _ _ (by omega),Int.ediv_eq_zero_of_lt b3 b4];omega
 have hm:(n*(u+1)+v) % n=v:=by
  rw[Int.add_comm,Int.add_mul_emod_self_left,Int.emod_eq_of_lt b3 b4]
 exact⟨by omega,by omega,hd,hm⟩
theorem Abt{n t:Int}(hn:Sz n)(h1:n≤t)(h2:t<n*(n+1)):In n (t/n-1)∧In n (t % n)∧n*(t/n-1+1)+t % n=t:=by
 obtain⟨a1,a2⟩:=hn
 have g1:1≤t/n:=(Int.le_ediv_iff_mul_le (by omega)).2 (by omega)
 have g2:t/n<n+1:=(Int.ediv_lt_iff_lt_mul (by omega)).2 (by rw[Int.mul_comm];exact h2)
 have g3:=Int.emod_nonneg t (show n≠0 by omega)
 have g4:=Int.emod_lt_of_pos t (show 0<n by omega)
 have g5:=Int.mul_ediv_add_emod t n
 refine⟨⟨a1,a2,by omega,by omega⟩,⟨a1,a2,g3,g4⟩,?_⟩
 rw[Int.sub_add_cancel]
 exact g5
theorem FQ{n:Int}{t:Tok}(h:okT n t):Ev n (F5 n t)=some t:=by
 cases t with
 |ver v=>simp only[okT]at h;simp[Ev,F5,h]
 |arc u v=>
  obtain⟨h1,h2,h3⟩:=h
  obtain⟨g1,g2,g3,g4⟩:=Zm h1 h2
  have hni:¬ In n (n*(u+1)+v):=fun h=>by have:=h.2.2.2;omega
  have:u+1-1=u:=by omega
  simp only[Ev,F5,hni,Apr,g3,g4,this]
  rw[Apk ⟨⟨h1.1,h1.2.1⟩,g1,g2,h3⟩]
theorem AfY{n x:Int}{t:Tok}(h:Ev n x=some t):okT n t∧F5 n t=x:=by
 rw[Ev]at h
 split at h
 ·cases h;exact⟨by assumption,rfl⟩
 ·split at h
  ·rename_i hh
   cases h
   obtain⟨d1,d2,d3⟩:=Abt hh.1 hh.2.1 hh.2.2.1
   exact⟨⟨d1,d2,hh.2.2.2⟩,d3⟩
  ·cases h
theorem H4{n u v:Int}(h:okT n (.arc u v)):OX n u v=F5 n (.arc u v):=by
 simp only[okT]at h
 rw[OX,Apk h];rfl
theorem Ro{n:Int}{a b:Tok}(ha:okT n a)(hb:okT n b)(h:F5 n a=F5 n b):a=b:=by
 have:=FQ ha
 rw[h,FQ hb]at this
 exact(Aqj this).symm
theorem AVK(n t:Int)(ht:-9223372036854775808≤t∧t≤9223372036854775807):AAO (n,t,())=some (AVR (Ev n t)):=by
 rw[AH0,Qi]
 simp only[KO]
 by_cases hs:Sz n
 ·obtain⟨a1,a2⟩:=hs
  have hb:=Kg (u:=n) a1 a2 (by omega) (by omega)
  have e3:n*(n+1)=n*n+n:=by rw[Int.mul_add,Int.mul_one]
  rw[Ah (n:=n+1) (by omega),Ah (n:=n*(n+1)) (by omega)]
  simp only[Sz,a1,a2,and_self,Apu,Aph,Ae,An]
  by_cases h1:t<0
  ·have hni:¬ In n t:=fun h=>by have:=h.2.2.1;omega
   have h2:¬ n≤t:=by omega
   simp only[h1,Apu,Ev,hni,Apr,h2,AsQ,and_false,AVR]
  ·simp only[h1,AqJ]
   by_cases h2:n*(n+1)≤t
   ·have hni:¬ In n t:=fun h=>by have:=h.2.2.2;omega
    have h3:¬ t<n*(n+1):=by omega
    simp only[h2,Apu,Ev,hni,Apr,h3,AsQ,and_false,AVR]
   ·simp only[h2,AqJ]
    by_cases h3:t<n
    ·have hi:In n t:=⟨a1,a2,by omega,h3⟩
     simp only[h3,Apu,Ev,hi,AqI,AVR]
    ·have hni:¬ In n t:=fun h=>h3 h.2.2.2
     have hq:t.tdiv n=t/n:=Ars (by omega)
     have hm:t.tmod n=t % n:=Int.tmod_eq_emod_of_nonneg (by omega)
     obtain⟨d1,d2,d3⟩:=Abt (t:=t) ⟨a1,a2⟩ (by omega) (by omega)
     have q1:=d1.2.2.1
     have q2:=d1.2.2.2
     simp only[h3,AqJ,Pa,Q9,AWf,AGv]
     rw[Apg (by omega),Apg (by omega),hq,hm,Ah (n:=t/n) (by omega)]
     simp only[]
     rw[Ah (n:=t/n-1) (by omega),Ag,Ev,Apg hni]
     by_cases h4:t/n-1=t % n
     ·rw[Apg (by intro h;exact h.2.2.2 h4),ApX h4];rfl
     ·rw[Apk ⟨⟨a1,a2⟩,by omega,by omega,h4⟩,ApW h4];rfl
 ·have hni:¬ In n t:=fun h=>hs ⟨h.1,h.2.1⟩
  simp only[hs,AqJ,Ap8,Ev,hni,Apr,AsQ,AVR]
def B6(n:Nat):List (List Int):=(List.range n).map fun(v:Nat)=>[(v:Int)]
theorem ALM(n:Nat):B6 (n+1)=B6 n++[[(n:Int)]]:=by simp[B6,AqR]
theorem AQG(n:Nat):(B6 n).length=n:=by simp[B6]
theorem AVT(N:Nat)(hN:N≤64)(c:Int):∀ (k i n:Nat),i+k=N→k<n→Aj HW n (c,(N:Int),B6 i,(N:Int),(i:Int),())=some (.inl (c,(N:Int),B6 N,())):=by
 intro k
 induction k with
 |zero=>
  intro i n hi hn
  obtain⟨n,rfl⟩:∃ k,n=k+1:=⟨n-1,by omega⟩
  have:i=N:=by omega
  subst this
  rw[Aj,HW,AL,ApW (by omega)]
 |succ k ih=>
  intro i n hi hn
  obtain⟨n,rfl⟩:∃ k,n=k+1:=⟨n-1,by omega⟩
  rw[Aj,HW,AL,ApX (by omega)]
  simp only[AS,AQG,Api,Apt]
  rw[Bj (by omega),AP (by omega)]
  simp only[ET,← ALM]
  exact ih (i+1) n (by omega) (by omega)
def Zf(n:Int):Int×List (List Int)×Int×Unit:=if Sz n then(n,B6 n.toNat,0,())else(0,[],1,())
theorem AcX(n:Int):APw (n,())=some (Zf n):=by
 have hm:4294967296<many:=by simp only[many];omega
 rw[APv,ZV,Zf]
 simp only[KO]
 by_cases h:Sz n
 ·obtain⟨h1,h2⟩:=h
  obtain⟨N,rfl⟩:=Apl (show 0≤n by omega)
  have hS:Sz (N:Int):=⟨by omega,by omega⟩
  have e:=AVT N (by omega) 0 N 0 many (by omega) (by omega)
  have e':Aj HW many (0,(N:Int),[],(N:Int),(0:Int),())=_:=e
  simp[hS,A3,e']
 ·simp[h]
end Go.Pev.Pl
end
section
namespace Go.Pev.Pl
theorem Pt(xs:List Int)(t:Int)(hs:xs.length<9223372036854775808):Pu (xs,t,())=some (pos xs t,()):=by
 rw[AJD,RR]
 have e:=Io (step:=Fl) (fun i=>(xs,t,AM xs,(i:Int),())) xs (fun x=>decide (x=t)) (fun i=>.inl ((i:Int),())) (.inr (.inl ())) hs
  (fun i x hi hx=>by
   rw[Fl,AS,AL,ApX hi]
   simp only[AW hx,Ag]
   by_cases h:x=t
   ·simp[h]
   ·simp only[h,AqS h,AqJ];rw[AP (by omega)];simp)
  (by rw[Fl,AS,AL,ApW (by omega)])
 have e':AU Fl many (xs,t,AM xs,(0:Int),())=_:=e
 rw[e',Anr,pos]
 by_cases h:t∈xs<;>simp[h]
theorem JG(xs:List Int)(t:Int)(hs:xs.length<9223372036854775808):GA (xs,t,())=some (decide (t∈xs),()):=by
 rw[Rz,Ir]
 simp only[Pt xs t hs,An]
 by_cases h:t∈xs
 ·obtain⟨k,e,_⟩:=AiS h
  rw[e];simp[h]
 ·rw[Aaw h];simp[h]
def Rt(xs:List Int):Prop:=xs.length≤1000∧(∀ x∈xs,0≤x∧x≤10000)∧xs.Nodup
instance (xs:List Int):Decidable (Rt xs):=inferInstanceAs (Decidable (_∧_∧_))
theorem AT1(xs:List Int)(hs:xs.length<9223372036854775808):D5 (xs,())=some (xs.any (fun x=>decide (x<0)||decide (10000<x)),()):=by
 rw[J6,EC,Lx,E4]
 have e:=Io (step:=By) (fun i=>(xs,AM xs,(i:Int),())) xs (fun x=>decide (x<0)||decide (10000<x)) (fun i=>.inl ((i:Int),())) (.inr (.inl ())) hs
  (fun i x hi hx=>by
   rw[By,AS,AL,ApX hi]
   simp only[AW hx,Ae]
   rw[AP (by omega)]
   by_cases h:x<0
   ·simp[h]
   ·by_cases h2:10000<x
    ·simp[h,h2]
    ·simp[h,h2])
  (by rw[By,AS,AL,ApW (by omega)])
 have e':AU By many (xs,AM xs,(0:Int),())=_:=e
 rw[e']
 generalize (xs.any fun x=>decide (x<0)||decide (10000<x))=b
 cases b<;>simp[An]
theorem AjI(xs:List Int)(hs:xs.length<9223372036854775808):once (xs,())=some (decide xs.Nodup,()):=by
 rw[AbA,AMX]
 have e:=Es (step:=Kb) (fun i m=>(xs,m,xs,AM xs,(i:Int),())) xs (fun x m=>.inl (Ad m x (IntKind.wrap .i64 (((AR m x).getD (0:Int))+(1:Int))))) (fun m=>.inl (xs,m,())) (fun _ _=>True) hs
  (fun i x m hi hx _=>by
   refine⟨fun m' h' => ?_,fun r h'=>by cases h'⟩
   cases h'
   rw[Kb,AS,AL,ApX hi]
   simp only[AW hx]
   rw[AP (by omega)]
   exact⟨rfl,trivial⟩)
  (fun m _=>by rw[Kb,AS,AL,ApW (by omega)]) [] trivial
 have e':AU Kb many (xs,([]:List (Int×Int)),xs,AM xs,(0:Int),())=_:=e
 rw[e',CP]
 have key:∀ (l:List Int) (m:List (Int×Int)),BC (l.foldl (fun m x=>Ad m x (IntKind.wrap .i64 (((AR m x).getD (0:Int))+(1:Int)))) m)=dd (BC m) l:=by
  intro l
  induction l with
  |nil=>intro m;rfl
  |cons x l ih=>intro m;rw[Aqd,ih,Pq,dd]
 have hk:=key xs []
 generalize xs.foldl (fun m x=>Ad m x (IntKind.wrap .i64 (((AR m x).getD (0:Int))+(1:Int)))) []=m at *
 simp only[ASs]
 have:m.length=(dd [] xs).length:=by rw[← VO,hk];rfl
 rw[this]
 simp only[Akj]
theorem PS(xs:List Int):PT (xs,())=some (decide (Rt xs),()):=by
 rw[AIY,Q2,AS,Ae]
 by_cases hl:xs.length≤1000
 ·rw[ApW (by omega)]
  simp only[AT1 xs (by omega),AjI xs (by omega)]
  have hany:(xs.any fun x=>decide (x<0)||decide (10000<x)) = !decide (∀ x∈xs,0≤x∧x≤10000):=by
   rw[Aql]
   simp only[Arp,ArD,Apb,ArG,Aqa]
   constructor
   ·rintro⟨x,hx,h⟩ hh
    have:=hh x hx
    omega
   ·intro h
    refine Aqx fun hc=>h fun x hx => ?_
    refine Aqx fun hn=>hc ⟨x,hx,by omega⟩
  rw[hany]
  by_cases h1:∀ x∈xs,0≤x∧x≤10000
  ·rw[ApX h1]
   by_cases h2:xs.Nodup
   ·rw[ApX h2,ApX (show Rt xs from⟨hl,h1,h2⟩)];rfl
   ·rw[ApW h2,ApW (show ¬ Rt xs from fun h=>h2 h.2.2)];rfl
  ·rw[ApW h1,ApW (show ¬ Rt xs from fun h=>h1 h.2.1)];rfl
 ·rw[ApX (by omega),ApW (show ¬ Rt xs from fun h=>hl h.1)]
def rot(xs:List Int)(k:Nat):List Int:=xs.drop k++xs.take k
theorem Ae3(n:Nat)(hn:n<4294967296):ATE ((n:Int),())=some ([],()):=by
 have e0:IntKind.wrap .i64 ((n:Int)-IntKind.wrap .i64 ((0:Int)-0))=(n:Int):=by rw[Ah (n:=(0:Int)-0) (by omega),Ah (by omega)];omega
 rw[ATD,Zj]
 simp only[e0,Ae]
 rw[ApW (by omega)]
 simp only[]
 by_cases h:0<n
 ·rw[ApX (by omega)]
  have s1:EG ([]:List Unit) (0:Int) (0:Int)=some []:=by rw[ZW];rfl
  have s2:EG (D4 (AN (n:Int)) (0:Int)) (0:Int) (0:Int)=some []:=by
   rw[ZW,Oc,Apk (by omega)]
   simp
  have s3:CM (n:Int)=true:=(N4 _).2 (by omega)
  simp only[s1,s2,s3]
  rfl
 ·rw[ApW (by omega)]
theorem Il{α:Type}{xss:List (List α)}{i:Nat}{x:List α}(h:xss[i]? = some x):(xss.take (i+1)).flatten=(xss.take i).flatten++x:=by
 rw[Arv,h];simp
theorem Ly{α:Type}(xss:List (List α))(i:Nat):(xss.take i).flatten.length≤xss.flatten.length:=by
 conv=>rhs;rw[← Aqh i xss,Ar4,Apd]
 omega
theorem YO(xss:List (List Int))(hs:xss.length<4294967296)(h:xss.flatten.length<4294967296):LN (xss,())=some (xss.flatten,()):=by
 rw[AFD,N9]
 have e:=Es (step:=EV) (fun i (a:Nat)=>(xss,(a:Int),xss,AM xss,(i:Int),())) xss (fun x a=>.inl (a+x.length)) (fun a=>.inl (xss,(a:Int),())) (fun i a=>a=(xss.take i).flatten.length) (by omega)
  (fun i x a hi hx ha=>by
   refine⟨fun m' h' => ?_,fun r h'=>by cases h'⟩
   cases h'
   have h1:=Il hx
   have h2:=Ly xss (i+1)
   rw[h1,Apd]at h2
   rw[EV]
   simp only[AS]
   rw[AL,ApX hi]
   simp only[AW hx]
   rw[wrap_add (by omega),AP (by omega),Ae,ApW (by omega)]
   exact⟨rfl,by rw[h1,Apd,ha]⟩)
  (fun a _=>by rw[EV,AS,AL,ApW (by omega)]) 0 rfl
 have e':AU EV many (xss,(0:Int),xss,AM xss,(0:Int),())=_:=e
 rw[e',CP]
 have hsum:∀ (l:List (List Int)) (a:Nat),l.foldl (fun a x=>a+x.length) a=a+l.flatten.length:=by
  intro l
  induction l with
  |nil=>intro a;rfl
  |cons x l ih=>intro a;rw[Aqd,ih,Aq3,Apd];omega
 rw[hsum,Aqq]
 simp only[Ae3 _ h]
 have g:=Es (step:=EU) (fun i (a:List Int)=>(a,xss,AM xss,(i:Int),())) xss (fun x a=>.inl (a++x)) (fun a=>.inl (a,())) (fun i a=>a=(xss.take i).flatten) (by omega)
  (fun i x a hi hx ha=>by
   refine⟨fun m' h' => ?_,fun r h'=>by cases h'⟩
   cases h'
   have h1:=Il hx
   have h2:=Ly xss (i+1)
   rw[h1,Apd]at h2
   rw[EU]
   simp only[AS]
   rw[AL,ApX hi]
   simp only[AW hx]
   rw[AP (by omega),Bj (by rw[ha];omega)]
   exact⟨rfl,by rw[h1,ha]⟩)
  (fun a _=>by rw[EU,AS,AL,ApW (by omega)]) [] rfl
 have g':AU EU many ([],xss,AM xss,(0:Int),())=_:=g
 rw[g',CP]
 have hcat:∀ (l:List (List Int)) (a:List Int),l.foldl (fun a x=>a++x) a=a++l.flatten:=by
  intro l
  induction l with
  |nil=>intro a;simp
  |cons x l ih=>intro a;rw[Aqd,ih,Aq3,AqD]
 rw[hcat]
 rfl
theorem AAH(xs:List Int)(k:Nat)(hk:k≤xs.length)(hs:xs.length<2147483648):TH (xs,(k:Int),())=some (rot xs k,()):=by
 rw[AHz,Qh]
 simp only[Qq hk,AAt hk]
 rw[YO _ (by simp) (by simp;omega)]
 simp[rot]
def B0(xs:List Int)(t:Int):List Int:=rot xs (xs.findIdx (fun x=>decide (x=t)))
def ANR(xs:List Int)(t:Int):List Int×Bool×Unit:=if Rt xs∧t∈xs then(B0 xs t,true,())else([],false,())
theorem ABo{xs:List Int}{t:Int}(h:t∈xs):∃ a b,xs=a++t::b∧t∉a∧B0 xs t=t::b++a:=by
 obtain⟨k,e,hk,hg,h1,h2⟩:=AiS h
 rw[pos,Apk h]at e
 have e':xs.findIdx (fun x=>decide (x=t))=k:=by omega
 refine⟨_,_,h1,h2,?_⟩
 rw[B0,e',rot]
 congr 1
 rw[AqL hk]
 congr 1
 simpa [hk]using hg
theorem AdV(xs:List Int)(t:Int):AIa (xs,t,())=some (ANR xs t):=by
 rw[AQ2,Zb,AIn,RD,ANR]
 simp only[PS]
 by_cases hr:Rt xs
 ·have hl:=hr.1
  simp only[hr,Apu,Aph,AsH]
  have e:AU Ee many (xs,[],[t],AM [t],(0:Int),())=some (.inl ([pos xs t],())):=by
   have g:=Es (step:=Ee) (fun i (a:List Int)=>(xs,a,[t],AM [t],(i:Int),())) [t] (fun x a=>.inl (a++[pos xs x])) (fun a=>.inl (a,())) (fun i a=>a.length=i) (by simp)
    (fun i x a hi hx ha=>by
     refine⟨fun m' h' => ?_,fun r h'=>by cases h'⟩
     cases h'
     rw[Ee,AS,AL,ApX hi]
     simp only[AW hx,Pt xs x (by omega)]
     simp only[Api,Apt]at hi
     rw[AP (by omega),Bj (by simp only[AS,Api,Apt];omega)]
     exact⟨rfl,by simp[ha]⟩)
    (fun a _=>by rw[Ee,AS,AL,ApW (by omega)]) [] rfl
   have g':AU Ee many (xs,[],[t],AM [t],(0:Int),())=_:=g
   rw[g'];rfl
  rw[e]
  simp only[JG [pos xs t] (-1) (by simp)]
  by_cases h:t∈xs
  ·have hk:xs.findIdx (fun x=>decide (x=t))<xs.length:=AsF.2 ⟨t,h,by simp⟩
   rw[pos,Apk h,Apk h,B0]
   generalize xs.findIdx (fun x=>decide (x=t))=k at *
   rw[ApW (by simp)]
   have i0:idx [(k:Int)] (0:Int)=some (k:Int):=by rw[Ju];rfl
   have d0:AY [(k:Int)] 0 (0:Int)=(k:Int):=rfl
   simp only[Ap8,Aph,i0,d0,AAH xs k (by omega) (by omega)]
  ·rw[Aaw h,Apg h]
   simp
 ·simp[hr]
def IL:List Int→Int
 |[]=>0
 |x::xs=>xs.foldl (fun a y=>B7 a y) x
theorem AYw:∀ (xs:List Int) (a:Int),(xs.foldl (fun a y=>B7 a y) a)≤a∧(∀ x∈xs,xs.foldl (fun a y=>B7 a y) a≤x)∧(xs.foldl (fun a y=>B7 a y) a=a∨xs.foldl (fun a y=>B7 a y) a∈xs):=by
 intro xs
 induction xs with
 |nil=>intro a;simp
 |cons x xs ih=>
  intro a
  rw[Aqd]
  obtain⟨h1,h2,h3⟩:=ih (B7 a x)
  have hm:B7 a x≤a∧B7 a x≤x∧(B7 a x=a∨B7 a x=x):=by
   rw[B7];split<;>omega
  refine⟨by omega,fun y hy => ?_,?_⟩
  ·rcases Ape.1 hy with rfl|hy
   ·omega
   ·exact h2 y hy
  ·rcases h3 with h|h
   ·rcases hm.2.2 with e|e
    ·exact .inl (by rw[h,e])
    ·exact .inr (by rw[h,e];simp)
   ·exact .inr (Ap5 _ h)
theorem Ff{xs:List Int}(h:xs≠[]):IL xs∈xs∧∀ x∈xs,IL xs≤x:=by
 cases xs with
 |nil=>exact absurd rfl h
 |cons x xs=>
  obtain⟨h1,h2,h3⟩:=AYw xs x
  refine⟨?_,fun y hy => ?_⟩
  ·rcases h3 with h|h
   ·rw[IL,h];simp
   ·exact Ap5 _ h
  ·rcases Ape.1 hy with rfl|hy
   ·exact h1
   ·exact h2 y hy
theorem Ame{xs:List Int}{m:Int}(h1:m∈xs)(h2:∀ x∈xs,m≤x):IL xs=m:=by
 obtain⟨g1,g2⟩:=Ff (List.ne_nil_of_mem h1)
 have:=g2 m h1
 have:=h2 _ g1
 omega
theorem ASZ(xs:List Int)(h:xs≠[])(hs:xs.length<9223372036854775808):AeL (xs,())=some (IL xs,()):=by
 cases xs with
 |nil=>exact absurd rfl h
 |cons x xs=>
  rw[AbI,AMh,AS,Ae,ApW (by simp only[Api];omega)]
  have i0:idx (x::xs) (0:Int)=some x:=by rw[Ju];rfl
  simp only[i0]
  simp only[Api]at hs
  have e:=Es (step:=Kh) (fun i (a:Int)=>(x::xs,a,((i+1:Nat):Int),())) xs (fun y a=>.inl (B7 a y)) (fun a=>.inl (a,())) (fun _ _=>True) (by omega)
   (fun i y a hi hy _=>by
    refine⟨fun m' h' => ?_,fun r h'=>by cases h'⟩
    cases h'
    rw[Kh,AS,AL,ApX (by simp only[Api];omega)]
    simp only[AW (xs:=x::xs) (n:=i+1) (by simpa using hy)]
    rw[AP (by omega)]
    exact⟨rfl,trivial⟩)
   (fun a _=>by rw[Kh,AS,AL,ApW (by simp)]) x trivial
  have e':AU Kh many (x::xs,x,(1:Int),())=_:=e
  rw[e',CP]
  rfl
def plain(xs:List Int):List Int:=if Rt xs∧xs≠[]then B0 xs (IL xs)else []
theorem AWI(xs:List Int):ABl (xs,())=some (plain xs,()):=by
 rw[AIZ,Q3,plain]
 simp only[PS]
 by_cases hr:Rt xs
 ·have hl:=hr.1
  simp only[hr,Apu,Aph,AsH]
  by_cases h:xs=[]
  ·subst h;simp[AS,CN]
  ·have hp:0<xs.length:=List.length_pos_iff.2 h
   rw[AS,Ag,ApW (by omega)]
   have hm:=(Ff h).1
   have hk:xs.findIdx (fun x=>decide (x=IL xs))<xs.length:=AsF.2 ⟨_,hm,by simp⟩
   simp only[ASZ xs h (by omega),Pt xs _ (show xs.length<9223372036854775808 by omega)]
   rw[pos,Apk hm,Apk (by simpa using h),B0]
   simp only[AAH xs _ (AsO hk) (by omega)]
 ·simp[hr]
theorem MX{xs:List Int}(hr:Rt xs)(h:xs≠[]):∃ a b,xs=a++IL xs::b∧plain xs=IL xs::b++a:=by
 obtain⟨a,b,h1,_,h2⟩:=ABo (Ff h).1
 exact⟨a,b,h1,by rw[plain,Apk ⟨hr,h⟩,h2]⟩
end Go.Pev.Pl
end
section
namespace Go.Pev.Pl
open Tok
def TI(n:Int)(xs:List Int):Prop:=∃ L,xs=L.map (F5 n)∧(∀ t∈L,okT n t)∧T L
noncomputable instance (n:Int) (xs:List Int):Decidable (TI n xs):=Classical.propDecidable _
abbrev AaJ:=List Int×List (Int×Int)×List (Int×Int)
abbrev AoA:=(Bool×Unit)⊕(List Int×List (Int×Int)×List (Int×Int)×Unit)⊕Unit
def goF(n x:Int)(s:AaJ):AaJ⊕AoA:=
 match Ev n x with
 |none=>.inr (.inl (false,()))
 |some t=>match Tok.step (s.1,BC s.2.1) t with
  |none=>.inr (.inl (false,()))
  |some s'=>match t with
   |.ver v=>.inl (s'.1,s.2.1,Ad s.2.2 v (IntKind.wrap .i64 (((AR s.2.2 v).getD (0:Int))+(1:Int))))
   |.arc _ v=>.inl (s'.1,if v∈BC s.2.1 then s.2.1 else Ad s.2.1 v 1,s.2.2)
def one(came:List (Int×Int)):Prop:=∀ k,(0<(AR came k).getD (0:Int))↔k∈BC came
theorem Ad8{came:List (Int×Int)}(h:one came)(v:Int):one (Ad came v 1):=by
 intro k
 rw[Di,E1]
 by_cases e:k=v
 ·simp[e]
 ·simp only[e,Apr,false_or];exact h k
theorem Ae9(n:Int)(xs:List Int)(i:Nat)(x:Int)(hx:xs[i]? = some x)(hi:i<xs.length)(hl:xs.length<4294967296)(hxr:-9223372036854775808≤x∧x≤9223372036854775807)
  (w:Int) (r:List Int) (came met:List (Int×Int)) (hr:r.length<4294967295) (hc:one came) (hsub:∀ y∈w::r,y∈BC came) :
  Ii (n,(w::r).reverse,came,met,xs,AM xs,(i:Int),())=match goF n x (w::r,came,met)with
   |.inl s=>some (.inl (n,s.1.reverse,s.2.1,s.2.2,xs,AM xs,((i+1:Nat):Int),()))
   |.inr y=>some (.inr y):=by
 have hd:AM ((w::r).reverse)=((r.length+1:Nat):Int):=by simp[AS]
 have e1:IntKind.wrap .i64 (((r.length+1:Nat):Int)-1)=(r.length:Int):=by rw[BA (by omega)];rfl
 have i1:idx ((w::r).reverse) (r.length:Int)=some w:=by rw[AM6];simp
 have g1:AY ((w::r).reverse) (AN (r.length:Int)) (0:Int)=w:=by rw[QC];simp
 have f1:∀ v:Int,fits (AM ((w::r).reverse)+AM [v])=true:=fun v=>Bj (by rw[hd,AS];simp only[Api,Apt];omega)
 have ap:∀ v:Int,BT ((w::r).reverse) [v]=(v::w::r).reverse:=fun v=>by simp[ET]
 rw[Ii,AS,AL,ApX hi]
 rw[AS]at hd
 simp only[AW hx,AVK n x hxr,goF]
 cases ht:Ev n x with
 |none=>rfl
 |some t=>
  cases t with
  |ver v=>
   simp only[AVR,Aph,Ap8,AS,hd,e1,i1,g1,Ag,Tok.step]
   rw[AP (by omega)]
   by_cases h:w=v
   ·simp[h]
   ·simp[h]
  |arc u v=>
   simp only[AVR,Aph,AS,hd,e1,i1,g1,Ag,Tok.step]
   rw[AP (by omega)]
   by_cases h:w=u
   ·subst h
    rw[ApX rfl]
    simp only[Aph]
    cases r with
    |nil=>
     have z:ilt (0:Int) ((([]:List Int).length:Nat):Int)=false:=by rw[Ae];rfl
     simp only[z]
     rw[Ae]
     have hcv:=hc v
     by_cases hv:v∈BC came
     ·rw[ApX (hcv.2 hv)]
      simp[hv]
     ·rw[ApW (fun h=>hv (hcv.1 h))]
      have f2:=f1 v
      rw[AS,hd]at f2
      have hz:(AR came v).getD (0:Int)=0:=by rw[(X5 came v).2 hv];rfl
      have w1:IntKind.wrap .i64 ((0:Int)+1)=1:=by rw[Ah (by omega)];rfl
      rw[AS]at f2
      simp only[f2,ap v,hz,w1,hv,Apr,AqI]
    |cons p r=>
     have z:ilt (0:Int) (((p::r).length:Nat):Int)=true:=by rw[Ae,ApX (by simp only[Api];omega)]
     have e2:IntKind.wrap .i64 ((((p::r).length:Nat):Int)-1)=(r.length:Int):=by
      rw[BA (by simp only[Api]at hr ⊢;omega)];rfl
     have i2:idx ((w::p::r).reverse) (r.length:Int)=some p:=by rw[AM6];simp
     have g2:AY ((w::p::r).reverse) (AN (r.length:Int)) (0:Int)=p:=by rw[QC];simp
     simp only[z,e2,i2,g2]
     by_cases hp:p=v
     ·subst hp
      rw[ApX rfl]
      have hmem:p∈BC came:=hsub p (by simp)
      have s1:EG ((w::p::r).reverse) (0:Int) (((p::r).length:Nat):Int)=some ((p::r).reverse):=by
       rw[AAt (by simp)]
       rw[List.reverse_cons,List.take_left' (by simp)]
      have t1:Bv (AN (((p::r).reverse.length:Nat):Int)) ((w::p::r).reverse)=(p::r).reverse:=by
       rw[Bv,AEm,List.reverse_cons (a:=w),List.take_left' rfl]
      simp only[s1,t1,hmem,AqI]
     ·rw[ApW hp]
      simp only[hp,Apr]
      rw[Ae]
      have hcv:=hc v
      by_cases hv:v∈BC came
      ·rw[ApX (hcv.2 hv)]
       simp[hv]
      ·rw[ApW (fun h=>hv (hcv.1 h))]
       have f2:=f1 v
       rw[AS,hd]at f2
       have hz:(AR came v).getD (0:Int)=0:=by rw[(X5 came v).2 hv];rfl
       have w1:IntKind.wrap .i64 ((0:Int)+1)=1:=by rw[Ah (by omega)];rfl
       rw[AS]at f2
       simp only[f2,ap v,hz,w1,hv,Apr,AqI]
   ·rw[ApW h]
    simp[h]
end Go.Pev.Pl
end
section
namespace Go.Pev.Pl
open Tok
theorem GS{a b:List Int}(ha:a.Nodup)(h:∀ x∈a,x∈b):a.length≤b.length:=by
 induction a generalizing b with
 |nil=>simp
 |cons x a ih=>
  obtain⟨b1,b2,rfl⟩:=AsA (h x (by simp))
  rw[Ap9]at ha
  have:=ih (b:=b1++b2) ha.2 fun y hy=>by
   have:=h y (Ap5 _ hy)
   simp only[Apc,Ape]at this ⊢
   rcases this with h|rfl|h
   ·exact .inl h
   ·exact absurd hy ha.1
   ·exact .inr h
  simp only[Apd,Api]at this ⊢
  omega
theorem AMc{a b:List Int}(ha:a.Nodup)(h:∀ x∈a,x∈b)(hl:b.length≤a.length):∀ x∈b,x∈a:=by
 intro x hx
 refine Aqx fun hn => ?_
 have:=GS (a:=x::a) (b:=b) (Ap9.2 ⟨hn,ha⟩) fun y hy=>by
  rcases Ape.1 hy with rfl|hy
  ·exact hx
  ·exact h y hy
 simp only[Api]at this
 omega
theorem AAw{way c c2:List Int}(h:∀ x,x∈c↔x∈c2)(t:Tok):
  (Tok.step (way,c) t=none↔Tok.step (way,c2) t=none)∧∀ w1 c1,Tok.step (way,c) t=some (w1,c1)→∃ c1',Tok.step (way,c2) t=some (w1,c1')∧∀ x,x∈c1↔x∈c1':=by
 cases t with
 |ver v=>
  cases way with
  |nil=>simp[Tok.step]
  |cons w r=>
   by_cases e:w=v
   ·simp only[Tok.step,e,AqI]
    exact⟨by simp,fun w1 c1 hh=>by cases hh;exact⟨c2,rfl,h⟩⟩
   ·simp[Tok.step,e]
 |arc u v=>
  cases way with
  |nil=>simp[Tok.step]
  |cons w r=>
   by_cases e:w=u
   ·cases r with
    |nil=>
     by_cases hv:v∈c
     ·simp[Tok.step,e,hv,(h v).1 hv]
     ·have hv2:v∉c2:=fun q=>hv ((h v).2 q)
      simp only[Tok.step,e,AqI,hv,hv2,Apr]
      exact⟨by simp,fun w1 c1 hh=>by cases hh;exact⟨v::c2,rfl,fun x=>by simp[h]⟩⟩
    |cons p r=>
     by_cases e2:p=v
     ·simp only[Tok.step,e,AqI,e2]
      exact⟨by simp,fun w1 c1 hh=>by cases hh;exact⟨c2,rfl,h⟩⟩
     ·by_cases hv:v∈c
      ·simp[Tok.step,e,e2,hv,(h v).1 hv]
      ·have hv2:v∉c2:=fun q=>hv ((h v).2 q)
       simp only[Tok.step,e,AqI,e2,hv,hv2,Apr]
       exact⟨by simp,fun w1 c1 hh=>by cases hh;exact⟨v::c2,rfl,fun x=>by simp[h]⟩⟩
   ·simp[Tok.step,e]
structure GI(s:AaJ):Prop where
 ne:s.1≠[]
 one:one s.2.1
 sub:∀ y∈s.1,y∈BC s.2.1
 nc:(BC s.2.1).Nodup
 nm:(BC s.2.2).Nodup
theorem Abf{n x:Int}{s s':AaJ}(hi:GI s)(h:goF n x s = .inl s'):
  GI s'∧s'.1.length≤s.1.length+1∧∃ t c1,Ev n x=some t∧Tok.step (s.1,BC s.2.1) t=some (s'.1,c1)∧(∀ x,x∈c1↔x∈BC s'.2.1)∧(∀ y,y∈BC s'.2.2↔y∈BC s.2.2∨Tok.ver y=t):=by
 rw[goF]at h
 cases ht:Ev n x with
 |none=>rw[ht]at h;cases h
 |some t=>
  rw[ht]at h
  simp only at h
  cases hs:Tok.step (s.1,BC s.2.1) t with
  |none=>rw[hs]at h;cases h
  |some q=>
   obtain⟨w1,c1⟩:=q
   rw[hs]at h
   rcases Bw hs with⟨v,r,rfl,hw,e⟩|⟨u,v,r,rfl,hw,e⟩|⟨u,v,r,rfl,hw,hh,hn,e⟩
   ·cases h
    cases e
    refine⟨⟨hi.ne,hi.one,hi.sub,hi.nc,Jn hi.nm _ _⟩,by simp,_,_,rfl,hs,fun x=>Iff.rfl,fun y => ?_⟩
    rw[E1]
    simp[or_comm]
   ·cases h
    cases e
    simp only at hw
    have hv:v∈BC s.2.1:=hi.sub v (by rw[hw];simp)
    simp only[hv,AqI]
    refine⟨⟨by simp,hi.one,fun y hy=>hi.sub y (by rw[hw];exact Ap5 _ hy),hi.nc,hi.nm⟩,by rw[hw];simp,_,_,rfl,hs,fun x=>Iff.rfl,fun y=>by simp⟩
   ·cases h
    cases e
    simp only at hw hn
    simp only[hn,Apr]
    refine⟨⟨by simp,Ad8 hi.one v,fun y hy => ?_,Jn hi.nc _ _,hi.nm⟩,by rw[hw];simp,_,_,rfl,hs,fun x => ?_,fun y=>by simp⟩
    ·rw[E1]
     rcases Ape.1 hy with rfl|hy
     ·exact .inl rfl
     ·exact .inr (hi.sub y (by rw[hw];exact hy))
    ·rw[E1,Ape]
def ATH(s:AaJ):AoA:=.inr (.inl (s.1.reverse,s.2.1,s.2.2,()))
theorem Ae7(n:Int):∀ (xs:List Int) (s:AaJ) (c:List Int),GI s→(∀ x,x∈c↔x∈BC s.2.1) →
  (∃ L s' c',xs=L.map (F5 n)∧(∀ t∈L,okT n t)∧run (s.1,c) L=some (s'.1,c')∧walk (goF n) ATH xs s=ATH s'∧GI s'∧(∀ x,x∈c'↔x∈BC s'.2.1)∧(∀ x,x∈BC s'.2.2↔x∈BC s.2.2∨Tok.ver x∈L)) ∨
  (walk (goF n) ATH xs s = .inl (false,())∧∀ L,xs=L.map (F5 n)→(∀ t∈L,okT n t)→run (s.1,c) L=none):=by
 intro xs
 induction xs with
 |nil=>intro s c hi hc;exact .inl ⟨[],s,c,rfl,by simp,rfl,rfl,hi,hc,by simp⟩
 |cons x xs ih=>
  intro s c hi hc
  rw[walk]
  have bad:∀ {t},Ev n x=some t→Tok.step (s.1,BC s.2.1) t=none→∀ L,x::xs=L.map (F5 n)→(∀ t∈L,okT n t)→run (s.1,c) L=none:=by
   intro t ht hs L hL hok
   cases L with
   |nil=>cases hL
   |cons t' L=>
    simp only[AqE,Apz]at hL
    have h1:=FQ (hok t' (by simp))
    rw[← hL.1,ht]at h1
    cases h1
    rw[A0,((AAw hc t).1).2 hs]
    rfl
  cases hg:goF n x s with
  |inr r=>
   simp only
   have hr:r = .inl (false,())∧∀ L,x::xs=L.map (F5 n)→(∀ t∈L,okT n t)→run (s.1,c) L=none:=by
    rw[goF]at hg
    cases ht:Ev n x with
    |none=>
     rw[ht]at hg
     cases hg
     refine⟨rfl,fun L hL hok => ?_⟩
     cases L with
     |nil=>cases hL
     |cons t' L=>
      simp only[AqE,Apz]at hL
      have h1:=FQ (hok t' (by simp))
      rw[← hL.1,ht]at h1
      cases h1
    |some t=>
     rw[ht]at hg
     simp only at hg
     cases hs:Tok.step (s.1,BC s.2.1) t with
     |none=>rw[hs]at hg;cases hg;exact⟨rfl,bad ht hs⟩
     |some q=>
      rw[hs]at hg
      cases t<;>cases hg
   rw[hr.1]
   exact .inr ⟨rfl,hr.2⟩
  |inl s'=>
   simp only
   obtain⟨hi',_,t,c1,ht,hs,hcc,hm⟩:=Abf hi hg
   obtain⟨c1',hs',hcc'⟩:=(AAw (c:=BC s.2.1) (c2:=c) (fun x=>(hc x).symm) t).2 _ _ hs
   obtain⟨g1,g2⟩:=AfY ht
   rcases ih s' c1' hi' (fun x=>(hcc' x).symm.trans (hcc x))with⟨L,s2,c2,a1,a2,a3,a4,a5,a6,a7⟩|⟨a1,a2⟩
   ·refine .inl ⟨t::L,s2,c2,by simp[g2,a1],?_,by rw[A0,hs'];exact a3,a4,a5,a6,fun y => ?_⟩
    ·intro y hy
     rcases Ape.1 hy with rfl|hy
     ·exact g1
     ·exact a2 y hy
    ·rw[a7,hm,Ape,or_assoc]
   ·refine .inr ⟨a1,fun L hL hok => ?_⟩
    cases L with
    |nil=>cases hL
    |cons t' L=>
     simp only[AqE,Apz]at hL
     have h1:=FQ (hok t' (by simp))
     rw[← hL.1,ht]at h1
     cases h1
     rw[A0,hs']
     exact a2 L hL.2 fun y hy=>hok y (Ap5 _ hy)
theorem AWB:∀ {l:List Tok} {s s':List Int×List Int},run s l=some s'→s'.1.getLast? = s.1.getLast? := by
 intro l
 induction l with
 |nil=>intro s s' h;cases h;rfl
 |cons t l ih=>
  intro s s' h
  rw[A0,AqM]at h
  obtain⟨s1,h1,h2⟩:=h
  rw[ih h2]
  rcases Bw h1 with⟨v,r,rfl,hw,rfl⟩|⟨u,v,r,rfl,hw,rfl⟩|⟨u,v,r,rfl,hw,hh,hn,rfl⟩
  ·rfl
  ·rw[hw,Asl]
  ·rw[hw,Asl]
theorem Ahl:∀ {l:List Tok} {s s':List Int×List Int},run s l=some s'→Tok.Inv s→∀ x,Tok.ver x∈l→x∈s'.2:=by
 intro l
 induction l with
 |nil=>intro s s' _ _ x hx;cases hx
 |cons t l ih=>
  intro s s' h hi x hx
  rw[A0,AqM]at h
  obtain⟨s1,h1,h2⟩:=h
  obtain⟨i1,i2,i3⟩:=AAv h1 hi
  rcases Ape.1 hx with rfl|hx
  ·have:=(IW h2 i1).2.1
   refine this x (i1.2 x ?_)
   simp only[st]at i3
   exact List.mem_of_head? i3
  ·exact ih h2 i1 x hx
theorem AeV{n:Int}{L:List Tok}(h:(L.map (F5 n)).Nodup):L.Nodup:=by
 rw[List.Nodup,ArW]at h
 exact h.imp fun h e=>h (by rw[e])
theorem Ab0{n x:Int}{xs:List Int}(h:TI n (x::xs))(hm:IL (x::xs)=x):In n x:=by
 obtain⟨L,h1,h2,h3⟩:=h
 obtain⟨v,r,hr⟩:=h3.AT2
 have hv:Tok.ver v∈L:=(hr.mem _).2 (by simp)
 have hvx:v∈x::xs:=by rw[h1];exact Apx.2 ⟨_,hv,rfl⟩
 have h4:=(Ff (xs:=x::xs) (by simp)).2 v hvx
 rw[hm]at h4
 have h5:=(h2 _ hv).2.2.2
 cases L with
 |nil=>cases h1
 |cons t L=>
  simp only[AqE,Apz]at h1
  have h6:=h2 t (by simp)
  cases t with
  |ver w=>rw[h1.1];exact h6
  |arc p q=>
   have:=(Zm h6.1 h6.2.1).1
   have e:x=n*(p+1)+q:=h1.1
   omega
theorem Aj5(n:Int)(xs:List Int)(h0:xs≠[])(hs:xs.length<2147483648)(hr:∀ x∈xs, -9223372036854775808≤x∧x≤9223372036854775807)(hn:xs.Nodup)(hm:∀ x,xs.head? = some x→IL xs=x):
  Aj8 (n,xs,())=some (decide (TI n xs),()):=by
 cases xs with
 |nil=>exact absurd rfl h0
 |cons x0 tl=>
  rw[Abe,ANO]
  have i0:idx (x0::tl) (0:Int)=some x0:=by rw[Ju];rfl
  simp only[i0,AK4]
  by_cases hin:In n x0
  ·rw[ApX hin]
   simp only[Aph]
   have hS:GI ([x0],Ad [] x0 1,[]):=by
    refine⟨by simp,fun k => ?_,fun y hy => ?_,?_,by simp[BC]⟩
    ·have:AR (Ad ([]:List (Int×Int)) x0 1) k=if k=x0 then some 1 else none:=by rw[Di];rfl
     rw[this]
     by_cases e:k=x0<;>simp[e,Ad,BC]
    ·simp at hy;subst hy;simp[Ad,BC]
    ·simp[Ad,BC]
   have e:=Es (step:=Ii) (fun i (s:AaJ)=>(n,s.1.reverse,s.2.1,s.2.2,x0::tl,AM (x0::tl),(i:Int),())) (x0::tl) (goF n) ATH (fun i s=>GI s∧s.1.length≤i+1) (by omega)
    (fun i x s hi hx ⟨hI,hlen⟩=>by
     obtain⟨way,came,met⟩:=s
     cases way with
     |nil=>exact absurd rfl hI.ne
     |cons w r=>
      have hst:=Ae9 n (x0::tl) i x hx hi (by omega) (hr x (Apm hx)) w r came met (by simp only[Api]at hlen hi hs;omega) hI.one hI.sub
      refine⟨fun s' h' => ?_,fun y h' => ?_⟩
      ·rw[h']at hst
       obtain⟨g1,g2,_⟩:=Abf hI h'
       refine⟨hst,g1,?_⟩
       simp only at g2 hlen
       omega
      ·rw[h']at hst
       exact hst)
    (fun s _=>by rw[Ii,AS,AL,ApW (by omega)];rfl) ([x0],Ad [] x0 1,[]) ⟨hS,by simp⟩
   have e':AU Ii many (n,[x0],Ad [] x0 1,[],x0::tl,AM (x0::tl),(0:Int),())=_:=e
   rw[e']
   have hk0:BC (Ad ([]:List (Int×Int)) x0 1)=[x0]:=rfl
   rcases Ae7 n (x0::tl) ([x0],Ad [] x0 1,[]) [x0] hS (fun x=>by rw[hk0])with⟨L,s',c',a1,a2,a3,a4,a5,a6,a7⟩|⟨a1,a2⟩
   ·rw[a4]
    obtain⟨t,L',rfl⟩:∃ t L',L=t::L':=by cases L with
     |nil=>cases a1
     |cons t L'=>exact⟨t,L',rfl⟩
    have ht:t = .ver x0:=by
     have h1:=FQ (a2 t (by simp))
     simp only[AqE,Apz]at a1
     rw[← a1.1,Ev,Apk hin]at h1
     exact(Aqj h1).symm
    subst ht
    have hLn:(Tok.ver x0::L').Nodup:=AeV (n:=n) (by rw[← a1];exact hn)
    have hbot:=AWB a3
    have hvs:=Ahl a3 (OI x0)
    have hk:(BC s'.2.2).length≤(BC s'.2.1).length:=GS a5.nm fun x hx=>by
     have:=(a7 x).1 hx
     simp only[BC,ArM,ArR,false_or]at this
     exact(a6 x).1 (hvs x this)
    have hiff:(s'.1.length=1∧(BC s'.2.2).length=(BC s'.2.1).length)↔TI n (x0::tl):=by
     constructor
     ·rintro⟨l1,l2⟩
      obtain⟨w,hw⟩:=List.length_eq_one_iff.1 l1
      rw[hw]at hbot a3
      simp at hbot
      subst hbot
      refine⟨_,a1,a2,Tok.Av.toT ⟨w,L',c',rfl,a3,fun x hx => ?_⟩ hLn⟩
      have h1:=AMc a5.nm (fun x hx=>by
       have:=(a7 x).1 hx
       simp only[BC,ArM,ArR,false_or]at this
       exact(a6 x).1 (hvs x this)) (by omega) x ((a6 x).1 hx)
      have:=(a7 x).1 h1
      simpa [BC]using this
     ·rintro⟨K,k1,k2,k3⟩
      have hKL:K=Tok.ver x0::L':=by
       have:∀ (A B:List Tok),A.map (F5 n)=B.map (F5 n)→(∀ t∈A,okT n t)→(∀ t∈B,okT n t)→A=B:=by
        intro A
        induction A with
        |nil=>intro B h _ _;cases B with
         |nil=>rfl
         |cons b B=>cases h
        |cons a A ih=>
         intro B h hA hB
         cases B with
         |nil=>cases h
         |cons b B=>
          simp only[AqE,Apz]at h
          rw[Ro (hA a (by simp)) (hB b (by simp)) h.1,ih B h.2 (fun t ht=>hA t (by simp[ht])) fun t ht=>hB t (by simp[ht])]
       exact this _ _ (by rw[← k1,a1]) k2 a2
      subst hKL
      obtain⟨r,l',c,q1,q2,q3⟩:=k3.AKo
      cases q1
      rw[a3]at q2
      cases hs':s'.1 with
      |nil=>rw[hs']at q2;cases q2
      |cons w r'=>
       rw[hs']at q2
       cases q2
       refine⟨rfl,?_⟩
       have:=GS a5.nc (b:=BC s'.2.2) fun x hx=>(a7 x).2 (.inr (q3 x ((a6 x).2 hx)))
       omega
    simp only[ATH,Ag,AS,List.length_reverse]
    rw[VO,VO]at hiff
    by_cases l1:s'.1.length=1
    ·rw[ApX (show(s'.1.length:Int)=1 by omega)]
     simp only[l1,AsH]at hiff
     by_cases l2:s'.2.2.length=s'.2.1.length
     ·rw[ApX (show(s'.2.2.length:Int)=(s'.2.1.length:Int) by omega),ApX (hiff.1 l2)]
     ·rw[ApW (show ¬ (s'.2.2.length:Int)=(s'.2.1.length:Int) by omega),ApW (fun h=>l2 (hiff.2 h))]
    ·rw[ApW (show ¬ (s'.1.length:Int)=1 by omega),ApW (fun h=>l1 (hiff.2 h).1)]
   ·rw[a1]
    have:¬ TI n (x0::tl):=by
     rintro⟨K,k1,k2,k3⟩
     obtain⟨r,l',c,q1,q2,q3⟩:Tok.Av K:=by
      obtain⟨t,L',rfl⟩:∃ t L',K=t::L':=by cases K with
       |nil=>cases k1
       |cons t L'=>exact⟨t,L',rfl⟩
      have h1:=FQ (k2 t (by simp))
      simp only[AqE,Apz]at k1
      rw[← k1.1,Ev,Apk hin]at h1
      cases h1
      exact k3.AKo
     have hr0:r=x0:=by
      subst q1
      simp only[AqE,Apz]at k1
      exact k1.1.symm
     subst hr0
     have:=a2 K k1 k2
     simp only at this
     rw[q2]at this
     cases this
    simp[this]
  ·rw[ApW hin]
   have:¬ TI n (x0::tl):=fun h=>hin (Ab0 h (hm x0 rfl))
   simp[this]
end Go.Pev.Pl
end
end
section
namespace Go.Pev.Pl.Tok
theorem AnA{v:Int}{p:List Tok}{c:List Int}(h:run ([v],[v]) p=some ([v],c))(hc:∀ x∈c,Tok.ver x∈p)(hn:p.Nodup):T p:=by
 cases p with
 |nil=>
  cases h
  have:=hc v (by simp)
  cases this
 |cons t p=>
  have h':=h
  rw[A0,AqM]at h'
  obtain⟨s1,h1,h2⟩:=h'
  rcases Bw h1 with⟨y,r,rfl,hw,rfl⟩|⟨a,b,r,rfl,hw,rfl⟩|⟨a,b,r,rfl,hw,hh,hnc,rfl⟩
  ·simp only[Apz]at hw
   obtain⟨rfl,rfl⟩:=hw
   exact Av.toT ⟨_,p,c,rfl,h,hc⟩ hn
  ·simp at hw
  ·simp only[Apz]at hw
   obtain⟨rfl,rfl⟩:=hw
   simp only at hnc
   have hne:v≠b:=by rintro rfl;exact hnc (by simp)
   have hT:T ([Tok.arc v b]++comp [Tok.arc v b] [b,v]):=by
    have:comp [Tok.arc v b] [b,v]=[.ver b,.arc b v,.ver v]:=by simp[comp]
    rw[this]
    have h3:=T.add (.ver v) [] b (T.one v) hne (by simp;exact AqS hne)
    exact T.rot [.ver v] [.arc v b,.ver b,.arc b v] h3
   have:=Aj7 p [.arc v b] [b,v] [b,v] c v (.arc v b) h2 ⟨by simp;exact AqS hne,by simp⟩ (by simp) rfl hT (by
    intro x hx
    have e:comp [Tok.arc v b] [b,v]=[.ver b,.arc b v,.ver v]:=by simp[comp]
    rw[e]at hx
    simp at hx
    simp[hx]) hc hn
   exact this
theorem T.join{u v:Int}{a b:List Tok}(hA:T (.ver u::a))(hB:T (.ver v::b))(hd:∀ x,Tok.ver x∈Tok.ver u::a→Tok.ver x∉Tok.ver v::b):
  T (.ver u :: .arc u v::(.ver v::b ++ .arc v u::a)):=by
 obtain⟨_,fA2,fA3⟩:=hA.facts
 obtain⟨_,fB2,fB3⟩:=hB.facts
 have nA:=hA.nodup
 have nB:=hB.nodup
 obtain⟨_,_,c1,e1,h1,m1⟩:=hA.AKo
 cases e1
 obtain⟨_,_,c2,e2,h2,m2⟩:=hB.AKo
 cases e2
 have huv:u≠v:=by rintro rfl;exact hd u (by simp) (by simp)
 have nAB:∀ t,t∈Tok.ver u::a→t∉Tok.ver v::b:=fun t ht hb=>hd _ (fA2 t ht) (fB2 t hb)
 have n1:Tok.arc u v∉Tok.ver u::a:=fun h=>hd v (fA3 _ _ h).2.1 (by simp)
 have n2:Tok.arc u v∉Tok.ver v::b:=fun h=>hd u (by simp) (fB3 _ _ h).1
 have n3:Tok.arc v u∉Tok.ver u::a:=fun h=>hd v (fA3 _ _ h).1 (by simp)
 have n4:Tok.arc v u∉Tok.ver v::b:=fun h=>hd u (by simp) (fB3 _ _ h).2.1
 have hnd:(Tok.ver u :: .arc u v::(.ver v::b ++ .arc v u::a)).Nodup:=by
  rw[Ap9]at nA
  have q1:Tok.ver u∉Tok.ver v::b:=nAB _ (by simp)
  rw[Ap9,Ap9,Aq9,Ap9 (a:=Tok.arc v u)]
  refine⟨?_,?_,nB,⟨fun h=>n3 (Ap5 _ h),nA.2⟩,fun x hx y hy => ?_⟩
  ·intro h
   rcases Ape.1 h with h|h
   ·cases h
   ·rcases Apc.1 h with h|h
    ·exact q1 h
    ·rcases Ape.1 h with h|h
     ·cases h
     ·exact nA.1 h
  ·intro h
   rcases Apc.1 h with h|h
   ·exact n2 h
   ·rcases Ape.1 h with h|h
    ·cases h;exact huv rfl
    ·exact n1 (Ap5 _ h)
  ·rintro rfl
   rcases Ape.1 hy with h|h
   ·subst h;exact n4 hx
   ·exact nAB x (Ap5 _ h) hx
 rw[A0,DM,AqN]at h1
 obtain⟨d2,k1,k2⟩:=HL (Z:=(· = u)) (c2:=[v,u]) (low:=[u]) h2 (by simp) (fun y=>by simp) (fun p w hm=>by rintro rfl;exact hd w (by simp) (fB3 _ _ hm).2.1) (by simp)
 obtain⟨d3,g1,g2⟩:=HL (Z:=(·∈c2)) (c2:=d2) (low:=[]) h1 (by simp) (fun y=>by rw[k2];simp[or_comm]) (fun p w hm hz=>hd w (fA3 _ _ (Ap5 _ hm)).2.1 (m2 w hz)) (by simp)
 refine Av.toT ⟨u,_,d3,rfl,?_,fun x hx => ?_⟩ hnd
 ·rw[A0,DM,AqN,A0,FU _ _ _ _ (by simp) (by simp;exact AqS huv),AqN,DO]
  rw[show([v]++[u]:List Int)=[v,u]from rfl]at k1
  rw[k1,AqN,A0,Gb,AqN]
  simpa using g1
 ·rcases(g2 x).1 hx with h|h
  ·have:=m1 x h
   simp only[Ape,Apc]at this ⊢
   rcases this with h|h<;>simp[h]
  ·have:=m2 x h
   simp only[Ape,Apc]at this ⊢
   rcases this with h|h<;>simp[h]
theorem AoH{u v:Int}(huv:u≠v):∀ {l:List Tok} {x w1 c c1 c0:List Int},run (x++[v,u],c) l=some (w1,c1)→Tok.arc v u∉l→(∀ y,y∈c↔y∈c0∨y=u)→u∉c0 →
  ∃ x' d,w1=x'++[v,u]∧run (x++[v],c0) l=some (x'++[v],d)∧(∀ y,y∈c1↔y∈d∨y=u)∧u∉d:=by
 intro l
 induction l with
 |nil=>intro x w1 c c1 c0 h _ hc hu;cases h;exact⟨x,c0,rfl,rfl,hc,hu⟩
 |cons t l ih=>
  intro x w1 c c1 c0 h hna hc hu
  rw[A0,AqM]at h
  obtain⟨s1,h1,h2⟩:=h
  have hna':Tok.arc v u∉l:=fun h=>hna (Ap5 _ h)
  rcases Bw h1 with⟨y,r,rfl,hw,rfl⟩|⟨a,b,r,rfl,hw,rfl⟩|⟨a,b,r,rfl,hw,hh,hnc,rfl⟩
  ·obtain⟨x',d,g1,g2,g3⟩:=ih h2 hna' hc hu
   refine⟨x',d,g1,?_,g3⟩
   simp only at hw
   have:∃ r',x++[v]=y::r':=by
    cases x with
    |nil=>simp at hw;exact⟨[],by simp[hw.1]⟩
    |cons z x=>simp at hw;exact⟨x++[v],by simp[hw.1]⟩
   obtain⟨r',e⟩:=this
   rw[A0,e,DM,AqN,← e]
   exact g2
  ·simp only at hw
   cases x with
   |nil=>
    simp only[AqK,Apz]at hw
    obtain⟨rfl,rfl,_⟩:=hw
    exact absurd (by simp) hna
   |cons z x=>
    simp only[Ap2,Apz]at hw
    obtain⟨rfl,hw⟩:=hw
    simp only[← hw]at h2
    obtain⟨x',d,g1,g2,g3⟩:=ih h2 hna' hc hu
    refine⟨x',d,g1,?_,g3⟩
    have:∃ r',x++[v]=b::r':=by
     cases x with
     |nil=>simp at hw;exact⟨[],by simp[hw.1]⟩
     |cons y x=>simp at hw;exact⟨x++[v],by simp[hw.1]⟩
    obtain⟨r',e⟩:=this
    rw[A0,Ap2,e,Gb,AqN,← e]
    exact g2
  ·simp only at hw hnc
   have hub:u≠b:=by rintro rfl;exact hnc ((hc u).2 (.inr rfl))
   have hbc:b∉c0:=fun h=>hnc ((hc b).2 (.inl h))
   have h2':run ((b::x)++[v,u],b::c) l=some (w1,c1):=by
    rw[← hw]at h2
    exact h2
   obtain⟨x',d,g1,g2,g3⟩:=ih (c0:=b::c0) h2' hna' (fun y=>by simp only[Ape,hc,or_assoc]) (by
    intro hm
    rcases Ape.1 hm with h|h
    ·exact hub h
    ·exact hu h)
   refine⟨x',d,g1,?_,g3⟩
   have:∃ r',x++[v]=a::r'∧r'.head?≠some b:=by
    cases x with
    |nil=>
     simp at hw
     exact⟨[],by simp[hw.1],by simp⟩
    |cons z x=>
     simp only[Ap2,Apz]at hw
     refine⟨x++[v],by simp[hw.1],?_⟩
     rw[← hw.2]at hh
     cases x with
     |nil=>simpa using hh
     |cons y x=>simpa using hh
   obtain⟨r',e,e2⟩:=this
   rw[A0,e,FU _ _ _ _ e2 hbc,AqN,← e]
   exact g2
theorem T.split{u v:Int}{p q:List Tok}(h:T (.arc u v::(p ++ .arc v u::q))):T p∧Tok.ver v∈p:=by
 have hn:=h.nodup
 obtain⟨_,f2,f3⟩:=h.facts
 have huv:u≠v:=(f3 u v (by simp)).2.2.2
 obtain⟨t,ht⟩:∃ t,(Tok.arc u v::(p ++ .arc v u::q)).getLast? = some t:=⟨_,AsI (by simp)⟩
 obtain⟨c,h1,h2⟩:=h.toC _ (Rot.refl _) t ht
 rw[A0,AqM]at h1
 obtain⟨s1,k1,k2⟩:=h1
 rcases Bw k1 with⟨y,r,e,hw,_⟩|⟨a,b,r,e,hw,_⟩|⟨a,b,r,e,hw,hh,hnc,rfl⟩
 ·cases e
 ·cases e;simp at hw
 ·cases e
  simp only[Apz]at hw
  obtain⟨htu,rfl⟩:=hw
  rw[htu]at k2
  simp only at k2
  rw[DO,AqM]at k2
  obtain⟨⟨w1,c1⟩,g1,g2⟩:=k2
  have hi:Inv ([v,u],[v,u]):=⟨by simp;exact AqS huv,by simp⟩
  obtain⟨i1,i2,_⟩:=IW g1 hi
  rw[Ap9,Aq9,Ap9 (a:=Tok.arc v u)]at hn
  have hnp:Tok.arc v u∉p:=fun hm=>hn.2.2.2 _ hm _ (by simp) rfl
  obtain⟨x',d,e1,e2,e3,e4⟩:=AoH (x:=[]) (c0:=[v]) huv g1 hnp (fun y=>by simp) (by simp;exact huv)
  rw[A0,AqM]at g2
  obtain⟨s2,j1,j2⟩:=g2
  have hx':x'=[]∧s2=([u],c1):=by
   rcases Bw j1 with⟨y,r,e,hw,_⟩|⟨a,b,r,e,hw,hs⟩|⟨a,b,r,e,hw,hh,hnc,_⟩
   ·cases e
   ·cases e
    simp only at hw
    rw[e1]at hw
    cases x' with
    |nil=>
     simp only[AqK,Apz,AsH]at hw
     rw[hs,← hw]
     exact⟨rfl,rfl⟩
    |cons z x'=>
     exfalso
     have hnd:=i1.1
     simp only at hnd
     rw[e1,hw]at hnd
     simp only[Ap2,Apz]at hw
     have:v∈u::r:=by rw[← hw.2];simp
     rw[Ap9]at hnd
     exact hnd.1 this
   ·cases e
    exact absurd (i2 u (by simp)) hnc
  obtain⟨rfl,rfl⟩:=hx'
  have hmet:∀ x∈d,Tok.ver x∈p:=by
   intro x hx
   have hxu:x≠u:=by rintro rfl;exact e4 hx
   have hx1:x∈c1:=(e3 x).2 (.inl hx)
   have hi2:Inv ([u],c1):=⟨by simp,fun y hy=>by simp at hy;subst hy;exact i2 y (by simp)⟩
   have hx2:=(IW j2 hi2).2.1 x hx1
   have hx3:=(h2 x).1 hx2
   obtain⟨g,_⟩:=ABU (z:=x) (c:=c1.filter (·≠x)) j2 (by simp;exact hxu) (fun y=>by
    simp only[AqB,Apb]
    constructor
    ·intro hh
     by_cases e:y=x
     ·exact .inr e
     ·exact .inl ⟨hh,by simpa using e⟩
    ·rintro (hh|rfl)
     ·exact hh.1
     ·exact hx1) (by simp)
   simp only[Ape,reduceCtorEq,Apc,false_or]at hx3
   rcases hx3 with hh|hh
   ·exact hh
   ·exact absurd hh g
  have e2':run ([v],[v]) p=some ([v],d):=e2
  have hvd:v∈d:=(IW e2' (OI v)).2.1 v (by simp)
  exact⟨AnA e2' hmet hn.2.1,hmet v hvd⟩
end Go.Pev.Pl.Tok
end
section
namespace Go.Pev
open Go.RowKit
def AIC{R:Type}(slot:Nat)(H:List Ob)(fz:List Bool)(k:AV→Eff→Option R)(v:AV)(e:Eff):Option R:=
 match e.heap with
 |none=>match v with
  |.win id 0 n=>match(Ci e H)[id]? with
   |some (.arr T t xs)=>match Ap (GD e fz) id&&Au (Ci e H) (GD e fz) (slot+3)&&(e.objs.any fun p=>Nat.beq p.1 id)with
    |true=>k (.own (slot+3)) { objs:=e.objs++[(id,.dead),(slot+3,.arr T t (Bv n xs))],frz:=e.frz }
    |false=>none
   |_=>none
  |_=>none
 |some _=>none
def MM(s:Spec):Spec:=fun R args H fz slot k=>s R args H fz slot (AIC slot H fz k)
section
variable {P:Program} {g:FuncId}
theorem Ae8{w:World}{F:Nat→Prop}{m:Mp}{H:List Ob}{fz:List Bool}(hi:HI w F m H fz){id n slot:Nat}{T:TypeId}{t:Ty}{xs:List t.den}(ho:H[id]? = some (.arr T t xs))(hf:Ap fz id=true)
  (hs:Au H fz slot=true) {u:Value} (hr:Rep w F m H (.win id 0 n) u) :
  ∃ m',Av w F m H fz w F m' ((H.set id .dead).set slot (.arr T t (Bv n xs))) fz∧Rep w F m' ((H.set id .dead).set slot (.arr T t (Bv n xs))) (.own slot) u:=by
 have hob:=hi.obj id _ ho
 obtain⟨h0,hob⟩:=hob
 unfold Rep at hr
 rw[ho]at hr
 obtain⟨hle,hr⟩:=hr
 rw[Aqq]at hle
 have hsn:slot≠id:=ANS hs ho
 have hkill:=Av.kill hi (CD ho hf)
 have zero:∀ a,n=0→u = .slice a 0 0→∃ m',Av w F m H fz w F m' ((H.set id .dead).set slot (.arr T t (Bv n xs))) fz∧Rep w F m' ((H.set id .dead).set slot (.arr T t (Bv n xs))) (.own slot) u:=by
  intro a hn hu
  subst hn;subst hu
  obtain⟨m',hg,hrep⟩:=DT (w:=w) hkill.2 (Km hs hsn) T h0 a
  exact⟨m',hkill.trans hg,hrep⟩
 cases hm:m id with
 |none=>
  rw[hm]at hr hob
  obtain⟨a,e1⟩:=hr
  simp only at hob
  subst hob
  have hn:n=0:=by simpa using hle
  exact zero a hn (by rw[e1,hn])
 |some p=>
  obtain⟨b,cap⟩:=p
  rw[hm]at hr hob
  obtain⟨vs,row,e1,e2,e3,e4,e7,e8⟩:=hob
  obtain⟨a,rfl,ha⟩:=hr
  rcases AqW cap with hc|hc
  ·have:n=0:=by omega
   exact zero a this (by rw[this,hc])
  ·have:=ha hc
   rw[Arj]at this
   subst this
   have hk:=fun(x:t.den) cs (h:Dat w F t x cs)=>Dat.length t h
   have hlen:(xs.take n).length=n:=by rw[Aps];omega
   have hrw:=Dd hk n e7
   have hrl:=A7 hk hrw
   rw[hlen]at hrl
   have hg:=Av.move (w':=w) hi (CD ho hf) hm hs (ob:=.arr T t (Bv n xs)) trivial (b':=b) (c':=cap) (.inl rfl) rfl rfl rfl (Apj _) (fun _ _ _=>rfl) (fun _=>⟨h0,vs,row.take (n*t.size),e1,by
    show(xs.take n).length≤cap
    rw[hlen];omega,e3,e4,hrw,by
    rw[hrl,← e8,Aro,Aqy]
    rw[A7 hk e7]
    exact AqO _ hle⟩)
   refine⟨_,hg,?_⟩
   have hlts:=At (BW hs).1
   unfold Rep
   rw[BN (by simpa using hlts),Ar]
   show Value.slice _ n (cap-0)=Value.slice _ (xs.take n).length cap
   rw[hlen,Nat.sub_zero]
theorem AP8{s:Spec}(hs:AO P g s):AO P g (MM s):=by
 intro R args H fz slot k r hk
 obtain⟨v,e,h1,h2,h3,h4⟩:=hs R args H fz slot _ r hk
 unfold AIC at h1
 split at h1
 ·rename_i he
  split at h1
  ·rename_i id n
   split at h1
   ·rename_i T t xs ho
    split at h1
    ·rename_i hc
     refine⟨_,_,h1,fun R' k' => ?_,h3,fun w F m vals hi hr => ?_⟩
     ·unfold MM
      rw[h2]
      simp only[AIC,he,ho,hc]
     ·refine(h4 w F m vals hi hr).mono ?_
      rintro en w' ⟨u,rfl,F',m',hg,hrep⟩
      simp only[Apf]at hc
      obtain⟨m2,hg2,hr2⟩:=Ae8 hg.2 ho hc.1.1 hc.1.2 hrep
      have eH:Ci { objs:=e.objs++[(id,.dead),(slot+3,.arr T t (Bv n xs))],frz:=e.frz } H=((Ci e H).set id .dead).set (slot+3) (.arr T t (Bv n xs)):=by
       rw[CF rfl,CF he,Xb]
       rfl
      have eF:GD { objs:=e.objs++[(id,.dead),(slot+3,.arr T t (Bv n xs))],frz:=e.frz } fz=GD e fz:=by
       rw[CS rfl,CS he]
      refine⟨u,rfl,F',m2,?_,?_⟩
      ·rw[eH,eF];exact hg.trans hg2
      ·rw[eH];exact hr2
    ·cases h1
   ·cases h1
  ·cases h1
 ·cases h1
theorem X4{np na:Nat}{its outs:AE}{rs:List RS}{f:Cg (leaves its)→Option (Cg (leaves outs))}(hf:∀ x,f x=none):AO P g (AF np na its outs rs f):=by
 intro R args H fz slot k r hk
 unfold AF at hk
 split at hk
 ·cases hk
 ·split at hk
  ·cases hk
  ·rw[hf]at hk;cases hk
end
section
variable {S:List Nat} {H H':List Ob}
theorem GG.Alj{s:Spec}(h:GG s):OH s:=
 fun R args H H' fz fz' slot k S hS _ ha=>h R args H H' fz fz' slot k ⟨fun id hid=>ha.heap id (hS id hid),ha.slotH,ha.slotF,ha.len,fun id hid=>by cases hid⟩
def ADL:AE→Bool
 |[]=>true
 |(.obj _,_)::_=>false
 |_::r=>ADL r
def AoM(S:List Nat)(v:AV):Prop:=∀ id∈Ay v,id∈S
def AFa(S:List Nat)(bs:List Bnd):Prop:=∀ b∈bs,∀ id,b.id? = some id→id∈S
theorem AFa.get{bs:List Bnd}(h:AFa S bs){j:Nat}{b:Bnd}{id:Nat}(hj:bs[j]? = some b)(hi:b.id? = some id):id∈S:=h b (Apm hj) id hi
theorem AFa.snoc{bs:List Bnd}(h:AFa S bs){b:Bnd}(hb:∀ id,b.id? = some id→id∈S):AFa S (bs++[b]):=by
 intro x hx id hi
 rcases Apc.1 hx with hx|hx
 ·exact h x hx id hi
 ·simp only[AqG]at hx;subst hx;exact hb id hi
theorem AbJ{tm:List AV}{bs:List Bnd}{l:Loc}(hS:∀ id∈BF tm,id∈S)(hc:Z5 S H)(hH:∀ id∈S,H[id]? = H'[id]?)(hb:AFa S bs)(hl:∀ j,l≠.obj j):
  look tm H bs l=look tm H' bs l∧∀ v,look tm H bs l=some v→AoM S v:=by
 cases l with
 |tmp t=>
  refine⟨rfl,fun v hv id hid=>hS id ?_⟩
  exact CT (Apm hv) hid
 |cell j c=>
  simp only[look]
  cases hj:bs[j]? with
  |none=>exact⟨rfl,fun v hv=>by cases hv⟩
  |some b=>
   cases b with
   |none=>exact⟨rfl,fun v hv=>by cases hv⟩
   |cut id=>exact⟨rfl,fun v hv=>by cases hv⟩
   |whole id=>
    have hid:=hb.get hj (id:=id) rfl
    simp only
    rw[hH id hid]
    refine⟨rfl,fun v hv => ?_⟩
    cases ho:H'[id]? with
    |none=>rw[ho]at hv;cases hv
    |some o=>
     rw[ho]at hv
     cases o<;>simp only at hv<;>first|(cases hv;done)|skip
     rename_i cs
     intro i hi
     exact hc id hid cs (by rw[hH id hid,ho]) i (CT (Apm hv) hi)
 |cap t i=>
  refine⟨rfl,fun v hv => ?_⟩
  simp only[look]at hv
  cases ht:tm[t]? with
  |none=>rw[ht]at hv;cases hv
  |some a=>
   rw[ht]at hv
   cases a<;>simp only at hv<;>first|(cases hv;done)|skip
   ·rename_i f cs
    intro id hid
    refine hS id (CT (Apm ht) ?_)
    simp only[Ay]
    exact CT (Apm hv) hid
   ·rename_i f cs
    intro id hid
    refine hS id (CT (Apm ht) ?_)
    simp only[Ay]
    exact CT (Apm hv) hid
 |obj j=>exact absurd rfl (hl j)
theorem KU{f:List Nat}{fz fz':List Bool}(hl:fz.length=fz'.length){id:Nat}(h:fz.getD id false=fz'.getD id false):(Al f fz).getD id false=(Al f fz').getD id false:=by
 rw[A2,A2,h,hl]
theorem Aki{tm:List AV}(hS:∀ id∈BF tm,id∈S)(hc:Z5 S H)(hH:∀ id∈S,H[id]? = H'[id]?):∀ (its:AE) (fz fz':List Bool) (bs:List Bnd),ADL its=true→AFa S bs→fz.length=fz'.length→(∀ id∈S,fz.getD id false=fz'.getD id false) →
  dec tm H its fz bs=dec tm H' its fz' bs:=by
 intro its
 induction its with
 |nil=>intro fz fz' bs _ _ _ _;rfl
 |cons p r ih=>
  intro fz fz' bs hn hb hlen hz
  obtain⟨l,c⟩:=p
  have hno:(∀ j,l≠.obj j)∧ADL r=true:=by
   cases l with
   |obj j=>cases hn
   |tmp t=>exact⟨fun j h=>(by cases h),hn⟩
   |cell a b=>exact⟨fun j h=>(by cases h),hn⟩
   |cap a b=>exact⟨fun j h=>(by cases h),hn⟩
  obtain⟨e1,e2⟩:=AbJ hS hc hH hb hno.1
  have ihr:=fun bs hb=>ih fz fz' bs hno.2 hb hlen hz
  have unf:∀ id∈S,Ap fz id=Ap fz' id:=fun id hid=>by unfold Ap;rw[hz id hid]
  cases c with
  |dat t=>
   simp only[dec,← e1]
   cases hv:look tm H bs l with
   |none=>rfl
   |some v=>
    simp only
    rw[Bg t v fun id hid=>hH id (e2 v hv id hid)]
    cases FF H' t v with
    |none=>rfl
    |some q=>
     obtain⟨x,f⟩:=q
     simp only
     rw[ih (Al f fz) (Al f fz') bs hno.2 hb (by rw[Cr,Cr,hlen]) (fun id hid=>KU hlen (hz id hid))]
  |own T e=>
   simp only[dec,← e1]
   cases hv:look tm H bs l with
   |none=>rfl
   |some v=>
    cases v with
    |nils e'=>simp only;rw[ihr _ (hb.snoc fun id h=>by cases h)]
    |own id=>
     have hid:id∈S:=e2 _ hv id (by simp[Ay])
     simp only
     rw[← hH id hid,unf id hid,ihr _ (hb.snoc fun id' h=>by simp only[Bnd.id?,ApY]at h;subst h;exact hid)]
    |win id off n=>
     have hid:id∈S:=e2 _ hv id (by simp[Ay])
     cases off with
     |succ off=>rfl
     |zero=>
      simp only
      rw[← hH id hid,unf id hid,ihr _ (hb.snoc fun id' h=>by simp only[Bnd.id?,ApY]at h;subst h;exact hid)]
    |_=>rfl
  |box n=>
   simp only[dec,← e1]
   cases hv:look tm H bs l with
   |none=>rfl
   |some v=>
    cases v with
    |ptr id off=>
     have hid:id∈S:=e2 _ hv id (by simp[Ay])
     cases off with
     |succ off=>rfl
     |zero=>
      simp only
      rw[← hH id hid,ihr _ (hb.snoc fun id' h=>by simp only[Bnd.id?,ApY]at h;subst h;exact hid)]
    |_=>rfl
  |map k v=>
   simp only[dec,← e1]
   cases hv:look tm H bs l with
   |none=>rfl
   |some u=>
    cases u with
    |mp id=>
     have hid:id∈S:=e2 _ hv id (by simp[Ay])
     simp only
     rw[← hH id hid,ihr _ (hb.snoc fun id' h=>by simp only[Bnd.id?,ApY]at h;subst h;exact hid)]
    |_=>rfl
  |own' j=>simp only[dec,← e1,ihr bs hb]
  |ptr' j off=>simp only[dec,← e1,ihr bs hb]
  |map' j=>simp only[dec,← e1,ihr bs hb]
  |sub' j=>simp only[dec,← e1,ihr bs hb]
  |win' j=>
   simp only[dec,← e1]
   rw[ihr bs hb]
   cases hv:look tm H bs l with
   |none=>rfl
   |some v=>
    cases v with
    |own id=>
     have hid:id∈S:=e2 _ hv id (by simp[Ay])
     cases bs[j]? with
     |none=>rfl
     |some b=>
      cases b with
      |whole id'=>
       refine Eq.trans (b:=match decide (id=id'),H[id]? with
        |true,some (.arr _ _ ys)=>(match dec tm H' r fz' bs with
         |some (xs,bs',g)=>some ((AM ys,xs),bs',g)
         |none=>none)
        |_,_=>none) rfl ?_
       rw[hH id hid]
       rfl
      |_=>rfl
    |win id off n=>
     cases off with
     |succ off=>cases bs[j]?<;>rfl
     |zero=>
      cases bs[j]? with
      |none=>rfl
      |some b=>cases b<;>rfl
    |_=>cases bs[j]?<;>rfl
  |clo f ps=>simp only[dec,← e1,ihr bs hb]
  |bnd f j=>simp only[dec,← e1,ihr bs hb]
  |prs T j=>
   simp only[dec,← e1]
   cases hv:look tm H bs l with
   |none=>rfl
   |some v=>
    cases v with
    |nils e'=>simp only;rw[ihr _ (hb.snoc fun id h=>by cases h)]
    |own id=>
     have hid:id∈S:=e2 _ hv id (by simp[Ay])
     simp only
     rw[← hH id hid,ihr _ (hb.snoc fun id' h=>by simp only[Bnd.id?,ApY]at h;subst h;exact hid)]
    |_=>rfl
  |nil e=>simp only[dec,← e1,ihr bs hb]
theorem Ra{fz fz':List Bool}:∀ (n:Nat) (bs:List Bnd) (slot:Nat),(∀ s,slot≤s→s<slot+n→Au H fz s=Au H' fz' s)→FP H fz (Cp n bs slot) bs=FP H' fz' (Cp n bs slot) bs:=by
 intro n
 induction n with
 |zero=>intro bs slot _;cases bs<;>rfl
 |succ n ih=>
  intro bs slot h
  cases bs with
  |nil=>
   simp only[Cp,FP,List.tail_nil]
   rw[h slot (Apj _) (by omega),ih [] (slot+1) fun s h1 h2=>h s (by omega) (by omega)]
  |cons b bs=>
   cases b with
   |whole id=>
    simp only[Cp,FP,Are]
    rw[ih bs slot fun s h1 h2=>h s h1 (by omega)]
   |none=>
    simp only[Cp,FP,Are]
    rw[h slot (Apj _) (by omega),ih bs (slot+1) fun s h1 h2=>h s (by omega) (by omega)]
   |cut id=>
    simp only[Cp,FP,Are]
    rw[h slot (Apj _) (by omega),ih bs (slot+1) fun s h1 h2=>h s (by omega) (by omega)]
theorem AG{np na:Nat}{its outs:AE}{rs:List RS}{f:Cg (leaves its)→Option (Cg (leaves outs))}(hno:ADL its=true)(hn:Nat.ble (Ep outs) 4=true):OH (AF np na its outs rs f):=by
 intro R args H H' fz fz' slot k S hS hc ha
 have hn4:=AsN hn
 have hd:dec args H its fz []=dec args H' its fz' []:=Aki hS hc ha.heap its fz fz' [] hno (fun b hb=>by cases hb) ha.len ha.wrF
 unfold AF
 rw[hd]
 split
 ·rfl
 ·rename_i x bs fr _
  split
  ·rfl
  ·split
   ·rfl
   ·have hf:∀ (g:List Nat) s,slot≤s→s<slot+Ep outs→Au H (Al g fz) s=Au H' (Al g fz') s:=fun g s h1 h2=>Dk ha h1 (by omega) g
    unfold NG
    rw[Ra (fz:=fz) (fz':=fz') (Ep outs) (bs.take np) slot (hf []),Ra (fz:=Al fr fz) (fz':=Al fr fz') (Ep outs) (bs.take np) slot (hf fr)]
theorem Aeu:∀ (n:Nat) (bs:List Bnd) (slot i:Nat),i∈Cp n bs slot→(∃ b∈bs,b.id? = some i)∨(slot≤i∧i<slot+n):=by
 intro n
 induction n with
 |zero=>intro bs slot i h;cases bs<;>cases h
 |succ n ih=>
  intro bs slot i h
  have next:∀ bs',i∈slot::Cp n bs' (slot+1)→(∃ b∈bs',b.id? = some i)∨(slot≤i∧i<slot+(n+1)):=by
   intro bs' h
   rcases Ape.1 h with rfl|h
   ·exact .inr ⟨Apj _,by omega⟩
   ·rcases ih bs' (slot+1) i h with h|h
    ·exact .inl h
    ·exact .inr ⟨by omega,by omega⟩
  cases bs with
  |nil=>exact next [] h
  |cons b bs=>
   cases b with
   |whole id=>
    simp only[Cp]at h
    rcases Ape.1 h with rfl|h
    ·exact .inl ⟨.whole i,by simp,rfl⟩
    ·rcases ih bs slot i h with⟨b,hb,e⟩|h
     ·exact .inl ⟨b,by simp[hb],e⟩
     ·exact .inr ⟨h.1,by omega⟩
   |none=>rcases next bs h with⟨b,hb,e⟩|h;exact .inl ⟨b,by simp[hb],e⟩;exact .inr h
   |cut id=>rcases next bs h with⟨b,hb,e⟩|h;exact .inl ⟨b,by simp[hb],e⟩;exact .inr h
theorem Afu{tm:List AV}(hS:∀ id∈BF tm,id∈S)(hc:Z5 S H):∀ (its:AE) (fz:List Bool) (bs:List Bnd) (x:Cg (leaves its)) (bs':List Bnd) (fr:List Nat),ADL its=true→AFa S bs →
  dec tm H its fz bs=some (x,bs',fr)→AFa S bs':=by
 intro its
 induction its with
 |nil=>intro fz bs x bs' fr _ hb h;simp only[dec,ApY]at h;cases h;exact hb
 |cons p r ih=>
  intro fz bs x bs' fr hn hb h
  obtain⟨l,c⟩:=p
  have hno:(∀ j,l≠.obj j)∧ADL r=true:=by
   cases l with
   |obj j=>cases hn
   |tmp t=>exact⟨fun j h=>(by cases h),hn⟩
   |cell a b=>exact⟨fun j h=>(by cases h),hn⟩
   |cap a b=>exact⟨fun j h=>(by cases h),hn⟩
  have e2:=(AbJ (H':=H) hS hc (fun _ _=>rfl) hb hno.1 (l:=l)).2
  have one:∀ {id:Nat} {b:Bnd},id∈S→b.id? = some id→AFa S (bs++[b]):=fun hid hbid=>hb.snoc fun id' h'=>by rw[hbid]at h';cases h';exact hid
  cases c<;>simp only[dec]at h
  case dat t=>
   split at h
   ·split at h
    ·split at h
     ·split at h
      ·rename_i hd;cases h;exact ih _ _ _ _ _ hno.2 hb hd
      ·cases h
     ·cases h
    ·cases h
   ·cases h
  case own T e=>
   split at h
   ·split at h
    ·split at h
     ·rename_i hd;cases h;exact ih _ _ _ _ _ hno.2 (hb.snoc fun id h=>by cases h) hd
     ·cases h
    ·cases h
   ·rename_i id hl
    split at h
    ·split at h
     ·split at h
      ·rename_i hd;cases h;exact ih _ _ _ _ _ hno.2 (one (e2 _ hl id (by simp[Ay])) rfl) hd
      ·cases h
     ·cases h
    ·cases h
   ·rename_i id n hl
    split at h
    ·split at h
     ·split at h
      ·rename_i hd;cases h;exact ih _ _ _ _ _ hno.2 (one (e2 _ hl id (by simp[Ay])) rfl) hd
      ·cases h
     ·cases h
    ·cases h
   ·cases h
  case prs T j=>
   split at h
   ·split at h
    ·rename_i hd;cases h;exact ih _ _ _ _ _ hno.2 (hb.snoc fun id h=>by cases h) hd
    ·cases h
   ·rename_i id hl
    split at h
    ·split at h
     ·split at h
      ·rename_i hd;cases h;exact ih _ _ _ _ _ hno.2 (one (e2 _ hl id (by simp[Ay])) rfl) hd
      ·cases h
     ·cases h
    ·cases h
   ·cases h
  case box n=>
   split at h
   ·rename_i id hl
    split at h
    ·split at h
     ·exact ih _ _ _ _ _ hno.2 (one (e2 _ hl id (by simp[Ay])) rfl) h
     ·cases h
    ·cases h
   ·cases h
  case map k v=>
   split at h
   ·rename_i id hl
    split at h
    ·split at h
     ·split at h
      ·rename_i hd;cases h;exact ih _ _ _ _ _ hno.2 (one (e2 _ hl id (by simp[Ay])) rfl) hd
      ·cases h
     ·cases h
    ·cases h
   ·cases h
  case own' j=>
   split at h
   ·split at h
    ·exact ih _ _ _ _ _ hno.2 hb h
    ·cases h
   ·cases h
  case ptr' j off=>
   split at h
   ·split at h
    ·exact ih _ _ _ _ _ hno.2 hb h
    ·cases h
   ·cases h
  case map' j=>
   split at h
   ·split at h
    ·exact ih _ _ _ _ _ hno.2 hb h
    ·cases h
   ·cases h
  case win' j=>
   split at h
   ·split at h
    ·split at h
     ·rename_i hd;cases h;exact ih _ _ _ _ _ hno.2 hb hd
     ·cases h
    ·cases h
   ·split at h
    ·split at h
     ·rename_i hd;cases h;exact ih _ _ _ _ _ hno.2 hb hd
     ·cases h
    ·cases h
   ·cases h
  case sub' j=>
   split at h
   ·split at h
    ·split at h
     ·rename_i hd;cases h;exact ih _ _ _ _ _ hno.2 hb hd
     ·cases h
    ·cases h
   ·cases h
  case clo f ps=>
   split at h
   ·split at h
    ·exact ih _ _ _ _ _ hno.2 hb h
    ·cases h
   ·cases h
  case bnd f j=>
   split at h
   ·split at h
    ·exact ih _ _ _ _ _ hno.2 hb h
    ·cases h
   ·cases h
  case nil e=>
   cases hv:look tm H bs l with
   |none=>rw[hv]at h;cases h
   |some v=>
    rw[hv]at h
    cases v<;>simp only at h<;>first|exact ih _ _ _ _ _ hno.2 hb h|cases h
theorem Alq{np na:Nat}{its outs:AE}{rs:List RS}{f:Cg (leaves its)→Option (Cg (leaves outs))}(hno:ADL its=true)(hn:Nat.ble (Ep outs) 4=true):OH (MM (AF np na its outs rs f)):=by
 intro R args H H' fz fz' slot k hS0 hS hc ha
 have hn4:=AsN hn
 have hd:dec args H its fz []=dec args H' its fz' []:=Aki hS hc ha.heap its fz fz' [] hno (fun b hb=>by cases hb) ha.len ha.wrF
 have hbs:∀ x bs fr,dec args H its fz []=some (x,bs,fr)→AFa hS0 bs:=fun x bs fr h=>Afu hS hc its fz [] x bs fr hno (fun b hb=>by cases hb) h
 unfold MM AF
 rw[hd]at hbs ⊢
 split
 ·rfl
 ·rename_i x bs fr hdec
  have hb:=hbs x bs fr hdec
  split
  ·rfl
  ·split
   ·rfl
   ·rename_i y _
    have hf:∀ (g:List Nat) s,slot≤s→s<slot+Ep outs→Au H (Al g fz) s=Au H' (Al g fz') s:=fun g s h1 h2=>Dk ha h1 (by omega) g
    have key:∀ (e:Eff) (v:AV),e.heap=none→(∀ p∈e.objs,p.1∈given (bs.drop np)∨p.1∈Cp (Ep outs) (bs.take np) slot)→AIC slot H fz k v e=AIC slot H' fz' k v e:=by
     intro e v he ho
     unfold AIC
     rw[he]
     simp only
     have hfree:Au (Ci e H) (GD e fz) (slot+3)=Au (Ci e H') (GD e fz') (slot+3):=by
      rw[CF he,CF he,CS he,CS he]
      unfold Au
      rw[GO e.objs H H' (ha.slotH (slot+3) (by omega) (by omega)),KU ha.len (ha.slotF (slot+3) (by omega) (by omega))]
     cases v with
     |win id off n=>
      cases off with
      |succ off=>rfl
      |zero=>
       simp only
       cases hany:(e.objs.any fun p=>Nat.beq p.1 id)with
       |false=>
        simp only[Bool.and_false]
        cases (Ci e H)[id]? with
        |none=>cases (Ci e H')[id]? with
         |none=>rfl
         |some o=>cases o<;>rfl
        |some o=>cases (Ci e H')[id]? with
         |none=>cases o<;>rfl
         |some o'=>cases o<;>cases o'<;>rfl
       |true=>
        rw[Arp]at hany
        obtain⟨p,hp,hpi⟩:=hany
        have hpi:=Aqv hpi
        subst hpi
        have hin:(∃ b∈bs,b.id? = some p.1)∨(slot≤p.1∧p.1<slot+Ep outs):=by
         rcases ho p hp with h|h
         ·obtain⟨j,hj⟩:=Vp.1 h
          exact .inl ⟨_,Aq5 (Apm hj),rfl⟩
         ·rcases Aeu _ _ _ _ h with⟨b,h1,h2⟩|h
          ·exact .inl ⟨b,Arx h1,h2⟩
          ·exact .inr h
        have h1:H[p.1]? = H'[p.1]? := by
         rcases hin with⟨b,hbm,hbi⟩|⟨h1,h2⟩
         ·exact ha.heap _ (hb b hbm _ hbi)
         ·exact ha.slotH _ h1 (by omega)
        have h2:fz.getD p.1 false=fz'.getD p.1 false:=by
         rcases hin with⟨b,hbm,hbi⟩|⟨h1,h2⟩
         ·exact ha.wrF _ (hb b hbm _ hbi)
         ·exact ha.slotF _ h1 (by omega)
        have h3:(Ci e H)[p.1]? = (Ci e H')[p.1]? := by
         rw[CF he,CF he]
         exact GO e.objs H H' h1
        have h4:Ap (GD e fz) p.1=Ap (GD e fz') p.1:=by
         rw[CS he,CS he]
         unfold Ap
         rw[KU ha.len h2]
        rw[h3,h4,hfree]
     |_=>rfl
    have mem:∀ p∈(given (bs.drop np)).map (fun i=>(i,Ob.dead))++(Cp (Ep outs) (bs.take np) slot).zip ((encode (cellsOf rs) outs y).heap.map (D0 (Cp (Ep outs) (bs.take np) slot))),p.1∈given (bs.drop np)∨p.1∈Cp (Ep outs) (bs.take np) slot:=by
     intro p hp
     rcases Apc.1 hp with h|h
     ·obtain⟨i,hi,rfl⟩:=Apx.1 h;exact .inl hi
     ·exact .inr (List.of_mem_zip h).1
    unfold NG
    rw[Ra (fz:=fz) (fz':=fz') (Ep outs) (bs.take np) slot (hf []),Ra (fz:=Al fr fz) (fz':=Al fr fz') (Ep outs) (bs.take np) slot (hf fr)]
    split
    ·split
     ·exact key { objs:=_ } _ rfl mem
     ·rfl
    ·split
     ·exact key { objs:=_,frz:=_ } _ rfl mem
     ·rfl
end
def ApG(i:Nat)(args:List AV):Option FuncId:=
 match args[i]? with
 |some (.clo f _)=>some f
 |some (.bnd f _)=>some f
 |_=>none
def Env.CE(E:Env)(g:FuncId)(i:Nat)(c:FuncId)(s:Spec):Env where
 spec x:=match Nat.beq x g with
  |true=>fun R args H fz slot k=>match ApG i args with
   |some c'=>match Nat.beq c' c with
    |true=>s R args H fz slot k
    |false=>E.spec x R args H fz slot k
   |.none=>Option.none
  |false=>E.spec x
 loc x:=match Nat.beq x g with
  |true=>false
  |false=>E.loc x
 loc2 x:=match Nat.beq x g with
  |true=>E.loc2 g
  |false=>E.loc2 x
theorem Env.Aw{P:Program}{E:Env}{g:FuncId}{i:Nat}{c:FuncId}{s:Spec}(h:AX P E)(hs:AO P g s)(hl2:OH s):AX P (E.CE g i c s):=by
 refine⟨?_,?_,?_⟩
 ·intro x
  simp only[Env.CE]
  cases hx:Nat.beq x g with
  |false=>exact h.1 x
  |true=>
   have:=Aqv hx
   subst this
   intro R args H fz slot k r hk
   simp only at hk
   split at hk
   ·rename_i c' hc'
    split at hk
    ·rename_i hb
     obtain⟨v,e,h1,h2,h3,h4⟩:=hs R args H fz slot k r hk
     exact⟨v,e,h1,fun R' k'=>by simp only[hc',hb];exact h2 R' k',h3,h4⟩
    ·rename_i hb
     obtain⟨v,e,h1,h2,h3,h4⟩:=h.1 x R args H fz slot k r hk
     exact⟨v,e,h1,fun R' k'=>by simp only[hc',hb];exact h2 R' k',h3,h4⟩
   ·cases hk
 ·intro x hx
  simp only[Env.CE]at hx ⊢
  cases hb:Nat.beq x g with
  |true=>rw[hb]at hx;cases hx
  |false=>rw[hb]at hx;exact h.2.1 x hx
 ·intro x hx
  simp only[Env.CE]at hx ⊢
  cases hb:Nat.beq x g with
  |true=>
   rw[hb]at hx
   have:=Aqv hb
   subst this
   have h2:=h.2.2 x hx
   intro R args H H' fz fz' slot k S a1 a2 a3
   simp only
   split
   ·split
    ·exact hl2 R args H H' fz fz' slot k S a1 a2 a3
    ·exact h2 R args H H' fz fz' slot k S a1 a2 a3
   ·rfl
  |false=>rw[hb]at hx;exact h.2.2 x hx
end Go.Pev
end
section
namespace Go.Pev
open Go.RowKit Go.ChangeShapes Go.WideShapes Go.ChangeAt
def PV(P:Program)(rd:TypeId→Option Ty):List Field→Nat→Option Ty
 |[],_=>some .unit
 |f::r,off=>match rd f.type,PV P rd r (off+P.cellsOf f.type)with
  |some a,some b=>match Nat.beq f.offset off&&Nat.beq (P.cellsOf f.type) a.size with
   |true=>some (.prod a b)
   |false=>none
  |_,_=>none
def FY(P:Program):Nat→TypeId→Option Ty
 |0,_=>none
 |n+1,t=>match P.underlying t with
  |some .bool=>some .bool
  |some (.int k)=>some (.int k)
  |some (.slice e)=>match FY P n e with
   |some a=>match Nat.beq (P.cellsOf e) a.size && !(Nat.beq a.size 0)with
    |true=>some (.slice a)
    |false=>none
   |none=>none
  |some (.array c e)=>match FY P n e with
   |some a=>match Nat.beq (P.cellsOf e) a.size&&Nat.beq (P.cellsOf t) (c*a.size)with
    |true=>some (.arr c a)
    |false=>none
   |none=>none
  |some (.struct fs)=>match PV P (FY P n) fs.toList 0 with
   |some a=>match Nat.beq (P.cellsOf t) a.size with
    |true=>some a
    |false=>none
   |none=>none
  |_=>none
def wfD:(t:Ty)→t.den→Prop
 |.unit,_=>True
 |.bool,_=>True
 |.int k,n=>k.min≤n∧n≤k.max
 |.slice e,xs=>List.length (α:=e.den) xs≤maxLen∧∀ x∈(xs:List e.den),wfD e x
 |.prod a b,d=>wfD a d.1∧wfD b d.2
 |.arr n e,xs=>List.length (α:=e.den) xs=n∧∀ x∈(xs:List e.den),wfD e x
 |.nul _,_=>True
section
variable {H:Type} {enc:TypeId×Value→H} {P:Program} {w:World} {spare:Nat→Bool} {held:Bool}
abbrev below(w:World):Nat→Prop:=fun b=>b<w.heap.size
theorem AoB{k:IntKind}{n:Int}(h:(Lit.int k n).wf=true):k.min≤n∧n≤k.max:=by
 simpa [Lit.wf]using h
theorem Aan{α:Type}{R:α→List Value→Prop}{k:Nat}:∀ (m:Nat) (f:Nat→List Value),(∀ i,i<m→(f i).length=k∧∃ x,R x (f i))→∃ xs:List α,xs.length=m∧rows R xs ((List.range m).flatMap f)∧∀ x∈xs,∃ i,i<m∧R x (f i):=by
 intro m
 induction m with
 |zero=>intro f _;exact⟨[],rfl,rfl,fun x hx=>by cases hx⟩
 |succ m ih=>
  intro f h
  obtain⟨xs,h1,h2,h3⟩:=ih f fun i hi=>h i (by omega)
  obtain⟨_,x,hx⟩:=h m (by omega)
  refine⟨xs++[x],by simp[h1],?_,fun y hy => ?_⟩
  ·rw[AqR,Aqw]
   exact Jf h2 (by simp;exact⟨f m,[],by simp,hx,rfl⟩)
  ·rcases Apc.1 hy with hy|hy
   ·obtain⟨i,hi,hr⟩:=h3 y hy;exact⟨i,by omega,hr⟩
   ·simp only[AqG]at hy;subst hy;exact⟨m,by omega,hx⟩
theorem AkQ{f:Nat→List Value}{k:Nat}:∀ (m:Nat),(∀ i,i<m→(f i).length=k)→∀ (j:Nat) (u:Value),((List.range m).flatMap f)[j]? = some u→∃ i r,i<m∧r<k∧j=i*k+r∧(f i)[r]? = some u:=by
 intro m
 induction m with
 |zero=>intro _ j u h;simp at h
 |succ m ih=>
  intro hl j u h
  rw[AqR,Aqw]at h
  have hlen:∀ m',m'≤m→((List.range m').flatMap f).length=m'*k:=by
   intro m' hm'
   induction m' with
   |zero=>simp
   |succ m' ih'=>
    rw[AqR,Aqw,Apd,ih' (by omega)]
    simp[hl m' (by omega),Aqg]
  rcases Aqf j (m*k)with hj|hj
  ·rw[Ap4 (by rw[hlen m (Apj _)];exact hj)]at h
   obtain⟨i,r,h1,h2,h3,h4⟩:=ih (fun i hi=>hl i (by omega)) j u h
   exact⟨i,r,by omega,h2,h3,h4⟩
  ·rw[Ap6 (by rw[hlen m (Apj _)];exact hj),hlen m (Apj _)]at h
   simp only[AqH,List.flatMap_nil,Aqn]at h
   have hr:j-m*k<k:=by
    have:=Bd h
    rwa [hl m (by omega)]at this
   exact⟨m,j-m*k,by omega,hr,by omega,h⟩
theorem AlG(a:Addr)(i j:Nat):(a.add i).add j=a.add (i+j):=by
 unfold Addr.add
 by_cases hi:i=0
 ·subst hi;simp
 ·by_cases hj:j=0
  ·subst hj;simp
  ·have:¬ (i+j=0):=by omega
   simp[hi,hj,Arb]
theorem AZu{α:Type}[Inhabited α]{n:Nat}{p:Nat→α→Prop}(h:∀ i,i<n→∃ x,p i x):∃ f:Nat→α,∀ i,i<n→p i (f i):=by
 classical
 refine⟨fun i=>if hi:i<n then Classical.choose (h i hi)else default,fun i hi => ?_⟩
 simp only[dif_pos hi]
 exact Classical.choose_spec (h i hi)
theorem AWj{rd:TypeId→Option Ty}{cs:List Value}(hrd:∀ (f:Field) (a:Ty),rd f.type=some a→(P.cellsOf f.type=a.size)→(∃ y:Nat×(DataW H×List MemPlace),DataW.trod enc P w 0 spare held y.1 f.type ((cs.drop f.offset).take (P.cellsOf f.type))=some y.2)→∃ d:a.den,Dat w (below w) a d ((cs.drop f.offset).take (P.cellsOf f.type))∧wfD a d):
  ∀ (fs:List Field) (off:Nat) (t:Ty),PV P rd fs off=some t→off+t.size=cs.length→(∀ f∈fs,∃ y:Nat×(DataW H×List MemPlace),DataW.trod enc P w 0 spare held y.1 f.type ((cs.drop f.offset).take (P.cellsOf f.type))=some y.2) →
   ∃ d:t.den,Dat w (below w) t d (cs.drop off)∧wfD t d:=by
 intro fs
 induction fs with
 |nil=>
  intro off t h hl _
  simp only[PV,ApY]at h
  subst h
  refine⟨(),?_,trivial⟩
  show cs.drop off=[]
  simp[Ty.size]at hl
  exact List.drop_eq_nil_of_le (by omega)
 |cons f r ih=>
  intro off t h hl hf
  simp only[PV]at h
  split at h
  ·rename_i a b ha hb
   split at h
   ·rename_i hc
    simp only[ApY]at h
    subst h
    simp only[Apf]at hc
    have h1:=Aqv hc.1
    have h2:=Aqv hc.2
    obtain⟨d,hd,hw⟩:=hrd f a ha h2 (hf f (by simp))
    simp only[Ty.size]at hl
    obtain⟨e,he,hw'⟩:=ih (off+P.cellsOf f.type) b hb (by omega) fun g hg=>hf g (by simp[hg])
    refine⟨(d,e),⟨(cs.drop off).take (P.cellsOf f.type),cs.drop (off+P.cellsOf f.type),?_,?_,he⟩,hw,hw'⟩
    ·rw[← ArS,Aqh]
    ·rw[h1]at hd;exact hd
   ·cases h
  ·cases h
theorem Agx:∀ (n:Nat) (t:TypeId) (ty:Ty) (fuel:Nat) (cs:List Value) (x:DataW H×List MemPlace),FY P n t=some ty→DataW.trod enc P w 0 spare held fuel t cs=some x→∃ d:ty.den,Dat w (below w) ty d cs∧wfD ty d:=by
 intro n
 induction n with
 |zero=>intro t ty fuel cs x h;cases h
 |succ n ih=>
  intro t ty fuel cs x h hx
  simp only[FY]at h
  split at h
  ·rename_i hu
   simp only[ApY]at h;subst h
   obtain⟨b,rfl,_⟩:=DataW.trod_bool hu hx
   exact⟨b,rfl,trivial⟩
  ·rename_i k hu
   simp only[ApY]at h;subst h
   obtain⟨m,rfl,_,hw⟩:=DataW.trod_int hu hx
   exact⟨m,rfl,AoB hw⟩
  ·rename_i e hu
   split at h
   ·rename_i a ha
    split at h
    ·rename_i hc
     simp only[ApY]at h;subst h
     rw[Apf]at hc
     have hpos:a.size≠0:=fun h0=>by rw[h0]at hc;simp at hc
     have hc:=Aqv hc.1
     rcases DataW.trod_slice hu hx with⟨rfl,_⟩|⟨ad,len,cap,elems,rest,m,rfl,rfl,_,_,hle,hmax,hlen,hel,_⟩
     ·exact⟨[],⟨none,0,rfl,Apj _,fun hne=>absurd rfl hne⟩,ArZ _,fun x hx=>by cases hx⟩
     ·-- each element
      have each:∀ i,i<len→∃ cs',w.cells? 0 (ad.add (i*P.cellsOf e)) (P.cellsOf e)=some cs'∧∃ d:a.den,Dat w (below w) a d cs'∧wfD a d:=by
       intro i hi
       have h1:=hel i hi
       rw[ApZ (by omega),AqM]at h1
       obtain⟨cs',h2,h3⟩:=h1
       exact⟨cs',h2,ih e a m cs' _ ha h3⟩
      obtain⟨f,hf⟩:=AZu (α:=List Value) (p:=fun i cs'=>w.cells? 0 (ad.add (i*P.cellsOf e)) (P.cellsOf e)=some cs'∧∃ d:a.den,Dat w (below w) a d cs'∧wfD a d) each
      have hfl:∀ i,i<len→(f i).length=a.size:=by
       intro i hi
       obtain⟨_,hl,_⟩:=World.cells?_some (hf i hi).1
       rw[hl,hc]
      obtain⟨xs,h1,h2,h3⟩:=Aan (R:=fun(d:a.den) cs=>Dat w (below w) a d cs∧wfD a d) (k:=a.size) len f fun i hi=>⟨hfl i hi,(hf i hi).2⟩
      refine⟨xs,⟨some ad,cap,by rw[h1],by rw[h1];exact hle,fun hne=>⟨ad,(List.range len).flatMap f,rfl,?_,BO (fun x _ cs hx=>hx.1) h2,fun j u hu => ?_⟩⟩,by rw[h1];exact AqY hle hmax,fun x hx => ?_⟩
      ·-- the block is there
       have hl0:0<len:=by
        rcases AqW len with h0|h0
        ·exact absurd (Ap0 (by rw[h1,h0])) hne
        ·exact h0
       have hb:=World.cells?_block (hf 0 hl0).1 (by omega)
       rw[Arj]at hb
       have e0:ad.add 0=ad:=by simp[Addr.add]
       rw[e0]at hb
       exact hb
      ·obtain⟨i,r,hi,hr,rfl,hur⟩:=AkQ len hfl j u hu
       obtain⟨_,_,hcell⟩:=World.cells?_some (hf i hi).1
       have:=hcell r (by rw[hc];exact hr)
       rw[hur]at this
       rw[← this,hc,AlG]
      ·obtain⟨i,_,hr⟩:=h3 x hx
       exact hr.2
    ·cases h
   ·cases h
  ·rename_i c e hu
   split at h
   ·rename_i a ha
    split at h
    ·rename_i hc
     simp only[ApY]at h;subst h
     rw[Apf]at hc
     have hc1:=Aqv hc.1
     have hc2:=Aqv hc.2
     obtain⟨xs,m,rfl,_,hl,hxs,hfs⟩:=DataW.trod_array hu hx
     rw[hc2]at hl
     obtain⟨ys,h1,h2,h3⟩:=Aan (R:=fun(d:a.den) cs=>Dat w (below w) a d cs∧wfD a d) (k:=a.size) c (fun i=>(cs.drop (i*a.size)).take a.size) fun i hi=>by
      have hi1:i*a.size+a.size≤c*a.size:=by
       have:=AqO a.size (show i+1≤c from hi)
       rwa [Aqg,ArC]at this
      have h1:=hfs i hi
      rw[ApZ (by omega),hc1]at h1
      exact⟨by rw[Aps,Aqc,hl];omega,ih e a m _ _ ha h1⟩
     have hjoin:∀ k,k≤c→(List.range k).flatMap (fun i=>(cs.drop (i*a.size)).take a.size)=cs.take (k*a.size):=by
      intro k
      induction k with
      |zero=>intro _;simp
      |succ k ihk=>
       intro hk
       rw[AqR,Aqw,ihk (by omega),Aqg,ArC,List.take_add]
       simp
     rw[hjoin c (Apj _),← hl,AqF]at h2
     exact⟨ys,⟨h1,BO (fun x _ cs hx=>hx.1) h2⟩,h1,fun x hx=>by obtain⟨i,_,hr⟩:=h3 x hx;exact hr.2⟩
    ·cases h
   ·cases h
  ·rename_i fs hu
   split at h
   ·rename_i a ha
    split at h
    ·rename_i hc
     simp only[ApY]at h;subst h
     have hc:=Aqv hc
     obtain⟨xs,m,rfl,_,hl,hxs,hfs⟩:=DataW.trod_struct hu hx
     obtain⟨d,hd,hw⟩:=AWj (enc:=enc) (w:=w) (spare:=spare) (held:=held) (cs:=cs) (fun f b hb _ ⟨y,hy⟩=>ih f.type b y.1 _ y.2 hb hy) fs.toList 0 _ ha (by rw[hl,hc];omega) (fun f hf=>by
      obtain⟨i,hi⟩:=Arm hf
      have h1:=hfs i f (by simpa using hi)
      have hlt:i<xs.length:=by rw[hxs];simpa using Bd hi
      rw[ApZ hlt]at h1
      exact⟨(m,xs[i]),h1⟩)
     rw[AsL]at hd
     exact⟨d,hd,hw⟩
    ·cases h
   ·cases h
  ·cases h
theorem AXi{r:Reach}{b0:Nat}{t:TypeId}{v:Value}(hval:Value.okWide P w r b0 t v)(hn:∀ d,P.underlying t=some d→(match d with|.bool|.int _|.slice _=>true|_=>false)=true){ty:Ty}{n:Nat}(h:FY P (n+1) t=some ty):v.cells.toList=[v]:=by
 simp only[Value.okWide]at hval
 have hu:∃ d,P.underlying t=some d:=by
  cases hu:P.underlying t with
  |none=>simp only[FY,hu]at h;cases h
  |some d=>exact⟨d,rfl⟩
 obtain⟨d,hu⟩:=hu
 have:=hn d hu
 rw[hu]at hval
 cases d<;>simp only[Apo]at this<;>simp only[Cell.okWide,hu]at hval<;>cases v<;>first|rfl|(simp_all [Cell.ok])
theorem AAT{r:Reach}{b0:Nat}{t:TypeId}{v:Value}{ps:List MemPlace}{dd:DataW H}(hval:Value.okWide P w r b0 t v)(hd:DataW.Trod enc P w 0 spare held t v dd ps){ty:Ty}{n:Nat}(h:FY P (n+1) t=some ty):
  ∃ d:ty.den,Bi w (below w) ty d v∧wfD ty d:=by
 obtain⟨fuel,hf⟩:=hd
 obtain⟨d,h1,h2⟩:=Agx (n+1) t ty fuel _ _ h hf
 refine⟨d,?_,h2⟩
 have one:(∀ d,P.underlying t=some d→(match d with|.bool|.int _|.slice _=>true|_=>false)=true)→ty.isAgg=false→Bi w (below w) ty d v:=by
  intro hn hg
  unfold Bi
  rw[hg]
  rw[AXi hval hn h]at h1
  exact h1
 have agg:(∃ cs,v = .agg cs)→ty.isAgg=true→Bi w (below w) ty d v:=by
  rintro⟨cs,rfl⟩ hg
  unfold Bi
  rw[hg]
  exact⟨cs,rfl,h1⟩
 have hu:∃ d,P.underlying t=some d:=by
  cases hu:P.underlying t with
  |none=>simp only[FY,hu]at h;cases h
  |some d=>exact⟨d,rfl⟩
 obtain⟨td,hu⟩:=hu
 simp only[FY,hu]at h
 split at h
 ·rename_i hq;cases hq;simp only[ApY]at h;subst h
  exact one (fun d hd=>by rw[hu]at hd;cases hd;rfl) rfl
 ·rename_i k hq;cases hq;simp only[ApY]at h;subst h
  exact one (fun d hd=>by rw[hu]at hd;cases hd;rfl) rfl
 ·rename_i e hq;cases hq
  split at h
  ·split at h
   ·simp only[ApY]at h;subst h
    exact one (fun d hd=>by rw[hu]at hd;cases hd;rfl) rfl
   ·cases h
  ·cases h
 ·rename_i c e hq;cases hq
  have hv:∃ cs,v = .agg cs:=by
   simp only[Value.okWide,hu]at hval
   obtain⟨cs,rfl,_⟩:=hval
   exact⟨cs,rfl⟩
  split at h
  ·split at h
   ·simp only[ApY]at h;subst h
    exact agg hv rfl
   ·cases h
  ·cases h
 ·rename_i fs hq;cases hq
  have hv:∃ cs,v = .agg cs:=by
   simp only[Value.okWide,hu]at hval
   obtain⟨cs,rfl,_⟩:=hval
   exact⟨cs,rfl⟩
  split at h
  ·rename_i a ha
   split at h
   ·simp only[ApY]at h;subst h
    refine agg hv ?_
    cases hfs:fs.toList with
    |nil=>rw[hfs]at ha;simp only[PV,ApY]at ha;subst ha;rfl
    |cons f r=>
     rw[hfs]at ha
     simp only[PV]at ha
     split at ha
     ·split at ha
      ·simp only[ApY]at ha;subst ha;rfl
      ·cases ha
     ·cases ha
   ·cases h
  ·cases h
 ·cases h
theorem AHs{g:FuncId}{s:Spec}(hs:AO P g s){args:List AV}{b:Bool}{e:Eff}(hrun:s (AV×Eff) args [] [] 0 (fun v e=>some (v,e))=some (.data .bool b,e)){vals:List Value}
  (hr:Af w (below w) (fun _=>none) [] args vals):Calls P g vals.toArray w fun en w'=>en = .returned (.bool b)∧Below w.heap.size w w':=by
 obtain⟨v,e',h1,_,_,h4⟩:=hs _ args [] [] 0 _ _ hrun
 simp only[ApY,Apy]at h1
 obtain⟨rfl,rfl⟩:=h1
 have hi:HI w (below w) (fun _=>none) [] []:=⟨fun id o h=>by simp at h,fun i j b c b' c' h=>by simp[owned]at h,fun i b c h=>by simp[owned]at h,fun i T t xs b c h=>by simp at h,fun b h=>h,rfl⟩
 refine(h4 w _ _ vals hi hr).mono ?_
 rintro en w' ⟨u,rfl,F',m',⟨hx,_⟩,hu⟩
 have hb:u = .bool b:=Ck hu
 subst hb
 exact⟨rfl,hx.os,hx.tape,hx.output,hx.size,fun i hi=>hx.keep i hi fun j c ho _=>by simp[owned]at ho⟩
end
section
variable {H:Type} {enc:TypeId×Value→H} {P:Program}
theorem AGx{f:Func}{s:ChangeSpec}{apart fresh handsOn again:Bool}{W W':World}{args:Array Value}{v:Value}{ds gs:List (DataW H)}{before pa pv:List MemPlace}
  (hW:DataW.Whole enc P f.params.toList s.vars apart W args.toList ds gs before)
  (hres:∀ (b:Nat) (sp:Nat→Bool) (hd:Bool),DataW.TrodAll enc P W' b sp hd f.resultTypes.toList (v.resultList f.resultTypes.size) (s.fn H (ds++gs)).results [])
  (hargs:∀ sp:Nat→Bool,(∀ p∈before,sp p.block=true)→DataW.TrodAll enc P W' 0 sp true f.params.toList args.toList (s.fn H (ds++gs)).args pa)
  (hvars:∀ sp:Nat→Bool,(∀ p∈before,sp p.block=true)→DataW.TrodVars enc P W' sp s.vars (s.fn H (ds++gs)).vars pv)
  (hps:before=pa++pv) (hb:Below W.heap.size W W')
  (hok:∀ (j:Nat) (t:TypeId) (r:Value),f.resultTypes[j]? = some t→(v.resultList f.resultTypes.size)[j]? = some r→Value.okWide P W' .any 0 t r) :
  s.post enc P f apart fresh handsOn again W args v W':=by
 have hlt:∀ p∈before,p.block<W.heap.size:=fun p hp=>hW.lt p hp
 have hold:∀ p∈before,(fun b=>decide (b<W.heap.size)) p.block=true:=fun p hp=>by simpa using hlt p hp
 refine⟨ds,gs,before,[],pa,pv,hW,hres _ _ _,hargs _ hold,hvars _ hold,World.keptBut_mono (fun p hp=>⟨hp,?_⟩) (hb.frame (·∈before)),fun _ => ?_⟩
 ·rw[hps,Apc]at hp
  exact Or.inr hp
 ·obtain⟨_,_,_,_,_,hz,hn⟩:=hW
  refine⟨hok,_,_,([]++pa)++pv,⟨[]++pa,pv,trodAll_append (hargs _ (fun _ _=>rfl)) (hres _ _ _),hvars _ (fun _ _=>rfl),rfl,?_,?_⟩,?_⟩
  ·intro b off hp
   have hin:MemPlace.cell b off∈before:=by rw[hps];simpa using hp
   rw[hb.frozen (hlt _ hin)]
   exact hz b off hin
  ·intro ha
   have:=hn ha
   rw[hps]at this
   simpa using this
  ·intro p hp _
   rw[hps]
   simpa using hp
theorem PD{t:TypeId}(hl:laidOutB P=true)(hr:P.readableRec t=true)(hrow:t<P.types.size){W W':World}{v:Value}{d:DataW H}{ps:List MemPlace}
  (h:DataW.Trod enc P W 0 (fun _=>true) true t v d ps) (hb:Below W.heap.size W W') (hlt:∀ x∈ps,x.block<W.heap.size) {sp:Nat→Bool} (hs:∀ x∈ps,sp x.block=true) :
  DataW.Trod enc P W' 0 sp true t v d ps:=
 WideElems.Trod_stays hl hr hrow h (fun x hx=>hb.same (hlt x hx)) hs
end
end Go.Pev
end
section
section
namespace Go.Pev.Pl
open Tok
theorem Mh{n u v:Int}(h:okT n (.arc u v)):okT n (.arc v u):=⟨h.2.1,h.1,AqS h.2.2⟩
end Go.Pev.Pl
end
section
namespace Go.Pev.Pl
open Tok
theorem Ao2(n t:Int):TI n [t]↔In n t:=by
 constructor
 ·rintro⟨L,h1,h2,h3⟩
  rcases h3.leaf with⟨v,e⟩|⟨x,v,r,hr⟩
  ·subst e
   simp only[AqE,ArM,Apz,Arr]at h1
   rw[h1]
   exact h2 (.ver v) (by simp)
  ·have h4:=hr.length
   have h5:=Aq7 List.length h1
   simp only[Api,Apt,Ap1]at h4 h5
   omega
 ·intro h
  exact⟨[.ver t],rfl,fun x hx=>by simp at hx;subst hx;exact h,T.one t⟩
theorem Ao3(n:Int):¬ TI n []:=by
 rintro⟨L,h1,h2,h3⟩
 have:=h3.facts.1
 cases L with
 |nil=>exact this rfl
 |cons t L=>cases h1
end Go.Pev.Pl
end
section
namespace Go.Pev.Pl
open Tok
def RG(n:Int)(xs:List Int):Prop:=Rt xs∧xs≠[]∧IL xs=xs.headD 0∧TI n xs
def okR(n:Int):List Int→Int→List (List Int)→Prop
 |_,_,[]=>True
 |seen,last,l::ls=>RG n l∧last<l.headD 0∧(∀ t∈l,t<n→t∉seen)∧okR n (seen++l.filter (fun t=>decide (t<n))) (l.headD 0) ls
def RF(n:Int)(rings:List (List Int)):Prop:=Sz n∧okR n [] (-1) rings∧∀ v,0≤v→v<n→v∈rings.flatten
noncomputable instance (n:Int) (rings:List (List Int)):Decidable (RF n rings):=Classical.propDecidable _
noncomputable instance (n:Int) (xs:List Int):Decidable (RG n xs):=Classical.propDecidable _
def MI(n:Int)(met:List (Int×Int))(seen:List Int):Prop:=∀ t,t<n→(AR met t).getD (0:Int)=if t∈seen then 1 else 0
theorem AKh(n:Int)(l:List Int)(hl:l.length<1073741824)(d1:List (List Int))(d3:Int)(d4:List (List Int))(d5 d6:Int)(d7:List Int)(d8 d9:Int)(d10:Bool)(d11:List Int)(d12 d13:Bool)(d14:List Int)(d15:Int)(d16:List Int)(d17:Int)(d18:Bool)(d19:Int)(d20:List Int)(d21 d22:Bool):
  ∀ (m k cnt:Nat) (met:List (Int×Int)) (seen:List Int),k+m=l.length→MI n met seen→(l.drop k).Nodup→m<cnt →
  ((∀ t∈l.drop k,t<n→t∉seen)∧∃ met',Aj Db cnt (n,d1,met,d3,d4,d5,d6,d7,d8,d9,d10,d11,d12,d13,d14,d15,d16,d17,d18,d19,d20,d21,d22,l,(l.length:Int),(k:Int),()) =
    some (.inr (.inl (n,d1,met',d3,d4,d5,d6,d7,d8,d9,d10,d11,d12,d13,d14,d15,d16,d17,d18,d19,d20,d21,d22,())))∧MI n met' (seen++(l.drop k).filter (fun t=>decide (t<n)))) ∨
  (¬ (∀ t∈l.drop k,t<n→t∉seen)∧Aj Db cnt (n,d1,met,d3,d4,d5,d6,d7,d8,d9,d10,d11,d12,d13,d14,d15,d16,d17,d18,d19,d20,d21,d22,l,(l.length:Int),(k:Int),())=some (.inl (false,()))):=by
 intro m
 induction m with
 |zero=>
  intro k cnt met seen hk hm hn hc
  obtain⟨cnt,rfl⟩:∃ c,cnt=c+1:=⟨cnt-1,by omega⟩
  have e:l.drop k=[]:=Aq6 (by omega)
  rw[e]
  refine .inl ⟨by simp,met,?_,by simpa using hm⟩
  rw[Aj,Db,AL,ApW (by omega)]
 |succ m ih=>
  intro k cnt met seen hk hm hn hc
  obtain⟨cnt,rfl⟩:∃ c,cnt=c+1:=⟨cnt-1,by omega⟩
  have hk':k<l.length:=by omega
  have e:l.drop k=l.getD k 0::l.drop (k+1):=by
   rw[AqL hk',Apa,ApZ hk',AqT]
  rw[Aj,Db,AL,ApX hk']
  simp only[Lu (0:Int) hk']
  rw[e]at hn ⊢
  generalize l.getD k 0=t at *
  rw[Ap9]at hn
  rw[AP (by omega),Ae]
  by_cases ht:t<n
  ·rw[ApX ht]
   have hmt:=hm t ht
   simp only[hmt,Ae]
   by_cases hs:t∈seen
   ·rw[Apk hs,ApX (by omega)]
    exact .inr ⟨fun h=>h t (by simp) ht hs,rfl⟩
   ·rw[Apg hs,ApW (by omega)]
    simp only[]
    have w1:IntKind.wrap .i64 ((0:Int)+1)=1:=by rw[Ah (by omega)];rfl
    rw[w1]
    have hm':MI n (Ad met t 1) (seen++[t]):=by
     intro y hy
     rw[Di]
     by_cases e2:y=t
     ·simp[e2]
     ·simp only[e2,Apr,Apc,AqG,AsG];exact hm y hy
    have hiff:(∀ y∈t::l.drop (k+1),y<n→y∉seen)↔∀ y∈l.drop (k+1),y<n→y∉seen++[t]:=by
     constructor
     ·intro h y hy hyn hm2
      simp only[Apc,AqG]at hm2
      rcases hm2 with h2|rfl
      ·exact h y (Ap5 _ hy) hyn h2
      ·exact hn.1 hy
     ·intro h y hy hyn hm2
      rcases Ape.1 hy with rfl|hy
      ·exact hs hm2
      ·exact h y hy hyn (by simp[hm2])
    rcases ih (k+1) cnt _ _ (by omega) hm' hn.2 (by omega)with⟨q1,met',q2,q3⟩|⟨q1,q2⟩
    ·refine .inl ⟨hiff.2 q1,met',q2,?_⟩
     rw[List.filter_cons_of_pos (by simpa using ht)]
     simpa using q3
    ·exact .inr ⟨fun h=>q1 (hiff.1 h),q2⟩
  ·rw[ApW ht]
   simp only[]
   have hm':MI n (Ad met t (IntKind.wrap .i64 (((AR met t).getD (0:Int))+(1:Int)))) seen:=by
    intro y hy
    rw[Di,Apg (by omega)]
    exact hm y hy
   have hiff:(∀ y∈t::l.drop (k+1),y<n→y∉seen)↔∀ y∈l.drop (k+1),y<n→y∉seen:=by
    constructor
    ·intro h y hy;exact h y (Ap5 _ hy)
    ·intro h y hy hyn
     rcases Ape.1 hy with rfl|hy
     ·exact absurd hyn ht
     ·exact h y hy hyn
   rcases ih (k+1) cnt _ _ (by omega) hm' hn.2 (by omega)with⟨q1,met',q2,q3⟩|⟨q1,q2⟩
   ·refine .inl ⟨hiff.2 q1,met',q2,?_⟩
    rw[List.filter_cons_of_neg (by simpa using ht)]
    exact q3
   ·exact .inr ⟨fun h=>q1 (hiff.1 h),q2⟩
theorem AAV(n:Int)(rings:List (List Int))(hlen:rings.length<1073741824)(hr:∀ l∈rings,l.length<9223372036854775808∧∀ x∈l, -9223372036854775808≤x∧x≤9223372036854775807):
  ∀ (ls:List (List Int)) (i cnt:Nat) (met:List (Int×Int)) (last:Int) (seen:List Int),rings.drop i=ls→i≤rings.length→MI n met seen→ls.length<cnt →
  (okR n seen last ls∧∃ met' seen',Aj Dc cnt (n,rings,met,last,rings,(rings.length:Int),(i:Int),())=some (.inr (.inl (n,rings,met',())))∧MI n met' seen'∧∀ v,v∈seen'↔v∈seen∨(v<n∧v∈ls.flatten)) ∨
  (¬ okR n seen last ls∧Aj Dc cnt (n,rings,met,last,rings,(rings.length:Int),(i:Int),())=some (.inl (false,()))):=by
 have hmany:4294967296<many:=by simp only[many];omega
 intro ls
 induction ls with
 |nil=>
  intro i cnt met last seen hd hi hm hc
  obtain⟨cnt,rfl⟩:∃ c,cnt=c+1:=⟨cnt-1,by simp at hc;omega⟩
  have:rings.length≤i:=by simpa using hd
  refine .inl ⟨trivial,met,seen,?_,hm,by simp⟩
  rw[Aj,Dc,AL,ApW (by omega)]
 |cons l ls ih=>
  intro i cnt met last seen hd hi hm hc
  simp only[Api]at hc
  obtain⟨cnt,rfl⟩:∃ c,cnt=c+1:=⟨cnt-1,by omega⟩
  have hi':i<rings.length:=by
   refine Aqx fun h => ?_
   rw[Aq6 (by omega)]at hd
   cases hd
  rw[AqL hi']at hd
  simp only[Apz]at hd
  obtain⟨hd1,hd2⟩:=hd
  have hx:rings[i]? = some l:=by rw[ApZ hi',hd1]
  have hmem:l∈rings:=Apm hx
  obtain⟨hl,hlr⟩:=hr l hmem
  rw[Aj,Dc,AL,ApX hi',okR]
  simp only[AW hx,Ag]
  cases l with
  |nil=>
   rw[AS,ApX (by simp)]
   exact .inr ⟨fun h=>h.1.2.1 rfl,rfl⟩
  |cons x tl=>
   rw[AS,ApW (by simp only[Api];omega)]
   have i0:idx (x::tl) (0:Int)=some x:=by rw[Ju];rfl
   simp only[i0,List.headD_cons,An]
   by_cases c1:x≤last
   ·rw[ApX c1]
    exact .inr ⟨fun h=>by omega,rfl⟩
   ·rw[ApW c1]
    simp only[PS]
    by_cases c2:Rt (x::tl)
    ·rw[ApX c2]
     have hl:(x::tl).length<1073741824:=by have:=c2.1;omega
     simp only[Aph,ASZ (x::tl) (by simp) (by omega)]
     by_cases c3:IL (x::tl)=x
     ·rw[ApX c3]
      simp only[Aph]
      rw[Aj5 n (x::tl) (by simp) (by omega) hlr c2.2.2 (fun y hy=>by simp at hy;rw[← hy];exact c3)]
      by_cases c4:TI n (x::tl)
      ·rw[ApX c4]
       simp only[Aph,A3]
       have hRG:RG n (x::tl):=⟨c2,by simp,c3,c4⟩
       rcases AKh n (x::tl) hl rings x rings (rings.length:Int) (i:Int) (x::tl) x last false (x::tl) true false (x::tl) (IL (x::tl)) (x::tl) x false n (x::tl) true false (x::tl).length 0 many met seen (by omega) hm (by rw[AsL];exact c2.2.2) (by omega)with⟨q1,met',q2,q3⟩|⟨q1,q2⟩
       ·rw[AsL]at q1 q3
        have q2':Aj Db many (n,rings,met,x,rings,(rings.length:Int),(i:Int),x::tl,x,last,false,x::tl,true,false,x::tl,IL (x::tl),x::tl,x,false,n,x::tl,true,false,x::tl,((x::tl).length:Int),(0:Int),())=_:=q2
        simp only[q2',AP (show i+1<9223372036854775808 by omega)]
        rcases ih (i+1) cnt met' x (seen++(x::tl).filter (fun t=>decide (t<n))) hd2 (by omega) q3 (by omega)with⟨p1,met2,seen2,p2,p3,p4⟩|⟨p1,p2⟩
        ·refine .inl ⟨⟨hRG,by omega,q1,p1⟩,met2,seen2,p2,p3,fun v => ?_⟩
         rw[p4,Apc,AqB,Aq3,Apc]
         simp only[Apb]
         constructor
         ·rintro ((h|h)|h)
          ·exact .inl h
          ·exact .inr ⟨h.2,.inl h.1⟩
          ·exact .inr ⟨h.1,.inr h.2⟩
         ·rintro (h|⟨h,h2|h2⟩)
          ·exact .inl (.inl h)
          ·exact .inl (.inr ⟨h2,h⟩)
          ·exact .inr ⟨h,h2⟩
        ·exact .inr ⟨fun h=>p1 h.2.2.2,p2⟩
       ·rw[AsL]at q1
        have q2':Aj Db many (n,rings,met,x,rings,(rings.length:Int),(i:Int),x::tl,x,last,false,x::tl,true,false,x::tl,IL (x::tl),x::tl,x,false,n,x::tl,true,false,x::tl,((x::tl).length:Int),(0:Int),())=_:=q2
        simp only[q2']
        exact .inr ⟨fun h=>q1 h.2.2.1,by trivial⟩
      ·rw[ApW c4]
       exact .inr ⟨fun h=>c4 h.1.2.2.2,rfl⟩
     ·rw[ApW c3]
      exact .inr ⟨fun h=>c3 h.1.2.2.1,rfl⟩
    ·rw[ApW c2]
     exact .inr ⟨fun h=>c2 h.1.1,rfl⟩
theorem AAU(n:Int)(rings:List (List Int))(hlen:rings.length<1073741824)(hr:∀ l∈rings,l.length<9223372036854775808∧∀ x∈l, -9223372036854775808≤x∧x≤9223372036854775807):
  TK ((n,(rings,())),())=some (decide (RF n rings),()):=by
 have hmany:4294967296<many:=by simp only[many];omega
 rw[AH8,Qk]
 simp only[KO]
 by_cases hS:Sz n
 ·rw[ApX hS]
  simp only[Aph,A3,AS]
  rcases AAV n rings hlen hr rings 0 many [] (-1) [] (by simp) (by omega) (fun t _=>by simp[AR]) (by omega)with⟨p1,met,seen,p2,p3,p4⟩|⟨p1,p2⟩
  ·have p2':Aj Dc many (n,rings,[], -1,rings,(rings.length:Int),(0:Int),())=_:=p2
   simp only[p2']
   obtain⟨s1,s2⟩:=hS
   obtain⟨N,rfl⟩:=Apl (show 0≤n by omega)
   have e:=Ahf (step:=Eb) (fun i=>(met,(N:Int),(i:Int),())) N (fun i=>decide ((i:Int)∉seen)) (fun _=>.inl (false,())) (.inr (.inl ())) (by omega)
    (fun i hi=>by
     have:=p3 (i:Int) (by omega)
     rw[Eb,AL,ApX hi]
     simp only[this,Ag]
     by_cases h:(i:Int)∈seen
     ·simp only[h,AqI,not_true]
      rw[AP (by omega)];simp
     ·simp[h])
    (by rw[Eb,AL,ApW (by omega)])
   rw[A3]at e
   have hv:∀ v,v∈seen↔(v<(N:Int)∧v∈rings.flatten):=fun v=>by rw[p4];simp
   rcases e with⟨k,k1,k2,_,k4⟩|⟨k1,k4⟩
   ·have k4':Aj Eb many (met,(N:Int),(0:Int),())=_:=k4
    rw[k4',ApW]
    rintro⟨_,_,h⟩
    simp only[Apb]at k2
    exact k2 ((hv _).2 ⟨by omega,h (k:Int) (by omega) (by omega)⟩)
   ·have k4':Aj Eb many (met,(N:Int),(0:Int),())=_:=k4
    rw[k4',ApX]
    refine⟨⟨s1,s2⟩,p1,fun v v1 v2 => ?_⟩
    obtain⟨k,rfl⟩:=Apl v1
    have:=k1 k (by omega)
    simp only[Aqa,Arw]at this
    exact((hv _).1 this).2
  ·have p2':Aj Dc many (n,rings,[], -1,rings,(rings.length:Int),(0:Int),())=_:=p2
   simp only[p2']
   rw[ApW (fun h=>p1 h.2.1)]
 ·rw[ApW hS,ApW (fun h=>hS h.1)];rfl
end Go.Pev.Pl
end
section
namespace Go.Pev.Pl
open Tok
theorem AWw{xs:List Int}(hr:Rt xs)(h:xs≠[]):plain xs=xs↔IL xs=xs.headD 0:=by
 obtain⟨a,b,h1,h2⟩:=MX hr h
 constructor
 ·intro e
  rw[e]at h2
  rw[h2]
  have:IL xs=IL xs:=rfl
  conv=>lhs;rw[← h2]
  rfl
 ·intro e
  cases a with
  |nil=>rw[h2,Aqn];exact h1.symm
  |cons y a=>
   exfalso
   have hn:=hr.2.2
   have hy:y=IL xs:=by rw[e,h1];rfl
   rw[h1,Ap2,Ap9]at hn
   exact hn.1 (by rw[← hy];simp)
theorem SO{n:Int}{l:List Int}(h:RG n l):In n (l.headD 0):=by
 obtain⟨h1,h2,h3,h4⟩:=h
 cases l with
 |nil=>exact absurd rfl h2
 |cons x l=>exact Ab0 h4 h3
theorem Amc{n:Int}(hn:1≤n):∀ {ls:List (List Int)} {seen:List Int} {last:Int},okR n seen last ls→-1≤last→last<n→(ls.length:Int)≤n-1-last:=by
 intro ls
 induction ls with
 |nil=>intro seen last _ _ h;simp;omega
 |cons l ls ih=>
  intro seen last ⟨h1,h2,h3,h4⟩ hl hl2
  have hh:=(SO h1).2.2
  have:=ih h4 (by omega) hh.2
  simp only[Api]
  omega
end Go.Pev.Pl
end
section
namespace Go.Pev.Pl
open Tok
def hd(l:List Int):Int:=l.headD 0
def Dis(n:Int)(a b:List Int):Prop:=∀ t∈a,t<n→t∉b
structure FR(n:Int)(rings:List (List Int)):Prop where
 sz:Sz n
 rg:∀ l∈rings,RG n l
 up:rings.Pairwise (fun a b=>hd a<hd b)
 dis:rings.Pairwise (Dis n)
 cov:∀ v,In n v→∃ l∈rings,v∈l
theorem Dis.symm{n:Int}{a b:List Int}(h:Dis n a b):Dis n b a:=fun t ht hn ha=>h t ha hn ht
theorem AbB{n:Int}:∀ {ls:List (List Int)} {seen:List Int} {last:Int},okR n seen last ls↔(∀ l∈ls,RG n l∧last<hd l∧∀ t∈l,t<n→t∉seen)∧ls.Pairwise (fun a b=>hd a<hd b)∧ls.Pairwise (Dis n):=by
 intro ls
 induction ls with
 |nil=>intro seen last;simp[okR]
 |cons l ls ih=>
  intro seen last
  rw[okR,ih,Aqk,Aqk]
  constructor
  ·rintro⟨h1,h2,h3,h4,h5,h6⟩
   refine⟨fun k hk => ?_,⟨fun k hk=>(h4 k hk).2.1,h5⟩,⟨fun k hk t ht htn htk => ?_,h6⟩⟩
   ·rcases Ape.1 hk with rfl|hk
    ·exact⟨h1,h2,h3⟩
    ·obtain⟨q1,q2,q3⟩:=h4 k hk
     exact⟨q1,Int.lt_trans h2 q2,fun t ht htn hts=>q3 t ht htn (by simp[hts])⟩
   ·exact(h4 k hk).2.2 t htk htn (by simp[ht,htn])
  ·rintro⟨h1,⟨h2,h3⟩,⟨h4,h5⟩⟩
   obtain⟨q1,q2,q3⟩:=h1 l (by simp)
   refine⟨q1,q2,q3,fun k hk => ?_,h3,h5⟩
   obtain⟨p1,p2,p3⟩:=h1 k (by simp[hk])
   refine⟨p1,h2 k hk,fun t ht htn hts => ?_⟩
   simp only[Apc,AqB]at hts
   rcases hts with h|h
   ·exact p3 t ht htn h
   ·exact h4 k hk t h.1 htn ht
theorem AOw{n:Int}{rings:List (List Int)}:RF n rings↔FR n rings:=by
 constructor
 ·rintro⟨h1,h2,h3⟩
  obtain⟨q1,q2,q3⟩:=AbB.1 h2
  refine⟨h1,fun l hl=>(q1 l hl).1,q2,q3,fun v hv => ?_⟩
  obtain⟨l,hl,h⟩:=List.mem_flatten.1 (h3 v hv.2.2.1 hv.2.2.2)
  exact⟨l,hl,h⟩
 ·rintro⟨h1,h2,h3,h4,h5⟩
  refine⟨h1,AbB.2 ⟨fun l hl=>⟨h2 l hl,?_,by simp⟩,h3,h4⟩,fun v v1 v2 => ?_⟩
  ·have:=(SO (h2 l hl)).2.2.1
   show(-1:Int)<l.headD 0
   omega
  ·obtain⟨l,hl,h⟩:=h5 v ⟨h1.1,h1.2,v1,v2⟩
   exact List.mem_flatten.2 ⟨l,hl,h⟩
theorem AQC{ys zs:List (List Int)}(hz:zs.Pairwise (fun a b=>hd a<hd b))(hp:ys.Perm zs)(hy:ys.Pairwise (fun a b=>¬ hd b<hd a)):ys=zs:=by
 have hinj:∀ a∈zs,∀ b∈zs,hd a=hd b→a=b:=by
  intro a ha b hb e
  refine Aqx fun hne => ?_
  obtain⟨i,hi,rfl⟩:=ArI ha
  obtain⟨j,hj,rfl⟩:=ArI hb
  rw[ArK]at hz
  rcases Asm i j with h|h|h
  ·have:=hz i j hi hj h;omega
  ·subst h;exact hne rfl
  ·have:=hz j i hj hi h;omega
 refine Asf (le:=fun a b=>¬ hd b<hd a) ?_ hy ?_ hp
 ·intro a b ha hb h1 h2
  exact hinj a (hp.mem_iff.1 ha) b hb (by omega)
 ·exact hz.imp fun h=>by omega
def plc(rings:List (List Int))(v:Int):Int:=if rings.any (fun l=>decide (v∈l))then((rings.findIdx (fun l=>decide (v∈l)):Nat):Int)else -1
theorem AAZ(n:Int)(rings:List (List Int))(v:Int)(hlen:rings.length<1073741824)(hr:∀ l∈rings,l.length<9223372036854775808):TL ((n,(rings,())),v,())=some (plc rings v,()):=by
 rw[AH9,Ql,Ic,Dl]
 have e:=Io (step:=Be) (fun i=>(v,rings,AM rings,(i:Int),())) rings (fun l=>decide (v∈l)) (fun i=>.inl (v,(i:Int),())) (.inr (.inl (v,()))) (by omega)
  (fun i l hi hx=>by
   have hl:=hr l (Apm hx)
   rw[Be,AS,AL,ApX hi]
   simp only[AW hx,JG l v (by omega)]
   rw[AP (by omega)]
   by_cases h:v∈l
   ·rw[ApX h];rfl
   ·rw[ApW h];rfl)
  (by rw[Be,AS,AL,ApW (by omega)])
 have e':AU Be many (v,rings,AM rings,(0:Int),())=_:=e
 simp only[e',plc]
 cases rings.any (fun l=>decide (v∈l))<;>rfl
theorem ACL{rings:List (List Int)}{v:Int}(h:∃ l∈rings,v∈l):∃ k l,plc rings v=((k:Nat):Int)∧rings[k]? = some l∧v∈l∧k<rings.length:=by
 obtain⟨l,hl,hv⟩:=h
 have hany:rings.any (fun l=>decide (v∈l))=true:=Arp.2 ⟨l,hl,by simpa using hv⟩
 have hk:rings.findIdx (fun l=>decide (v∈l))<rings.length:=AsF.2 ⟨l,hl,by simpa using hv⟩
 refine⟨_,rings[rings.findIdx (fun l=>decide (v∈l))],by rw[plc,Apk hany],by rw[ApZ hk],?_,hk⟩
 have:=List.findIdx_getElem (xs:=rings) (p:=fun l=>decide (v∈l)) (w:=hk)
 simpa using this
theorem FR.uniq{n:Int}{rings:List (List Int)}(h:FR n rings){i j:Nat}{a b:List Int}{v:Int}(hi:rings[i]? = some a)(hj:rings[j]? = some b)(hn:v<n)(ha:v∈a)(hb:v∈b):i=j:=by
 obtain⟨hi1,rfl⟩:=Apn.1 hi
 obtain⟨hj1,rfl⟩:=Apn.1 hj
 have hd:=ArK.1 h.dis
 rcases Asm i j with g|g|g
 ·exact absurd hb (hd i j hi1 hj1 g v ha hn)
 ·exact g
 ·exact absurd ha (hd j i hj1 hi1 g v hb hn)
theorem FR.AiU{n:Int}{rings:List (List Int)}(h:FR n rings){k:Nat}{a:List Int}{v:Int}(hk:rings[k]? = some a)(hn:v<n)(ha:v∈a):plc rings v=(k:Int):=by
 obtain⟨j,l,e,hj,hv,_⟩:=ACL ⟨a,Apm hk,ha⟩
 rw[e,h.uniq hj hk hn hv ha]
theorem AEL{α:Type}{l:List α}{i:Nat}{a:α}(h:l[i]? = some a):l.Perm (a::l.eraseIdx i):=by
 obtain⟨hi,rfl⟩:=Apn.1 h
 rw[List.eraseIdx_eq_take_drop_succ]
 conv=>lhs;rw[← Aqh i l,AqL hi]
 exact List.perm_middle
theorem YF{α:Type}{l:List α}{i j:Nat}{a b:α}(hij:i<j)(hi:l[i]? = some a)(hj:l[j]? = some b):l.Perm (a::b::(l.eraseIdx j).eraseIdx i):=by
 have h1:=AEL hj
 have h2:(l.eraseIdx j)[i]? = some a:=by rw[List.getElem?_eraseIdx_of_lt hij,hi]
 exact h1.trans (((AEL h2).cons b).trans (List.Perm.swap a b _))
theorem AeA{n:Int}{t:Tok}(h:okT n t):0≤F5 n t∧F5 n t≤4160∧F5 n t<n*(n+1):=by
 cases t with
 |ver v=>
  obtain⟨h1,h2,h3,h4⟩:=h
  have:n*1≤n*(n+1):=Int.mul_le_mul_of_nonneg_left (by omega) (by omega)
  simp only[F5];omega
 |arc u v=>
  obtain⟨h1,h2,_⟩:=h
  obtain⟨g1,g2,_⟩:=Zm h1 h2
  have hb:=Kg (u:=n+1-1) h1.1 h1.2.1 (by have:=h1.1;omega) (by have:=h1.2.1;omega)
  have e:n*(n+1)=n*(n+1-1)+n:=by rw[show n+1-1=n by omega,Int.mul_add,Int.mul_one]
  have:=h1.1
  have:=h1.2.1
  simp only[F5]
  omega
theorem Aoc{n:Int}{t:Tok}(h:okT n t):Sz n:=by
 cases t with
 |ver v=>exact⟨h.1,h.2.1⟩
 |arc u v=>exact⟨h.1.1,h.1.2.1⟩
theorem PC:∀ {L:List Tok},L.Nodup→(MC L).Nodup
 |[],_=>by simp[MC]
 |.ver v::L,h=>by
  rw[Ap9]at h
  rw[MC,Ap9]
  exact⟨fun hm=>h.1 (RL.1 hm),PC h.2⟩
 |.arc _ _::L,h=>by
  rw[Ap9]at h
  rw[MC]
  exact PC h.2
theorem An8{n:Int}{xs:List Int}(h:TI n xs):Rt xs:=by
 obtain⟨L,rfl,h2,h3⟩:=h
 have hn:=h3.nodup
 refine⟨?_,fun x hx => ?_,?_⟩
 ·obtain⟨v,r,hr⟩:=h3.AT2
  have hS:Sz n:=Aoc (h2 (.ver v) ((hr.mem _).2 (by simp)))
  have hl:=h3.len
  have hv:=GS (a:=MC L) (b:=(List.range n.toNat).map (fun(k:Nat)=>(k:Int))) (PC hn) fun x hx=>by
   have:=h2 _ (RL.1 hx)
   have h5:=this.2.2
   rw[Apx]
   exact⟨x.toNat,by rw[AqC];omega,by omega⟩
  have h6:=hS.2
  simp only[Ap1,AqA]at hv ⊢
  omega
 ·obtain⟨t,ht,rfl⟩:=Apx.1 hx
  have:=AeA (h2 t ht)
  omega
 ·rw[List.Nodup,ArW]
  exact hn.imp_of_mem fun ha hb hne e=>hne (Ro (h2 _ ha) (h2 _ hb) e)
def AO0(a b:List Int):Prop:=∃ x y,a=x++y∧b=y++x
theorem AO0.perm{a b:List Int}(h:AO0 a b):a.Perm b:=by
 obtain⟨x,y,rfl,rfl⟩:=h
 exact Ari
theorem AO0.symm{a b:List Int}(h:AO0 a b):AO0 b a:=by obtain⟨x,y,h1,h2⟩:=h;exact⟨y,x,h2,h1⟩
theorem AlN{n:Int}{a b:List Int}(h:TI n a)(r:AO0 a b):TI n b:=by
 obtain⟨L,h1,h2,h3⟩:=h
 obtain⟨x,y,rfl,rfl⟩:=r
 obtain⟨L1,L2,rfl,e1,e2⟩:=List.map_eq_append_iff.1 h1.symm
 refine⟨L2++L1,by rw[AqZ,e1,e2],fun t ht=>h2 t ?_,T.rot L1 L2 h3⟩
 simp only[Apc]at ht ⊢
 exact ht.symm
theorem DP{xs:List Int}{t:Int}(h:t∈xs):AO0 xs (B0 xs t):=by
 obtain⟨a,b,e1,_,e3⟩:=ABo h
 exact⟨a,t::b,e1,by rw[e3]⟩
theorem AeJ{xs ys:List Int}(h:xs.Perm ys)(hne:xs≠[]):IL ys=IL xs:=by
 obtain⟨h1,h2⟩:=Ff hne
 exact Ame (h.mem_iff.1 h1) fun x hx=>h2 x (h.mem_iff.2 hx)
theorem AWx{xs:List Int}(hr:Rt xs)(hne:xs≠[]):AO0 xs (plain xs):=by
 rw[plain,Apk ⟨hr,hne⟩]
 exact DP (Ff hne).1
theorem An7{n:Int}{xs:List Int}(h:TI n xs):xs≠[]:=by rintro rfl;exact Ao3 n h
theorem AUx{n:Int}{xs:List Int}(h:TI n xs):RG n (plain xs)∧AO0 xs (plain xs):=by
 have hr:=An8 h
 have hne:=An7 h
 have h1:=AWx hr hne
 have h2:=AlN h h1
 refine⟨⟨An8 h2,An7 h2,?_,h2⟩,h1⟩
 rw[AeJ h1.perm hne]
 obtain⟨a,b,_,e⟩:=MX hr hne
 rw[e];rfl
theorem RG.self{n:Int}{xs:List Int}(h:RG n xs):plain xs=xs:=(AWw h.1 h.2.1).2 h.2.2.1
theorem AUv{n:Int}{xs:List Int}(h:TI n xs){t:Tok}(ht:okT n t)(hx:F5 n t∈xs):∃ a,B0 xs (F5 n t)=(t::a).map (F5 n)∧T (t::a)∧(∀ y∈t::a,okT n y):=by
 have h1:=AlN h (DP hx)
 obtain⟨a,b,e1,e2,e3⟩:=ABo hx
 obtain⟨L,q1,q2,q3⟩:=h1
 rw[e3,Ap2]at q1
 cases L with
 |nil=>cases q1
 |cons t' L=>
  simp only[AqE,Apz]at q1
  have:=Ro ht (q2 t' (by simp)) q1.1
  subst this
  exact⟨L,by rw[e3,Ap2,AqE,q1.2],q3,q2⟩
end Go.Pev.Pl
end
section
namespace Go.Pev.Pl
open Go.RowKit Tok
theorem ASr(a:Int):ieq a a=true:=by rw[CN];simp
def Dom(rings:List (List Int)):Prop:=rings.length<1073741824∧∀ l∈rings,l.length<9223372036854775808∧∀ x∈l, -9223372036854775808≤x∧x≤9223372036854775807
theorem FR.dom{n:Int}{rings:List (List Int)}(h:FR n rings):Dom rings:=by
 have h1:=AOw.2 h
 have h2:=Amc h.sz.1 h1.2.1 (by omega) (by have:=h.sz.1;omega)
 have h3:=h.sz.2
 refine⟨by omega,fun l hl => ?_⟩
 have:=(h.rg l hl).1
 exact⟨by have:=this.1;omega,fun x hx=>by have:=this.2.1 x hx;omega⟩
theorem ANH{l:List Int}(h:l≠[]):hd l∈l:=by
 cases l with
 |nil=>exact absurd rfl h
 |cons x l=>simp[hd]
end Go.Pev.Pl
end
section
namespace Go.Pev.Pl
open Tok
noncomputable def Ao0(n:Int)(rings:List (List Int))(ok:Bool):Int:=if RF n rings then if ok then 0 else 10 else 1
theorem AZd(n:Int)(rings:List (List Int))(xs:List Int)(hs:xs.length<9223372036854775808):C3 (xs,n,rings,())=some (n,rings,xs.any (fun x=>decide (x<0)||decide (n≤x)),()):=by
 rw[Hv,DG,Ih,Dm]
 have e:=Io (step:=Bf) (fun i=>(n,rings,xs,AM xs,(i:Int),())) xs (fun x=>decide (x<0)||decide (n≤x)) (fun i=>.inl (n,rings,(i:Int),())) (.inr (.inl (n,rings,()))) hs
  (fun i x hi hx=>by
   rw[Bf,AS,AL,ApX hi]
   simp only[AW hx,Ae,An]
   rw[AP (by omega)]
   by_cases h:x<0
   ·simp[h]
   ·by_cases h2:n≤x
    ·simp[h,h2]
    ·simp[h,h2])
  (by rw[Bf,AS,AL,ApW (by omega)])
 have e':AU Bf many (n,rings,xs,AM xs,(0:Int),())=_:=e
 rw[e']
 generalize (xs.any fun x=>decide (x<0)||decide (n≤x))=b
 cases b<;>simp[An]
theorem Ao5{n v:Int}(hS:Sz n):(decide (v<0)||decide (n≤v)) = !decide (In n v):=by
 by_cases h:In n v
 ·obtain⟨_,_,h3,h4⟩:=h
  simp[In,hS.1,hS.2,h3,h4]
 ·have:v<0∨n≤v:=by
   refine Aqx fun hc=>h ⟨hS.1,hS.2,by omega,by omega⟩
  rcases this with g|g<;>simp[h,g]
theorem AYo(n:Int)(rings:List (List Int))(xs:List Int)(hD:Dom rings)(hs:xs.length<9223372036854775808):Vq ((n,(rings,())),xs,())=some (Ao0 n rings (xs.all fun v=>decide (In n v)),()):=by
 rw[AJI,Rg]
 simp only[AAU n rings hD.1 hD.2,AZd n rings xs hs,Ao0]
 by_cases h:RF n rings
 ·have hb:(xs.any fun x=>decide (x<0)||decide (n≤x)) = !(xs.all fun v=>decide (In n v)):=by
   rw[List.not_all_eq_any_not]
   congr 1
   funext x
   exact Ao5 h.1
  simp only[h,Apu,Aph,hb,AqI]
  cases xs.all fun v=>decide (In n v)<;>rfl
 ·simp[h]
end Go.Pev.Pl
end
section
namespace Go.Pev.Pl.SG
open Go.Sort
structure SP(α:Type)where
 z:α
 c:α×α×Unit→Option (Int×Unit)
 ok:α→Prop
 okz:α
 UR:ok okz
 lt:α→α→Bool
 swo:SWO lt
 Wd:∀ {x y:α},ok x→ok y→∃ r,c (x,y,())=some (r,())∧ilt r (0:Int)=lt x y
variable {α:Type} {S:SP α}
abbrev EL{α:Type}(S:SP α):={x:α // S.ok x}
instance:Inhabited (EL S):=⟨⟨S.okz,S.UR⟩⟩
def rep(d:Array (EL S)):List α:=d.toList.map Subtype.val
theorem A4{d:Array (EL S)}{n:Nat}(h:n<d.size):idx (rep d) (n:Int)=some (d[n]!).val:=by
 rw[idx_eq,OR,Apg (by omega)]
 simp[rep,h]
theorem BZ{d:Array (EL S)}{n:Nat}{z:α}(h:n<d.size):AY (rep d) (AN (n:Int)) z=(d[n]!).val:=by
 simp[AY,AN,rep,h]
theorem Iq{d:Array (EL S)}{n:Nat}{x:(EL S)}:Az (rep d) (AN (n:Int)) x.val=rep (d.setIfInBounds n x):=by
 simp[Az,AN,rep,List.map_set]
theorem Abr{d:Array (EL S)}:AM (rep d)=(d.size:Int):=by simp[AM,rep]
def ltX(x y:(EL S)):Bool:=S.lt x.val y.val
theorem AhM:SWO (ltX (S:=S)):=⟨fun x=>S.swo.irrefl x.val,fun x y z=>S.swo.trans x.val y.val z.val,fun x y z=>S.swo.ntrans x.val y.val z.val⟩
noncomputable def AnY(x y:(EL S)):Int:=match S.c (x.val,y.val,())with
 |some (c,_)=>c
 |none=>0
theorem CW(x y:(EL S)):S.c (x.val,y.val,())=some (AnY x y,()):=by
 obtain⟨c,e,_⟩:=S.Wd x.property y.property
 rw[AnY,e]
theorem DE(x y:(EL S)):ilt (AnY x y) (0:Int)=ltX x y:=by
 obtain⟨c,e,h⟩:=S.Wd x.property y.property
 rw[AnY,e]
 exact h
theorem Amt(a b i:Nat):∀ (j:Nat) (d:Array (EL S)) (n:Nat),j<d.size→d.size<4611686018427387904→j<n →
  Aj (Ny S.z S.c) n ((rep d),(a:Int),(b:Int),(i:Int),(j:Int),())=some (.inl ((rep (insInner ltX a j d)),(a:Int),(b:Int),(i:Int),())):=by
 intro j
 induction j with
 |zero=>
  intro d n hj hs hn
  obtain⟨n,rfl⟩:∃ k,n=k+1:=⟨n-1,by omega⟩
  have h0:ilt (a:Int) ((0:Nat):Int)=false:=by rw[AL];simp
  simp only[Aj,Ny,h0,insInner]
 |succ j ih=>
  intro d n hj hs hn
  obtain⟨n,rfl⟩:∃ k,n=k+1:=⟨n-1,by omega⟩
  have e1:IntKind.wrap .i64 (((j+1:Nat):Int)-1)=(j:Int):=by rw[Ah (by omega)];omega
  have hj':j<d.size:=by omega
  simp only[Aj,Ny,AL,e1,A4 hj,A4 hj',BZ hj,BZ hj',CW,DE,insInner,gt_iff_lt]
  by_cases h1:a<j+1
  ·cases h2:ltX d[j+1]! d[j]!
   ·simp only[h1,Apu,h2,Bool.and_false,Apo,Apr]
   ·simp only[h1,Apu,h2,Bool.and_true,AqI,Iq]
    rw[A4 (by simpa using hj')]
    simp only[JZ]
    exact ih (swp d (j+1) j) n (by rw[size_swp];omega) (by rw[size_swp];omega) (by omega)
  ·simp only[h1,AqJ,Bool.false_and,Apo,Apr]
theorem GN(lt:(EL S)→(EL S)→Bool)(a j:Nat)(d:Array (EL S)):(insInner lt a j d).size=d.size:=by
 induction j generalizing d with
 |zero=>rfl
 |succ j ih=>
  rw[insInner]
  split
  ·rw[ih,size_swp]
  ·rfl
theorem Ajj(a b:Nat):∀ (k i:Nat) (d:Array (EL S)) (n:Nat),b-i=k→b≤d.size→d.size<4611686018427387904→d.size<many→k<n →
  Aj (Nz S.z S.c) n ((rep d),(a:Int),(b:Int),(i:Int),())=some (.inl ((rep (insOuter ltX a b i d)),())):=by
 intro k
 induction k with
 |zero=>
  intro i d n hk hb hs hm hn
  obtain⟨n,rfl⟩:∃ k,n=k+1:=⟨n-1,by omega⟩
  have h0:¬ i<b:=by omega
  rw[insOuter]
  simp only[Aj,Nz,AL,h0,AqJ,Apr]
 |succ k ih=>
  intro i d n hk hb hs hm hn
  obtain⟨n,rfl⟩:∃ k,n=k+1:=⟨n-1,by omega⟩
  have h0:i<b:=by omega
  have e1:IntKind.wrap .i64 ((i:Int)+1)=((i+1:Nat):Int):=by rw[Ah (by omega)];omega
  rw[insOuter]
  simp only[Aj,Nz,AL,h0,Apu,AqI,A3]
  rw[Amt a b i i d many (by omega) hs (by omega)]
  simp only[e1]
  exact ih (i+1) _ n (by omega) (by rw[GN];omega) (by rw[GN];omega) (by rw[GN];omega) (by omega)
theorem Aji(d:Array (EL S))(a b:Nat)(hab:a≤b)(hb:b≤d.size)(hs:d.size<4294967296):(Ajk S.z S.c) ((rep d),(a:Int),(b:Int),())=some ((rep (insertionSort ltX d a b)),()):=by
 have hm:d.size<many:=by simp only[many];omega
 have e1:IntKind.wrap .i64 ((a:Int)+1)=((a+1:Nat):Int):=by rw[Ah (by omega)];omega
 rw[Amu,ADp]
 simp only[e1,A3]
 rw[Ajj a b (b-(a+1)) (a+1) d many rfl hb (by omega) hm (by omega)]
 rfl
end Go.Pev.Pl.SG
end
end
section
section
namespace Go.Pev.Pl.SG
open Go.Sort
variable {α:Type} {S:SP α}
theorem AV2(hi first:Nat):∀ (k root:Nat) (d:Array (EL S)) (n:Nat),hi-root=k→root≤hi→first+hi≤d.size→d.size<4294967296→(hi=0∨root<hi)→k<n →
  Aj (Jd S.z S.c) n ((rep d),(hi:Int),(first:Int),(root:Int),())=some (.inl ((rep (siftDown ltX hi first root d)),())) ∨
  Aj (Jd S.z S.c) n ((rep d),(hi:Int),(first:Int),(root:Int),())=some (.inr (.inl ((rep (siftDown ltX hi first root d)),()))):=by
 intro k
 induction k using Nat.strongRecOn with
 |_ k ih=>
 intro root d n hk hr hf hs hz hn
 obtain⟨n,rfl⟩:∃ k,n=k+1:=⟨n-1,by omega⟩
 rw[siftDown]
 simp (disch:=omega) only[Aj,Jd,AcG,AP,wrap_add,DF,AL]
 by_cases h1:hi≤2*root+1
 ·simp only[h1,Apu,ge_iff_le,dite_true,true_or]
 ·have i0:first+root<d.size:=by omega
  have i1:first+(2*root+1)<d.size:=by omega
  simp only[h1,AqJ,ge_iff_le,Apr,dite_false]
  simp (disch:=omega) only[A4,BZ,CW,DE]
  by_cases h2:2*root+1+1<hi
  ·have i2:first+(2*root+2)<d.size:=by omega
   have i3:2*root+1+1=2*root+2:=by omega
   have i4:first+(2*root+1)+1=first+(2*root+2):=by omega
   have h3:2*root+2<hi:=by omega
   simp only[i3,i4,h3,Apu]
   simp (disch:=omega) only[A4,BZ,CW,DE,Iq]
   cases h4:ltX d[first+(2*root+1)]! d[first+(2*root+2)]!
   ·simp only[Bool.and_false,Apo,Apr]
    cases h5:ltX d[first+root]! d[first+(2*root+1)]!
    ·simp
    ·simp only[Aph,Apo,Apr]
     rw[A4 (by simpa using i1)]
     simp only[JZ]
     exact ih (hi-(2*root+1)) (by omega) (2*root+1) _ n rfl (by omega) (by rw[size_swp];omega) (by rw[size_swp];omega) (by omega) (by omega)
   ·simp only[Bool.and_true,AqI]
    cases h5:ltX d[first+root]! d[first+(2*root+2)]!
    ·simp
    ·simp only[Aph,Apo,Apr,dite_true]
     rw[A4 (by simpa using i2)]
     simp only[JZ]
     exact ih (hi-(2*root+2)) (by omega) (2*root+2) _ n rfl (by omega) (by rw[size_swp];omega) (by rw[size_swp];omega) (by omega) (by omega)
  ·simp only[h2,AqJ,Bool.false_and,Apo,Apr,Iq]
   cases h5:ltX d[first+root]! d[first+(2*root+1)]!
   ·simp
   ·simp only[Aph,Apo,Apr]
    rw[A4 (by simpa using i1)]
    simp only[JZ]
    exact ih (hi-(2*root+1)) (by omega) (2*root+1) _ n rfl (by omega) (by rw[size_swp];omega) (by rw[size_swp];omega) (by omega) (by omega)
theorem AIK(d:Array (EL S))(root hi first:Nat)(hf:first+hi≤d.size)(hs:d.size<4294967296)(hz:hi=0∧root=0∨root<hi):(AIL S.z S.c) ((rep d),(root:Int),(hi:Int),(first:Int),())=some ((rep (siftDown ltX hi first root d)),()):=by
 have hm:d.size<many:=by simp only[many];omega
 rw[Aha,Qu]
 simp only[A3]
 rcases AV2 hi first (hi-root) root d many rfl (by omega) hf hs (by omega) (by omega)with h|h<;>rw[h]
theorem Cb(lt:(EL S)→(EL S)→Bool)(hi first:Nat):∀ (k root:Nat) (d:Array (EL S)),hi-root=k→(siftDown lt hi first root d).size=d.size:=by
 intro k
 induction k using Nat.strongRecOn with
 |_ k ih=>
 intro root d hk
 rw[siftDown]
 split
 ·rfl
 ·split
  ·split
   ·rfl
   ·split
    ·rw[ih (hi-(2*root+2)) (by omega) _ _ rfl,size_swp]
    ·rfl
  ·split
   ·rfl
   ·rw[ih (hi-(2*root+1)) (by omega) _ _ rfl,size_swp]
theorem AS1(hi first:Nat):∀ (k:Nat) (d:Array (EL S)) (n:Nat),(hi=0∧k≤1∨k≤hi)→first+hi≤d.size→d.size<4294967296→k<n →
  Aj (Jw S.z S.c) n ((rep d),(first:Int),(0:Int),(hi:Int),(k:Int)-1,())=some (.inl ((rep (heapBuild ltX hi first k d)),(first:Int),(0:Int),(hi:Int),())):=by
 intro k
 induction k with
 |zero=>
  intro d n hk hf hs hn
  obtain⟨n,rfl⟩:∃ k,n=k+1:=⟨n-1,by omega⟩
  rw[Aj,Jw,An,ApW (by omega)]
  rfl
 |succ k ih=>
  intro d n hk hf hs hn
  obtain⟨n,rfl⟩:∃ k,n=k+1:=⟨n-1,by omega⟩
  have e0:((k+1:Nat):Int)-1=(k:Int):=by omega
  rw[Aj,Jw,e0,An,ApX (by omega)]
  simp only[AIK d k hi first hf hs (by omega)]
  rw[Ah (by omega)]
  exact ih _ n (by omega) (by rw[Cb _ _ _ _ _ _ rfl];omega) (by rw[Cb _ _ _ _ _ _ rfl];omega) (by omega)
theorem HY(lt:(EL S)→(EL S)→Bool)(hi first:Nat):∀ (k:Nat) (d:Array (EL S)),(heapBuild lt hi first k d).size=d.size:=by
 intro k
 induction k with
 |zero=>intro d;rfl
 |succ k ih=>intro d;rw[heapBuild,ih,Cb _ _ _ _ _ _ rfl]
theorem Aey(first:Nat):∀ (k:Nat) (d:Array (EL S)) (n:Nat),first+k≤d.size→d.size<4294967296→k<n →
  Aj (Jv S.z S.c) n ((rep d),(first:Int),(0:Int),(k:Int)-1,())=some (.inl ((rep (heapPop ltX first k d)),())):=by
 intro k
 induction k with
 |zero=>
  intro d n hf hs hn
  obtain⟨n,rfl⟩:∃ k,n=k+1:=⟨n-1,by omega⟩
  rw[Aj,Jv,An,ApW (by omega)]
  rfl
 |succ k ih=>
  intro d n hf hs hn
  obtain⟨n,rfl⟩:∃ k,n=k+1:=⟨n-1,by omega⟩
  have e0:((k+1:Nat):Int)-1=(k:Int):=by omega
  have i0:first<d.size:=by omega
  have i1:first+k<d.size:=by omega
  rw[Aj,Jv,e0,An,ApX (by omega)]
  simp (disch:=omega) only[wrap_add,A4,BZ,Iq]
  rw[A4 (by simpa using i1)]
  simp only[JZ]
  have:=AIK (swp d first (first+k)) 0 k first (by rw[size_swp];omega) (by rw[size_swp];omega) (by omega)
  simp only[Int.natCast_zero]at this
  simp only[this]
  rw[Ah (by omega)]
  exact ih _ n (by rw[Cb _ _ _ _ _ _ rfl,size_swp];omega) (by rw[Cb _ _ _ _ _ _ rfl,size_swp];omega) (by omega)
theorem Aex(d:Array (EL S))(a b:Nat)(hab:a<b)(hb:b≤d.size)(hs:d.size<4294967296):(AS2 S.z S.c) ((rep d),(a:Int),(b:Int),())=some ((rep (heapSort ltX d a b)),()):=by
 have hm:4294967296<many:=by simp only[many];omega
 rw[Ajx,Rc]
 simp (disch:=omega) only[DJ,BA,An2,A3]
 have e:(((b-a-1)/2:Nat):Int)=(((b-a-1)/2+1:Nat):Int)-1:=by omega
 rw[e,AS1 (b-a) a _ d many (by omega) (by omega) hs (by omega)]
 have e2:(((b-a-1:Nat)):Int)=((b-a:Nat):Int)-1:=by omega
 simp (disch:=omega) only[BA,e2]
 rw[Aey a (b-a) _ many (by rw[HY];omega) (by rw[HY];omega) (by omega)]
 rfl
end Go.Pev.Pl.SG
end
section
namespace Go.Pev.Pl.SG
open Go.Sort
variable {α:Type} {S:SP α}
theorem AdY:∀ (k i j:Nat) (d:Array (EL S)) (n:Nat),j-i=k→(j<d.size)→d.size<4294967296→k<n →
  Aj (Q6 S.z S.c) n ((rep d),(i:Int),(j:Int),())=some (.inl ((rep (reverseLoop i j d)),())):=by
 intro k
 induction k using Nat.strongRecOn with
 |_ k ih=>
 intro i j d n hk hj hs hn
 obtain⟨n,rfl⟩:∃ k,n=k+1:=⟨n-1,by omega⟩
 rw[reverseLoop,Aj,Q6]
 simp only[AL]
 by_cases h:i<j
 ·have hi:i<d.size:=by omega
  simp only[h,Apu,AqI,A4 hj,A4 hi,BZ hi,BZ hj,Iq]
  rw[A4 (by simpa using hj)]
  simp (disch:=omega) only[JZ,AP,BA]
  exact ih (j-1-(i+1)) (by omega) (i+1) (j-1) _ n rfl (by rw[size_swp];omega) (by rw[size_swp];omega) (by omega)
 ·simp only[h,AqJ,Apr]
theorem Ah1(d:Array (EL S))(a b:Nat)(hab:a<b)(hb:b≤d.size)(hs:d.size<4294967296):(Ah2 S.z S.c) ((rep d),(a:Int),(b:Int),())=some ((rep (reverseRange d a b)),()):=by
 have hm:4294967296<many:=by simp only[many];omega
 rw[AmC,ABy]
 simp (disch:=omega) only[BA,A3]
 rw[AdY (b-1-a) a (b-1) d many rfl (by omega) hs (by omega)]
 rfl
theorem Du{d:Array (EL S)}{i j:Nat}(hi:i<d.size)(hj:j<d.size):idx (Az (rep d) (AN (i:Int)) (AY (rep d) (AN (j:Int)) S.z)) (j:Int)=some ((d.setIfInBounds i d[j]!)[j]!).val ∧
  Az (Az (rep d) (AN (i:Int)) (AY (rep d) (AN (j:Int)) S.z)) (AN (j:Int)) (AY (rep d) (AN (i:Int)) S.z)=(rep (swp d i j)):=by
 rw[BZ hi,BZ hj,Iq,Iq]
 exact⟨A4 (by simpa using hj),rfl⟩
theorem ALZ(step:List α×Int×Int×Int×Unit→Option ((List α×Int×Int×Int×Unit)⊕(List α×Int×Int×Int×Unit)⊕Unit))(p:(EL S)→Bool)(d:Array (EL S))(a j:Nat)(hs:d.size<4294967296)(hj:j<d.size)
  (h:∀ i:Nat,i≤d.size→step ((rep d),(a:Int),(i:Int),(j:Int),())=if i≤j∧p d[i]! then some (.inl ((rep d),(a:Int),((i+1:Nat):Int),(j:Int),()))else some (.inr (.inl ((rep d),(a:Int),(i:Int),(j:Int),())))) :
  ∀ (k i n:Nat),j+1-i=k→i≤d.size→k<n→Aj step n ((rep d),(a:Int),(i:Int),(j:Int),())=some (.inl ((rep d),(a:Int),((scanUp p d j i:Nat):Int),(j:Int),())):=by
 intro k
 induction k using Nat.strongRecOn with
 |_ k ih=>
 intro i n hk hi hn
 obtain⟨n,rfl⟩:∃ k,n=k+1:=⟨n-1,by omega⟩
 rw[scanUp,Aj,h i hi]
 by_cases h1:i≤j∧p d[i]! = true
 ·rw[Apk h1,Apk (by simpa using h1)]
  exact ih (j+1-(i+1)) (by omega) (i+1) n rfl (by omega) (by omega)
 ·rw[Apg h1,Apg (by simpa using h1)]
theorem Tl(step:List α×Int×Int×Int×Unit→Option ((List α×Int×Int×Int×Unit)⊕(List α×Int×Int×Int×Unit)⊕Unit))(p:(EL S)→Bool)(d:Array (EL S))(a i:Nat)(hi:1≤i)
  (h:∀ j:Nat,j<d.size→step ((rep d),(a:Int),(i:Int),(j:Int),())=if i≤j∧p d[j]! then some (.inl ((rep d),(a:Int),(i:Int),((j-1:Nat):Int),()))else some (.inr (.inl ((rep d),(a:Int),(i:Int),(j:Int),())))) :
  ∀ (j n:Nat),j<d.size→j<n→Aj step n ((rep d),(a:Int),(i:Int),(j:Int),())=some (.inl ((rep d),(a:Int),(i:Int),((scanDown p d i j:Nat):Int),())):=by
 intro j
 induction j with
 |zero=>
  intro n hj hn
  obtain⟨n,rfl⟩:∃ k,n=k+1:=⟨n-1,by omega⟩
  rw[Aj,h 0 hj,Apg (by omega)]
  rfl
 |succ j ih=>
  intro n hj hn
  obtain⟨n,rfl⟩:∃ k,n=k+1:=⟨n-1,by omega⟩
  rw[scanDown,Aj,h (j+1) hj]
  by_cases h1:i≤j+1∧p d[j+1]! = true
  ·rw[Apk h1,Apk (by simpa using h1)]
   exact ih n (by omega) (by omega)
  ·rw[Apg h1,Apg (by simpa using h1)]
section
variable (d:Array (EL S)) (a i j:Nat) (hs:d.size<4294967296) (ha:a<d.size) (hj:j<d.size)
include hs ha hj
theorem AR5(hi:i≤d.size):(Me S.z S.c) ((rep d),(a:Int),(i:Int),(j:Int),())=if i≤j∧(fun x=>ltX x d[a]!) d[i]! = true then some (.inl ((rep d),(a:Int),((i+1:Nat):Int),(j:Int),()))else some (.inr (.inl ((rep d),(a:Int),(i:Int),(j:Int),()))):=by
 rw[Me]
 simp only[DF]
 by_cases h:i≤j
 ·have hi':i<d.size:=by omega
  simp (disch:=omega) only[h,Apu,A4,BZ,CW,DE,AP,AsH]
  cases ltX d[i]! d[a]!<;>simp
 ·simp only[h,AqJ,AsQ,Apr]
theorem AR3(hi:i≤d.size):(Mb S.z S.c) ((rep d),(a:Int),(i:Int),(j:Int),())=if i≤j∧(fun x=>ltX x d[a]!) d[i]! = true then some (.inl ((rep d),(a:Int),((i+1:Nat):Int),(j:Int),()))else some (.inr (.inl ((rep d),(a:Int),(i:Int),(j:Int),()))):=by
 rw[Mb]
 simp only[DF]
 by_cases h:i≤j
 ·have hi':i<d.size:=by omega
  simp (disch:=omega) only[h,Apu,A4,BZ,CW,DE,AP,AsH]
  cases ltX d[i]! d[a]!<;>simp
 ·simp only[h,AqJ,AsQ,Apr]
theorem AR4(hi:1≤i):(Md S.z S.c) ((rep d),(a:Int),(i:Int),(j:Int),())=if i≤j∧(fun x => !ltX x d[a]!) d[j]! = true then some (.inl ((rep d),(a:Int),(i:Int),((j-1:Nat):Int),()))else some (.inr (.inl ((rep d),(a:Int),(i:Int),(j:Int),()))):=by
 rw[Md]
 simp only[DF]
 by_cases h:i≤j
 ·simp (disch:=omega) only[h,Apu,A4,BZ,CW,DE,BA,AsH]
  cases ltX d[j]! d[a]!<;>simp
 ·simp only[h,AqJ,AsQ,Apr]
theorem AR2(hi:1≤i):(Ma S.z S.c) ((rep d),(a:Int),(i:Int),(j:Int),())=if i≤j∧(fun x => !ltX x d[a]!) d[j]! = true then some (.inl ((rep d),(a:Int),(i:Int),((j-1:Nat):Int),()))else some (.inr (.inl ((rep d),(a:Int),(i:Int),(j:Int),()))):=by
 rw[Ma]
 simp only[DF]
 by_cases h:i≤j
 ·simp (disch:=omega) only[h,Apu,A4,BZ,CW,DE,BA,AsH]
  cases ltX d[j]! d[a]!<;>simp
 ·simp only[h,AqJ,AsQ,Apr]
theorem AG9(hi:i≤d.size):(Hh S.z S.c) ((rep d),(a:Int),(i:Int),(j:Int),())=if i≤j∧(fun x => !ltX d[a]! x) d[i]! = true then some (.inl ((rep d),(a:Int),((i+1:Nat):Int),(j:Int),()))else some (.inr (.inl ((rep d),(a:Int),(i:Int),(j:Int),()))):=by
 rw[Hh]
 simp only[DF]
 by_cases h:i≤j
 ·have hi':i<d.size:=by omega
  simp (disch:=omega) only[h,Apu,A4,BZ,CW,DE,AP,AsH]
  cases ltX d[a]! d[i]!<;>simp
 ·simp only[h,AqJ,AsQ,Apr]
theorem AG8(hi:1≤i):(Hg S.z S.c) ((rep d),(a:Int),(i:Int),(j:Int),())=if i≤j∧(fun x=>ltX d[a]! x) d[j]! = true then some (.inl ((rep d),(a:Int),(i:Int),((j-1:Nat):Int),()))else some (.inr (.inl ((rep d),(a:Int),(i:Int),(j:Int),()))):=by
 rw[Hg]
 simp only[DF]
 by_cases h:i≤j
 ·simp (disch:=omega) only[h,Apu,A4,BZ,CW,DE,BA,AsH]
  cases ltX d[a]! d[j]!<;>simp
 ·simp only[h,AqJ,AsQ,Apr]
end
theorem IU(p:(EL S)→Bool)(d:Array (EL S))(j i:Nat)(hj:j<d.size)(hi:i≤d.size):scanUp p d j i≤d.size:=by
 suffices h:∀ (k i:Nat),j+1-i=k→i≤d.size→scanUp p d j i≤d.size from h _ i rfl hi
 intro k
 induction k using Nat.strongRecOn with
 |_ k ih=>
 intro i hk hi
 rw[scanUp]
 split
 ·rename_i h
  have:i≤j:=by simp at h;exact h.1
  exact ih (j+1-(i+1)) (by omega) (i+1) rfl (by omega)
 ·exact hi
theorem AXJ(a:Nat):∀ (k i j:Nat) (d:Array (EL S)) (n:Nat),j+1-i=k→a<d.size→1≤i→i≤d.size→j<d.size→d.size<4294967296→k<n →
  Aj (Mc S.z S.c) n ((rep d),(a:Int),(i:Int),(j:Int),())=some (.inl ((rep (partLoop ltX a i j d).2),(a:Int),(((partLoop ltX a i j d).1:Nat):Int),()))∧(partLoop ltX a i j d).1≤j∧(partLoop ltX a i j d).2.size=d.size:=by
 intro k
 induction k using Nat.strongRecOn with
 |_ k ih=>
 intro i j d n hk ha hi hi' hj hs hn
 have hm:4294967296<many:=by simp only[many];omega
 obtain⟨n,rfl⟩:∃ k,n=k+1:=⟨n-1,by omega⟩
 rw[partLoop_eq,Aj,Mc]
 have u1:=scanUp_ge (fun x=>ltX x d[a]!) d j i
 have u2:=IU (fun x=>ltX x d[a]!) d j i hj hi'
 rw[A3,ALZ _ (fun x=>ltX x d[a]!) d a j hs hj (fun i h=>AR3 d a i j hs ha hj h) _ i many rfl hi' (by omega)]
 generalize scanUp (fun x=>ltX x d[a]!) d j i=i2 at *
 have v1:=scanDown_le (fun x => !ltX x d[a]!) d i2 j
 simp only[A3]
 rw[Tl _ (fun x => !ltX x d[a]!) d a i2 (by omega) (fun j h=>AR2 d a i2 j hs ha h (by omega)) j many hj (by omega)]
 generalize scanDown (fun x => !ltX x d[a]!) d i2 j=j2 at *
 simp only[AL]
 by_cases h:j2<i2
 ·simp only[h,Apu,gt_iff_lt,AqI]
  exact⟨trivial,v1,trivial⟩
 ·have hi2:i2<d.size:=by omega
  have hj2:j2<d.size:=by omega
  simp only[h,AqJ,gt_iff_lt,Apr,A4 hi2,A4 hj2,(Du hi2 hj2).1,(Du hi2 hj2).2]
  simp (disch:=omega) only[AP,BA]
  obtain⟨q1,q2,q3⟩:=ih (j2-1+1-(i2+1)) (by omega) (i2+1) (j2-1) (swp d i2 j2) n rfl (by rw[size_swp];omega) (by omega) (by rw[size_swp];omega) (by rw[size_swp];omega) (by rw[size_swp];omega) (by omega)
  exact⟨q1,by omega,by rw[q3,size_swp]⟩
theorem Ady(d:Array (EL S))(a b p:Nat)(ha:a≤p)(hp:p<b)(hb:b≤d.size)(hs:d.size<4294967296):
  (ACt S.z S.c) ((rep d),(a:Int),(b:Int),(p:Int),())=some ((rep (partition ltX d a b p).2.2),(((partition ltX d a b p).1:Nat):Int),(partition ltX d a b p).2.1,()):=by
 have hm:4294967296<many:=by simp only[many];omega
 have ha':a<d.size:=by omega
 have hp':p<d.size:=by omega
 rw[Ais,RH,partition]
 simp only[A4 ha',A4 hp',(Du ha' hp').1,(Du ha' hp').2]
 have hs':=hs
 rw[← size_swp d a p]at ha' hs' hb
 generalize swp d a p=d at *
 simp (disch:=omega) only[AP,BA,A3]
 have u1:=scanUp_ge (fun x=>ltX x d[a]!) d (b-1) (a+1)
 have u2:=IU (fun x=>ltX x d[a]!) d (b-1) (a+1) (by omega) (by omega)
 rw[ALZ _ (fun x=>ltX x d[a]!) d a (b-1) hs' (by omega) (fun i h=>AR5 d a i (b-1) hs' ha' (by omega) h) _ (a+1) many rfl (by omega) (by omega)]
 generalize scanUp (fun x=>ltX x d[a]!) d (b-1) (a+1)=i2 at *
 have v1:=scanDown_le (fun x => !ltX x d[a]!) d i2 (b-1)
 simp only[]
 rw[Tl _ (fun x => !ltX x d[a]!) d a i2 (by omega) (fun j h=>AR4 d a i2 j hs' ha' h (by omega)) (b-1) many (by omega) (by omega)]
 generalize scanDown (fun x => !ltX x d[a]!) d i2 (b-1)=j2 at *
 simp only[AL]
 have hj2:j2<d.size:=by omega
 by_cases h:j2<i2
 ·simp only[h,Apu,gt_iff_lt,AqI,A4 ha',A4 hj2,(Du hj2 ha').1,(Du hj2 ha').2]
 ·have hi2:i2<d.size:=by omega
  simp only[h,AqJ,gt_iff_lt,Apr,A4 hi2,A4 hj2,(Du hi2 hj2).1,(Du hi2 hj2).2]
  simp (disch:=omega) only[AP,BA]
  obtain⟨q1,q2,q3⟩:=AXJ a (j2-1+1-(i2+1)) (i2+1) (j2-1) (swp d i2 j2) many rfl (by rw[size_swp];omega) (by omega) (by rw[size_swp];omega) (by rw[size_swp];omega) (by rw[size_swp];omega) (by omega)
  simp only[q1]
  rw[size_swp]at q3
  generalize partLoop ltX a (i2+1) (j2-1) (swp d i2 j2)=r at *
  have h1:r.1<r.2.size:=by omega
  have h2:a<r.2.size:=by omega
  simp only[A4 h1,A4 h2,(Du h1 h2).1,(Du h1 h2).2]
theorem AMM(a:Nat):∀ (k i j:Nat) (d:Array (EL S)) (n:Nat),j+1-i=k→a<d.size→1≤i→i≤d.size→j<d.size→d.size<4294967296→k<n →
  Aj (Hi S.z S.c) n ((rep d),(a:Int),(i:Int),(j:Int),())=some (.inl ((rep (partEqLoop ltX a i j d).2),(((partEqLoop ltX a i j d).1:Nat):Int),())):=by
 intro k
 induction k using Nat.strongRecOn with
 |_ k ih=>
 intro i j d n hk ha hi hi' hj hs hn
 have hm:4294967296<many:=by simp only[many];omega
 obtain⟨n,rfl⟩:∃ k,n=k+1:=⟨n-1,by omega⟩
 rw[partEqLoop_eq,Aj,Hi]
 have u1:=scanUp_ge (fun x => !ltX d[a]! x) d j i
 have u2:=IU (fun x => !ltX d[a]! x) d j i hj hi'
 rw[A3,ALZ _ (fun x => !ltX d[a]! x) d a j hs hj (fun i h=>AG9 d a i j hs ha hj h) _ i many rfl hi' (by omega)]
 generalize scanUp (fun x => !ltX d[a]! x) d j i=i2 at *
 have v1:=scanDown_le (fun x=>ltX d[a]! x) d i2 j
 simp only[A3]
 rw[Tl _ (fun x=>ltX d[a]! x) d a i2 (by omega) (fun j h=>AG8 d a i2 j hs ha h (by omega)) j many hj (by omega)]
 generalize scanDown (fun x=>ltX d[a]! x) d i2 j=j2 at *
 simp only[AL]
 by_cases h:j2<i2
 ·simp only[h,Apu,gt_iff_lt,AqI]
 ·have hi2:i2<d.size:=by omega
  have hj2:j2<d.size:=by omega
  simp only[h,AqJ,gt_iff_lt,Apr,A4 hi2,A4 hj2,(Du hi2 hj2).1,(Du hi2 hj2).2]
  simp (disch:=omega) only[AP,BA]
  exact ih (j2-1+1-(i2+1)) (by omega) (i2+1) (j2-1) (swp d i2 j2) n rfl (by rw[size_swp];omega) (by omega) (by rw[size_swp];omega) (by rw[size_swp];omega) (by rw[size_swp];omega) (by omega)
theorem AR7(d:Array (EL S))(a b p:Nat)(ha:a≤p)(hp:p<b)(hb:b≤d.size)(hs:d.size<4294967296):
  (RI S.z S.c) ((rep d),(a:Int),(b:Int),(p:Int),())=some ((rep (partitionEqual ltX d a b p).2),(((partitionEqual ltX d a b p).1:Nat):Int),()):=by
 have hm:4294967296<many:=by simp only[many];omega
 have ha':a<d.size:=by omega
 have hp':p<d.size:=by omega
 rw[AXR,Jl,partitionEqual]
 simp only[A4 ha',A4 hp',(Du ha' hp').1,(Du ha' hp').2]
 have hs':=hs
 rw[← size_swp d a p]at ha' hs' hb
 generalize swp d a p=d at *
 simp (disch:=omega) only[AP,BA,A3]
 rw[AMM a _ (a+1) (b-1) d many rfl ha' (by omega) (by omega) (by omega) hs' (by omega)]
end Go.Pev.Pl.SG
end
section
namespace Go.Pev.Pl.SG
open Go.Sort
variable {α:Type} {S:SP α}
theorem IV(d:Array (EL S))(b:Nat):∀ (k i:Nat),b-i=k→i≤b→i≤scanSorted ltX d b i∧scanSorted ltX d b i≤b:=by
 intro k
 induction k using Nat.strongRecOn with
 |_ k ih=>
 intro i hk hi
 rw[scanSorted]
 split
 ·rename_i h
  have:i<b:=by simp at h;exact h.1
  have:=ih (b-(i+1)) (by omega) (i+1) rfl (by omega)
  omega
 ·omega
theorem AG1(d:Array (EL S))(a b s:Nat)(hb:b≤d.size)(hs:d.size<4294967296):∀ (k i n:Nat),b-i=k→1≤i→i≤b→k<n →
  Aj (Gc S.z S.c) n ((rep d),(a:Int),(b:Int),(i:Int),(s:Int),())=some (.inl ((rep d),(a:Int),(b:Int),((scanSorted ltX d b i:Nat):Int),(s:Int),())):=by
 intro k
 induction k using Nat.strongRecOn with
 |_ k ih=>
 intro i n hk h1 hi hn
 obtain⟨n,rfl⟩:∃ k,n=k+1:=⟨n-1,by omega⟩
 rw[scanSorted,Aj,Gc]
 simp only[AL]
 by_cases h:i<b
 ·have i0:i<d.size:=by omega
  have i1:i-1<d.size:=by omega
  simp (disch:=omega) only[h,Apu,BA,AP,A4,BZ,CW,DE,Bool.true_and]
  cases h2:ltX d[i]! d[i-1]!
  ·simp only[Ap8,AqI]
   exact ih (b-(i+1)) (by omega) (i+1) n rfl (by omega) (by omega) (by omega)
  ·simp only[Aph,Apo,Apr]
 ·simp only[h,AqJ,Bool.false_and,Apo,Apr]
theorem AG3(a b i s:Nat):∀ (j:Nat) (d:Array (EL S)) (n:Nat),j<d.size→d.size<4294967296→j<n →
  Aj (Eg S.z S.c) n ((rep d),(a:Int),(b:Int),(i:Int),(s:Int),(j:Int),())=some (.inl ((rep (shiftDown ltX j d)),(a:Int),(b:Int),(i:Int),(s:Int),())):=by
 intro j
 induction j with
 |zero=>
  intro d n hj hs hn
  obtain⟨n,rfl⟩:∃ k,n=k+1:=⟨n-1,by omega⟩
  rw[Aj,Eg,An,ApW (by omega)]
  rfl
 |succ j ih=>
  intro d n hj hs hn
  obtain⟨n,rfl⟩:∃ k,n=k+1:=⟨n-1,by omega⟩
  have hj':j<d.size:=by omega
  rw[shiftDown,Aj,Eg,An,ApX (by omega)]
  simp (disch:=omega) only[BA,Nat.add_sub_cancel,A4,BZ,CW,DE]
  cases h2:ltX d[j+1]! d[j]!
  ·simp only[Ap8,AqI]
  ·have e1:=Du hj hj'
   simp only[BZ hj,BZ hj']at e1
   simp only[Aph,Apo,Apr,e1]
   exact ih _ n (by rw[size_swp];omega) (by rw[size_swp];omega) (by omega)
theorem Xr(a b i s:Nat):∀ (k j:Nat) (d:Array (EL S)) (n:Nat),b-j=k→1≤j→b≤d.size→d.size<4294967296→k<n →
  Aj (Ef S.z S.c) n ((rep d),(a:Int),(b:Int),(i:Int),(s:Int),(j:Int),())=some (.inl ((rep (shiftUp ltX b j d)),(a:Int),(b:Int),(i:Int),(s:Int),())):=by
 intro k
 induction k using Nat.strongRecOn with
 |_ k ih=>
 intro j d n hk h1 hb hs hn
 obtain⟨n,rfl⟩:∃ k,n=k+1:=⟨n-1,by omega⟩
 rw[shiftUp,Aj,Ef]
 simp only[AL]
 by_cases h:j<b
 ·have i0:j<d.size:=by omega
  have i1:j-1<d.size:=by omega
  simp (disch:=omega) only[h,Apu,AqI,BA,AP,A4,BZ,CW,DE]
  cases h2:ltX d[j]! d[j-1]!
  ·simp only[Ap8,AqI]
  ·have e1:=Du i0 i1
   simp only[BZ i0,BZ i1]at e1
   simp only[Aph,Apo,Apr,e1]
   exact ih (b-(j+1)) (by omega) (j+1) _ n rfl (by omega) (by rw[size_swp];omega) (by rw[size_swp];omega) (by omega)
 ·simp only[h,AqJ,Apr]
theorem MO:∀ (j:Nat) (d:Array (EL S)),(shiftDown ltX j d).size=d.size:=by
 intro j
 induction j with
 |zero=>intro d;rfl
 |succ j ih=>
  intro d
  rw[shiftDown]
  split
  ·rfl
  ·rw[ih,size_swp]
theorem Ew(b:Nat):∀ (k j:Nat) (d:Array (EL S)),b-j=k→(shiftUp ltX b j d).size=d.size:=by
 intro k
 induction k using Nat.strongRecOn with
 |_ k ih=>
 intro j d hk
 rw[shiftUp]
 split
 ·split
  ·rfl
  ·rw[ih (b-(j+1)) (by omega) (j+1) _ rfl,size_swp]
 ·rfl
theorem AG2(a b:Nat)(hab:a<b):∀ (k i s:Nat) (d:Array (EL S)) (n:Nat),s+k=5→a+1≤i→i≤b→b≤d.size→d.size<4294967296→k<n →
  Aj (CU S.z S.c) n ((rep d),(a:Int),(b:Int),(i:Int),(s:Int),())=some (.inl ((rep (partialIns ltX a b k i d).1),(partialIns ltX a b k i d).2,())) ∨
  ((partialIns ltX a b k i d).2=false∧Aj (CU S.z S.c) n ((rep d),(a:Int),(b:Int),(i:Int),(s:Int),())=some (.inr (.inl ((rep (partialIns ltX a b k i d).1),())))):=by
 intro k
 induction k with
 |zero=>
  intro i s d n hk h1 hi hb hs hn
  obtain⟨n,rfl⟩:∃ k,n=k+1:=⟨n-1,by omega⟩
  rw[Aj,CU,Ae,ApW (by omega)]
  exact .inr ⟨rfl,rfl⟩
 |succ k ih=>
  intro i s d n hk h1 hi hb hs hn
  have hm:4294967296<many:=by simp only[many];omega
  have es:IntKind.wrap .i64 ((s:Int)+1)=((s+1:Nat):Int):=AP (by omega)
  obtain⟨n,rfl⟩:∃ k,n=k+1:=⟨n-1,by omega⟩
  rw[Aj,CU,Ae,ApX (by omega),partialIns]
  simp only[A3,AG1 d a b s hb hs (b-i) i many rfl (by omega) hi (by omega)]
  have hsc:=IV d b _ i rfl hi
  generalize scanSorted ltX d b i=i2 at *
  simp only[AM5]
  by_cases h2:i2=b
  ·simp only[h2,Apu,AqI,true_or]
  ·simp (disch:=omega) only[h2,AqJ,Apr,DJ,Ae,An]
   by_cases h3:b-a<50
   ·rw[Apk h3,ApX (by omega)]
    exact .inl rfl
   ·have i0:i2<d.size:=by omega
    have i1:i2-1<d.size:=by omega
    rw[Apg h3,ApW (by omega)]
    simp (disch:=omega) only[BA,AP,A4 i0,A4 i1,(Du i0 i1).1,(Du i0 i1).2]
    have hsz:=size_swp d i2 (i2-1)
    generalize swp d i2 (i2-1)=d2 at *
    by_cases h4:i2-a≥2
    ·rw[Apk h4,ApX (show(2:Int)≤((i2-a:Nat):Int) by omega)]
     simp only[AG3 a b i2 s (i2-1) d2 many (by omega) (by omega) (by omega)]
     have hsz2:=MO (i2-1) d2
     generalize shiftDown ltX (i2-1) d2=d3 at *
     simp (disch:=omega) only[DJ,AP]
     by_cases h5:b-i2≥2
     ·rw[Apk h5,ApX (show(2:Int)≤((b-i2:Nat):Int) by omega)]
      simp only[Xr a b i2 s _ (i2+1) d3 many rfl (by omega) (by omega) (by omega) (by omega)]
      simp only[es]
      exact ih i2 (s+1) (shiftUp ltX b (i2+1) d3) n (by omega) (by omega) (by omega) (by rw[Ew b (b-(i2+1)) (i2+1) _ rfl];omega) (by rw[Ew b (b-(i2+1)) (i2+1) _ rfl];omega) (by omega)
     ·rw[Apg h5,ApW (show ¬ (2:Int)≤((b-i2:Nat):Int) by omega)]
      simp only[es]
      exact ih i2 (s+1) d3 n (by omega) (by omega) (by omega) (by omega) (by omega) (by omega)
    ·rw[Apg h4,ApW (show ¬ (2:Int)≤((i2-a:Nat):Int) by omega)]
     by_cases h5:b-i2≥2
     ·rw[Apk h5,ApX (show(2:Int)≤((b-i2:Nat):Int) by omega)]
      simp only[Xr a b i2 s _ (i2+1) d2 many rfl (by omega) (by omega) (by omega) (by omega)]
      simp only[es]
      exact ih i2 (s+1) (shiftUp ltX b (i2+1) d2) n (by omega) (by omega) (by omega) (by rw[Ew b (b-(i2+1)) (i2+1) _ rfl];omega) (by rw[Ew b (b-(i2+1)) (i2+1) _ rfl];omega) (by omega)
     ·rw[Apg h5,ApW (show ¬ (2:Int)≤((b-i2:Nat):Int) by omega)]
      simp only[es]
      exact ih i2 (s+1) d2 n (by omega) (by omega) (by omega) (by omega) (by omega) (by omega)
theorem AMI(d:Array (EL S))(a b:Nat)(hab:a<b)(hb:b≤d.size)(hs:d.size<4294967296):
  (MZ S.z S.c) ((rep d),(a:Int),(b:Int),())=some ((rep (partialInsertionSort ltX d a b).1),(partialInsertionSort ltX d a b).2,()):=by
 have hm:4294967296<many:=by simp only[many];omega
 rw[ARs,Hf,partialInsertionSort]
 simp (disch:=omega) only[AP,A3]
 have h:=AG2 a b hab 5 (a+1) 0 d many rfl (Apj _) (by omega) hb hs (by omega)
 rcases h with h|⟨h0,h⟩
 ·have h':Aj (CU S.z S.c) many ((rep d),(a:Int),(b:Int),((a+1:Nat):Int),(0:Int),())=_:=h
  rw[h']
 ·have h':Aj (CU S.z S.c) many ((rep d),(a:Int),(b:Int),((a+1:Nat):Int),(0:Int),())=_:=h
  rw[h',h0]
theorem Mf(d:Array (EL S))(a b:Nat)(s:Int)(ha:a<d.size)(hb:b<d.size):
  ∃ s' p q,(Ka S.z S.c) ((rep d),(a:Int),(b:Int),s,())=some ((rep d),s',((p:Nat):Int),((q:Nat):Int),())∧(p=a∧q=b∨p=b∧q=a):=by
 rw[AXb,Jm]
 simp only[A4 ha,A4 hb,BZ ha,BZ hb,CW,DE]
 cases ltX d[b]! d[a]!
 ·exact⟨_,a,b,rfl,.inl ⟨rfl,rfl⟩⟩
 ·exact⟨_,b,a,rfl,.inr ⟨rfl,rfl⟩⟩
theorem Mi(d:Array (EL S))(a b c:Nat)(s:Int)(ha:a<d.size)(hb:b<d.size)(hc:c<d.size):
  ∃ s' p,(Ki S.z S.c) ((rep d),(a:Int),(b:Int),(c:Int),s,())=some ((rep d),s',((p:Nat):Int),())∧(p=a∨p=b∨p=c):=by
 rw[AXx,Jp]
 obtain⟨s1,p1,q1,e1,h1⟩:=Mf d a b s ha hb
 simp only[e1]
 obtain⟨s2,p2,q2,e2,h2⟩:=Mf d q1 c s1 (by omega) hc
 simp only[e2]
 obtain⟨s3,p3,q3,e3,h3⟩:=Mf d p1 p2 s2 (by omega) (by omega)
 simp only[e3]
 exact⟨_,q3,rfl,by omega⟩
theorem Mj(d:Array (EL S))(a:Nat)(s:Int)(h1:1≤a)(ha:a+1<d.size)(hs:d.size<4294967296):
  ∃ s' p,(Kj S.z S.c) ((rep d),(a:Int),s,())=some ((rep d),s',((p:Nat):Int),())∧a≤p+1∧p≤a+1:=by
 rw[AX0,Jq]
 simp (disch:=omega) only[BA,AP]
 obtain⟨s1,p1,e1,h1⟩:=Mi d (a-1) a (a+1) s (by omega) (by omega) ha
 simp only[e1]
 exact⟨_,p1,rfl,by omega⟩
theorem AW3(d:Array (EL S))(a b:Nat)(hab:a+8≤b)(hb:b≤d.size)(hs:d.size<4294967296):
  ∃ p h,(ACU S.z S.c) ((rep d),(a:Int),(b:Int),())=some ((rep d),((p:Nat):Int),h,())∧a≤p∧p<b:=by
 rw[Adn,MY]
 simp (disch:=omega) only[DJ,Aav,AcF,Nc,AcE,wrap_add,An]
 rw[ApX (show(8:Int)≤((b-a:Nat):Int) by omega)]
 simp only[]
 by_cases h:50≤b-a
 ·rw[ApX (show(50:Int)≤((b-a:Nat):Int) by omega)]
  simp only[]
  obtain⟨s1,p1,e1,h1⟩:=Mj d (a+(b-a)/4*1) 0 (by omega) (by omega) hs
  simp only[e1]
  obtain⟨s2,p2,e2,h2⟩:=Mj d (a+(b-a)/4*2) s1 (by omega) (by omega) hs
  simp only[e2]
  obtain⟨s3,p3,e3,h3⟩:=Mj d (a+(b-a)/4*3) s2 (by omega) (by omega) hs
  simp only[e3]
  obtain⟨s4,p4,e4,h4⟩:=Mi d p1 p2 p3 s3 (by omega) (by omega) (by omega)
  simp only[e4]
  cases ieq s4 0
  ·cases ieq s4 12
   ·exact⟨p4,_,rfl,by omega,by omega⟩
   ·exact⟨p4,_,rfl,by omega,by omega⟩
  ·exact⟨p4,_,rfl,by omega,by omega⟩
 ·rw[ApW (show ¬ (50:Int)≤((b-a:Nat):Int) by omega)]
  simp only[]
  obtain⟨s4,p4,e4,h4⟩:=Mi d (a+(b-a)/4*1) (a+(b-a)/4*2) (a+(b-a)/4*3) 0 (by omega) (by omega) (by omega)
  simp only[e4]
  cases ieq s4 0
  ·cases ieq s4 12
   ·exact⟨p4,_,rfl,by omega,by omega⟩
   ·exact⟨p4,_,rfl,by omega,by omega⟩
  ·exact⟨p4,_,rfl,by omega,by omega⟩
end Go.Pev.Pl.SG
end
section
namespace Go.Pev.Pl
open Go.Sort
theorem Aef:(List.range 256).all (fun k=>match Gv[k]? with
  |some v=>decide (0≤v)&&(decide (v≤8)&&decide (2 ^ v.toNat≤max 1 (2*k)))
  |none=>false)=true:=by decide +kernel
theorem Aeg{k:Nat}(h:k<256):∃ v:Nat,idx Gv (k:Int)=some (v:Int)∧v≤8∧2 ^ v≤max 1 (2*k):=by
 have:=Ap3.1 Aef k (AqC.2 h)
 rw[idx_eq,OR,Apg (by omega),AqX]
 cases e:Gv[k]? with
 |none=>rw[e]at this;cases this
 |some v=>
  rw[e]at this
  simp only[Apf,Apb]at this
  exact⟨v.toNat,by rw[Int.toNat_of_nonneg this.1],by omega,this.2.2⟩
theorem ALV(n s:Nat)(h:s≤64):shr? .u64 (n:Int) (s:Int)=some ((n/2 ^ s:Nat):Int):=by
 rw[AA7,Yw,Apg (by omega),AqX,show min s (IntKind.bits .u64)=s from Aqy h,Int.fdiv_eq_ediv_of_nonneg _ (Int.pow_nonneg (by omega))]
 rfl
theorem u8_in{n:Int}(h:0≤n∧n≤255):IntKind.wrap .u8 n=n:=IntWalk.u8_in n h
theorem u64_in{n:Int}(h:0≤n∧n≤18446744073709551615):IntKind.wrap .u64 n=n:=IntWalk.u64_in n h
theorem Aeh(n:Nat)(hn:n<4294967296):∃ v:Nat,ASl ((n:Int),())=some ((v:Int),())∧v≤32∧2 ^ v≤max 1 (2*n):=by
 rw[ASk,Zg,An,ApW (by omega)]
 simp only[An]
 have key:∀ (s m:Nat),s≤24→m<256→m*2 ^ s≤n→(s=0∨1≤m)→∃ v:Nat,idx Gv (m:Int)=some (v:Int)∧v≤8∧2 ^ (s+v)≤max 1 (2*n):=by
  intro s m hs hm hle h1
  obtain⟨v,e,h8,hp⟩:=Aeg hm
  refine⟨v,e,h8,?_⟩
  rcases h1 with rfl|h1
  ·rw[Aqq];simp at hle;omega
  ·have h2:2 ^ v≤2*m:=by omega
   have h3:2 ^ (s+v)≤2*(m*2 ^ s):=by
    rw[Nat.pow_add,Nat.mul_comm (2 ^ s),← Nat.mul_assoc]
    exact AqO _ h2
   omega
 by_cases h1:65536≤n
 ·rw[ApX (show(65536:Int)≤(n:Int) by omega)]
  have e16:shr? .u64 (n:Int) 16=some ((n/65536:Nat):Int):=ALV n 16 (by omega)
  simp only[e16]
  by_cases h2:256≤n/65536
  ·rw[ApX (show(256:Int)≤((n/65536:Nat):Int) by omega)]
   have e8:shr? .u64 ((n/65536:Nat):Int) 8=some ((n/65536/256:Nat):Int):=ALV _ 8 (by omega)
   obtain⟨v,e,h8,hp⟩:=key 24 (n/65536/256) (by omega) (by omega) (by omega) (by omega)
   simp only[e8]
   rw[u8_in (by omega)]
   simp only[e]
   refine⟨24+v,?_,by omega,hp⟩
   rw[Ah (n:=0+16) (by omega),Ah (n:=(0:Int)+16+8) (by omega),Ah (n:=(v:Int)) (by omega),Ah (by omega)]
   congr 2
  ·rw[ApW (show ¬ (256:Int)≤((n/65536:Nat):Int) by omega)]
   obtain⟨v,e,h8,hp⟩:=key 16 (n/65536) (by omega) (by omega) (by omega) (by omega)
   simp only[]
   rw[u8_in (by omega)]
   simp only[e]
   refine⟨16+v,?_,by omega,hp⟩
   rw[Ah (n:=0+16) (by omega),Ah (n:=(v:Int)) (by omega),Ah (by omega)]
   congr 2
 ·rw[ApW (show ¬ (65536:Int)≤(n:Int) by omega)]
  by_cases h2:256≤n
  ·have e8:shr? .u64 (n:Int) 8=some ((n/256:Nat):Int):=ALV n 8 (by omega)
   obtain⟨v,e,h8,hp⟩:=key 8 (n/256) (by omega) (by omega) (by omega) (by omega)
   simp only[]
   rw[ApX (show(256:Int)≤(n:Int) by omega)]
   simp only[e8]
   rw[u8_in (by omega)]
   simp only[e]
   refine⟨8+v,?_,by omega,hp⟩
   rw[Ah (n:=0+8) (by omega),Ah (n:=(v:Int)) (by omega),Ah (by omega)]
   congr 2
  ·obtain⟨v,e,h8,hp⟩:=key 0 n (by omega) (by omega) (by omega) (by omega)
   simp only[]
   rw[ApW (show ¬ (256:Int)≤(n:Int) by omega)]
   simp only[]
   rw[u8_in (by omega)]
   simp only[e]
   refine⟨0+v,?_,by omega,hp⟩
   rw[Ah (n:=(v:Int)) (by omega),Ah (by omega)]
   congr 2
theorem YT(n:Nat)(hn:n<4294967296):∃ v:Nat,bitsLen ((n:Int),())=some ((v:Int),())∧v≤32∧2 ^ v≤max 1 (2*n):=by
 rw[AFl,OE]
 obtain⟨v,e,h⟩:=Aeh n hn
 simp only[e]
 exact⟨v,rfl,h⟩
theorem ASW(n:Nat)(h1:1≤n)(hn:n<4294967296):∃ m:Nat,RK ((n:Int),())=some ((m:Int),())∧1≤m∧m≤2*n:=by
 rw[ADM,Nv,u64_in (by omega)]
 obtain⟨v,e,h32,hp⟩:=YT n hn
 simp only[e]
 have e2:shl? .u64 (1:Int) (v:Int)=some ((2 ^ v:Nat):Int):=by
  rw[PL,Qv,Apg (by omega),AqX,show min v (IntKind.bits .u64)=v from Aqy (by show v≤64;omega),Int.one_mul]
  have:2 ^ v≤2 ^ 32:=AsT (by omega) h32
  have h1:1≤2 ^ v:=Nat.one_le_two_pow
  have e:((2:Int) ^ v)=((2 ^ v:Nat):Int):=by simp
  rw[e,u64_in (by constructor<;>omega)]
 simp only[e2]
 exact⟨2 ^ v,rfl,Nat.one_le_two_pow,by omega⟩
theorem APQ(r:Int):∃ r' y,xorNext (r,())=some (r',y,()):=by
 rw[Z6,Nb,PL,Qv,Apg (by omega)]
 simp only[]
 rw[AA7,Yw,Apg (by omega)]
 simp only[]
 rw[PL,Qv,Apg (by omega)]
 exact⟨_,_,rfl⟩
theorem Ai8(y:Int)(m:Nat)(h1:1≤m)(hm:m<18446744073709551616):∃ o:Nat,IntKind.wrap .u64 ((BitVec.ofInt (IntKind.bits .u64) y &&& BitVec.ofInt (IntKind.bits .u64) (IntKind.wrap .u64 ((m:Int)-1))).toNat)=(o:Int)∧o<m:=by
 rw[u64_in (n:=(m:Int)-1) (by omega),show(m:Int)-1=((m-1:Nat):Int) by omega,BitVec.toNat_and]
 have h2:(BitVec.ofInt (IntKind.bits .u64) ((m-1:Nat):Int)).toNat=m-1:=by
  rw[Ary,AsD]
  exact ArN (by show m-1<18446744073709551616;omega)
 rw[h2]
 have h3:(BitVec.ofInt (IntKind.bits .u64) y).toNat &&& (m-1)≤m-1:=Nat.and_le_right
 exact⟨_,u64_in (by omega),by omega⟩
end Go.Pev.Pl
end
section
namespace Go.Pev.Pl.SG
open Go.Sort
variable {α:Type} {S:SP α}
theorem AUY(a b:Nat)(m:Nat)(h8:a+8≤b)(hm1:1≤m)(hm:m≤2*(b-a)):∀ (k t:Nat) (d:Array (EL S)) (r:Int) (n:Nat),t+k=3→b≤d.size→d.size<4294967296→k<n →
  ∃ d':Array (EL S),Aj (GB S.z S.c) n ((rep d),(a:Int),((b-a:Nat):Int),r,(m:Int),((a+(b-a)/4*2-1+t:Nat):Int),())=some (.inl ((rep d'),()))∧PermIn a b d d':=by
 intro k
 induction k with
 |zero=>
  intro t d r n hk hb hs hn
  obtain⟨n,rfl⟩:∃ k,n=k+1:=⟨n-1,by omega⟩
  rw[Aj,GB]
  simp (disch:=omega) only[Aav,Nc,wrap_add,AP,DF]
  rw[ApW (by omega)]
  exact⟨d,rfl,permIn_refl d a b⟩
 |succ k ih=>
  intro t d r n hk hb hs hn
  obtain⟨n,rfl⟩:∃ k,n=k+1:=⟨n-1,by omega⟩
  rw[Aj,GB]
  simp (disch:=omega) only[Aav,Nc,wrap_add,AP,DF]
  rw[ApX (show a+(b-a)/4*2-1+t≤a+(b-a)/4*2+1 by omega)]
  obtain⟨r',y,e⟩:=APQ r
  obtain⟨o,e2,ho⟩:=Ai8 y m hm1 (by omega)
  simp only[e,e2]
  rw[Ah (n:=(o:Int)) (by omega)]
  simp only[DF]
  have i0:a+(b-a)/4*2-1+t<d.size:=by omega
  have fin:∀ q:Nat,a≤q→q<b→∃ d':Array (EL S),Aj (GB S.z S.c) n ((rep (swp d (a+(b-a)/4*2-1+t) q)),(a:Int),((b-a:Nat):Int),r',(m:Int),((a+(b-a)/4*2-1+t+1:Nat):Int),())=some (.inl ((rep d'),()))∧PermIn a b d d':=by
   intro q hq1 hq2
   obtain⟨d',e',hp⟩:=ih (t+1) (swp d (a+(b-a)/4*2-1+t) q) r' n (by omega) (by rw[size_swp];omega) (by rw[size_swp];omega) (by omega)
   exact⟨d',e',permIn_trans _ _ _ a b (swp_permIn d a b _ q (by omega) (by omega) hq1 hq2 hb) hp⟩
  by_cases h:b-a≤o
  ·have i1:a+(o-(b-a))<d.size:=by omega
   simp (disch:=omega) only[h,Apu,DJ,wrap_add,AP,A4 i0,A4 i1,(Du i0 i1).1,(Du i0 i1).2]
   exact fin _ (by omega) (by omega)
  ·have i1:a+o<d.size:=by omega
   simp (disch:=omega) only[h,AqJ,DJ,wrap_add,AP,A4 i0,A4 i1,(Du i0 i1).1,(Du i0 i1).2]
   exact fin _ (by omega) (by omega)
theorem AZ6(d:Array (EL S))(a b:Nat)(hab:a≤b)(hb:b≤d.size)(hs:d.size<4294967296):
  ∃ d':Array (EL S),(AFf S.z S.c) ((rep d),(a:Int),(b:Int),())=some ((rep d'),())∧PermIn a b d d':=by
 have hm:4294967296<many:=by simp only[many];omega
 rw[AgN,NF]
 simp (disch:=omega) only[DJ,An]
 by_cases h:8≤b-a
 ·rw[ApX (show(8:Int)≤((b-a:Nat):Int) by omega)]
  obtain⟨m,e,h1,h2⟩:=ASW (b-a) (by omega) (by omega)
  simp only[e]
  rw[u64_in (n:=((b-a:Nat):Int)) (by omega)]
  simp (disch:=omega) only[Aav,Nc,wrap_add,BA,A3]
  obtain⟨d',e2,hp⟩:=AUY a b m (by omega) h1 h2 3 0 d ((b-a:Nat):Int) many rfl hb hs (by omega)
  rw[Aqz]at e2
  simp only[e2]
  exact⟨d',rfl,hp⟩
 ·rw[ApW (show ¬ (8:Int)≤((b-a:Nat):Int) by omega)]
  exact⟨d,rfl,permIn_refl d a b⟩
end Go.Pev.Pl.SG
end
section
namespace Go.Pev.Pl.SG
open Go.Sort
variable {α:Type} {S:SP α}
abbrev AlP(α:Type):=List α×Int×Int×Int×Bool×Bool×Unit
abbrev Zy(α:Type):=AlP α⊕(List α×Unit)⊕Unit
def Ww(d:Array (EL S))(a b:Nat):Zy α→Prop
 |.inl (xs,x,y,l,_,_,_)=>∃ (e:Array (EL S)) (i j:Nat),xs=(rep e)∧x=(i:Int)∧y=(j:Int)∧0≤l∧l≤100∧i≤j∧j≤e.size∧e.size=d.size∧j-i<b-a∧Below ltX i j e ∧
   ∀ R,PermIn i j e R→SortedIn ltX i j R→PermIn a b d R∧SortedIn ltX a b R
 |.inr (.inl (xs,_))=>∃ R:Array (EL S),xs=(rep R)∧PermIn a b d R∧SortedIn ltX a b R
 |.inr (.inr _)=>False
def D7(self:(List α×Int×Int×Int×Unit)→Option ((List α×Unit)))(m:Nat):Prop:=
 ∀ (d:Array (EL S)) (a b:Nat) (l:Int),a≤b→b≤d.size→d.size<4294967296→0≤l→l≤100→Below ltX a b d→2*(b-a)<m →
  ∃ R:Array (EL S),self ((rep d),(a:Int),(b:Int),l,())=some ((rep R),())∧PermIn a b d R∧SortedIn ltX a b R
section
variable {self:(List α×Int×Int×Int×Unit)→Option ((List α×Unit))} {d:Array (EL S)} {a b:Nat} {l:Int}
theorem ARN(hself:D7 (S:=S) self (b-a))(hb:b≤d.size)(hs:d.size<4294967296)(hl:0≤l∧l≤100)
  {d3:Array (EL S)} {p:Nat} (P3:PermIn a b d d3) (B3:Below ltX a b d3) (hp1:a≤p) (hp2:p<b) :
  ∃ o,(match(ACt S.z S.c) ((rep d3),(a:Int),(b:Int),(p:Int),())with
  |none=>none
  |some (y20,y21,y22,_)=>match quo? .i64 (IntKind.wrap .i64 ((b:Int)-(a:Int))) (8:Int)with
   |none=>none
   |some x23=>match(ilt (IntKind.wrap .i64 (y21-(a:Int))) (IntKind.wrap .i64 ((b:Int)-y21)))with
    |true=>match self (y20,(a:Int),y21,l,())with
     |none=>none
     |some (y24,_)=>some ((.inl (y24,(IntKind.wrap .i64 (y21+(1:Int))),(b:Int),l,(ile x23 (IntKind.wrap .i64 (y21-(a:Int)))),y22,())):Zy α)
    |false=>match self (y20,(IntKind.wrap .i64 (y21+(1:Int))),(b:Int),l,())with
     |none=>none
     |some (y25,_)=>some (.inl (y25,(a:Int),y21,l,(ile x23 (IntKind.wrap .i64 ((b:Int)-y21))),y22,())))=some o∧Ww d a b o:=by
 have b3:b≤d3.size:=by rw[P3.1];exact hb
 have s3:d3.size<4294967296:=by rw[P3.1];exact hs
 rw[Ady d3 a b p hp1 hp2 b3 s3]
 rcases hx:partition ltX d3 a b p with⟨mid,ap,d4⟩
 obtain⟨g1,g2,hs4,hBa,hBr,hleft,hright⟩:=round_part AhM (partition_holds _) hp1 hp2 b3 B3 hx
 simp (disch:=omega) only[DJ,AP,ApB,AL]
 have b4:b≤d4.size:=by omega
 by_cases h:mid-a<b-mid
 ·obtain⟨L,e,l1,l2⟩:=hself d4 a mid l g1 (by omega) (by omega) hl.1 hl.2 hBa (by omega)
  simp only[h,Apu,e]
  obtain⟨hBL,hfin⟩:=hleft _ l1 l2
  refine⟨_,rfl,L,mid+1,b,rfl,rfl,rfl,hl.1,hl.2,by omega,by rw[l1.1];exact b4,by rw[l1.1,hs4,P3.1],by omega,hBL,fun R r1 r2 => ?_⟩
  obtain⟨q1,q2⟩:=hfin R r1 r2
  exact⟨permIn_trans _ _ _ a b P3 q1,q2⟩
 ·obtain⟨L,e,l1,l2⟩:=hself d4 (mid+1) b l (by omega) (by omega) (by omega) hl.1 hl.2 hBr (by omega)
  simp only[h,AqJ,e]
  obtain⟨hBL,hfin⟩:=hright _ l1 l2
  refine⟨_,rfl,L,a,mid,rfl,rfl,rfl,hl.1,hl.2,by omega,by rw[l1.1];omega,by rw[l1.1,hs4,P3.1],by omega,hBL,fun R r1 r2 => ?_⟩
  obtain⟨q1,q2⟩:=hfin R r1 r2
  exact⟨permIn_trans _ _ _ a b P3 q1,q2⟩
theorem RE(hself:D7 (S:=S) self (b-a))(hb:b≤d.size)(hs:d.size<4294967296)(hl:0≤l∧l≤100)
  {d3:Array (EL S)} {p:Nat} (wb wp:Bool) (P3:PermIn a b d d3) (B3:Below ltX a b d3) (hp1:a≤p) (hp2:p<b) :
  ∃ o,(UC S.z S.c) self (rep d3) (a:Int) (b:Int) (p:Int) l wb wp=some o∧Ww d a b o:=by
 have b3:b≤d3.size:=by rw[P3.1];exact hb
 have s3:d3.size<4294967296:=by rw[P3.1];exact hs
 rw[UC,Ae]
 by_cases h0:0<a
 ·rw[ApX (by omega)]
  have i0:a-1<d3.size:=by omega
  have i1:p<d3.size:=by omega
  simp (disch:=omega) only[BA,A4,BZ,CW,DE]
  cases hc:ltX d3[a-1]! d3[p]!
  ·simp only[Ap8]
   rw[AR7 d3 a b p hp1 hp2 b3 s3]
   rcases hx:partitionEqual ltX d3 a b p with⟨mid,d4⟩
   obtain⟨hm1,hm2,hs4,hB4,hfin⟩:=round_eq AhM (partitionEqual_holds _) h0 hp1 hp2 b3 B3 hc hx
   refine⟨_,rfl,d4,mid,b,rfl,rfl,rfl,hl.1,hl.2,by omega,by omega,by rw[hs4,P3.1],by omega,hB4,fun R r1 r2 => ?_⟩
   obtain⟨q1,q2⟩:=hfin R r1 r2
   exact⟨permIn_trans _ _ _ a b P3 q1,q2⟩
  ·simp only[Aph]
   exact ARN hself hb hs hl P3 B3 hp1 hp2
 ·rw[ApW (by omega)]
  exact ARN hself hb hs hl P3 B3 hp1 hp2
theorem Aay(hself:D7 (S:=S) self (b-a))(hab:a<b)(hb:b≤d.size)(hs:d.size<4294967296)(hl:0≤l∧l≤100)
  {d3:Array (EL S)} {p:Nat} (h:Int) (wb wp:Bool) (P3:PermIn a b d d3) (B3:Below ltX a b d3) (hp1:a≤p) (hp2:p<b) :
  ∃ o,(AMC S.z S.c) self (rep d3) (a:Int) (b:Int) (p:Int) h l wb wp=some o∧Ww d a b o:=by
 have b3:b≤d3.size:=by rw[P3.1];exact hb
 have s3:d3.size<4294967296:=by rw[P3.1];exact hs
 unfold AMC
 cases wb
 ·exact RE hself hb hs hl _ _ P3 B3 hp1 hp2
 ·cases wp
  ·exact RE hself hb hs hl _ _ P3 B3 hp1 hp2
  ·simp only[]
   cases ieq h 1
   ·exact RE hself hb hs hl _ _ P3 B3 hp1 hp2
   ·simp only[]
    rw[AMI d3 a b hab b3 s3]
    obtain⟨q1,q2⟩:=partialInsertionSort_holds (lt:=ltX) AhM d3 a b hab b3 B3
    rcases hx:partialInsertionSort ltX d3 a b with⟨d4,fin⟩
    rw[hx]at q1 q2
    have P4:PermIn a b d d4:=permIn_trans _ _ _ a b P3 q1
    cases fin
    ·exact RE hself hb hs hl _ _ P4 (B3.perm b3 q1) hp1 hp2
    ·exact⟨_,rfl,d4,rfl,P4,q2 rfl⟩
theorem Aax(hself:D7 (S:=S) self (b-a))(hab:a+8≤b)(hb:b≤d.size)(hs:d.size<4294967296)(hl:0≤l∧l≤100)
  {d3:Array (EL S)} (wb wp:Bool) (P3:PermIn a b d d3) (B3:Below ltX a b d3) :
  ∃ o,(AMB S.z S.c) self (rep d3) (a:Int) (b:Int) l wb wp=some o∧Ww d a b o:=by
 have b3:b≤d3.size:=by rw[P3.1];exact hb
 have s3:d3.size<4294967296:=by rw[P3.1];exact hs
 rw[AMB]
 obtain⟨p,h,e,hp1,hp2⟩:=AW3 d3 a b hab b3 s3
 simp only[e]
 cases ieq h 2
 ·exact Aay hself (by omega) hb hs hl h _ _ P3 B3 hp1 hp2
 ·simp only[Ah1 d3 a b (by omega) b3 s3]
  have q1:=reverseRange_holds (α:=(EL S)) d3 a b (by omega) b3
  simp (disch:=omega) only[BA,DJ]
  exact Aay hself (by omega) hb hs hl 1 _ _ (permIn_trans _ _ _ a b P3 q1) (B3.perm b3 q1) (by omega) (by omega)
theorem Adt(hself:D7 (S:=S) self (b-a))(hab:a≤b)(hb:b≤d.size)(hs:d.size<4294967296)(hl:0≤l∧l≤100)(wb wp:Bool)(B:Below ltX a b d):
  ∃ o,(Nt S.z S.c) self ((rep d),(a:Int),(b:Int),l,wb,wp,())=some o∧Ww d a b o:=by
 rw[Nt]
 simp (disch:=omega) only[DJ,An,CN]
 by_cases h12:b-a≤12
 ·rw[ApX (show((b-a:Nat):Int)≤12 by omega)]
  simp only[Aji d a b hab hb hs]
  obtain⟨q1,q2⟩:=insertionSort_holds (lt:=ltX) AhM d a b hab hb
  exact⟨_,rfl,_,rfl,q1,q2⟩
 ·rw[ApW (show ¬ ((b-a:Nat):Int)≤12 by omega)]
  simp only[]
  by_cases h0:l=0
  ·subst h0
   simp only[BEq.rfl,Aex d a b (by omega) hb hs]
   obtain⟨q1,q2⟩:=heapSort_holds (lt:=ltX) AhM d a b hab hb
   exact⟨_,rfl,_,rfl,q1,q2⟩
  ·rw[show(l==0)=false by simpa using h0]
   simp only[]
   cases wb
   ·obtain⟨d',e,q1⟩:=AZ6 d a b hab hb hs
    simp only[Ap8,e]
    rw[Ah (by omega)]
    exact Aax hself (by omega) hb hs (by omega) _ _ q1 (B.perm hb q1)
   ·simp only[Aph]
    exact Aax hself (by omega) hb hs hl _ _ (permIn_refl d a b) B
end
theorem ARO{self:(List α×Int×Int×Int×Unit)→Option ((List α×Unit))}{m:Nat}(hself:D7 (S:=S) self m):∀ (k:Nat) (d:Array (EL S)) (a b:Nat) (l:Int) (wb wp:Bool) (n:Nat),b-a=k→k≤m→a≤b→b≤d.size→d.size<4294967296→0≤l→l≤100→Below ltX a b d→k<n →
  ∃ R:Array (EL S),Aj ((Nt S.z S.c) self) n ((rep d),(a:Int),(b:Int),l,wb,wp,())=some (.inl ((rep R),()))∧PermIn a b d R∧SortedIn ltX a b R:=by
 intro k
 induction k using Nat.strongRecOn with
 |_ k ih=>
 intro d a b l wb wp n hk hm hab hb hs hl1 hl2 B hn
 obtain⟨n,rfl⟩:∃ k,n=k+1:=⟨n-1,by omega⟩
 have hself':D7 (S:=S) self (b-a):=fun d a' b' l h1 h2 h3 h4 h5 h6 h7=>hself d a' b' l h1 h2 h3 h4 h5 h6 (by omega)
 obtain⟨o,e,ho⟩:=Adt hself' hab hb hs ⟨hl1,hl2⟩ wb wp B
 rw[Aj,e]
 match o,ho with
 |.inl (xs,x,y,l',wb',wp',_),ho=>
  obtain⟨e',i,j,rfl,rfl,rfl,g1,g2,g3,g4,g5,g6,g7,hfin⟩:=ho
  obtain⟨R,e2,r1,r2⟩:=ih (j-i) (by omega) e' i j l' wb' wp' n rfl (by omega) g3 g4 (by omega) g1 g2 g7 (by omega)
  exact⟨R,e2,hfin R r1 r2⟩
 |.inr (.inl (xs,_)),ho=>
  obtain⟨R,rfl,r1,r2⟩:=ho
  exact⟨R,rfl,r1,r2⟩
theorem Adu:∀ k:Nat,D7 (S:=S) ((KZ S.z S.c) (k+1)) (2 ^ k):=by
 intro k
 have hmany:4294967296<many:=by simp only[many];omega
 induction k with
 |zero=>
  intro d a b l h1 h2 h3 h4 h5 h6 h7
  have:D7 (S:=S) ((KZ S.z S.c) 0) 0:=fun _ _ _ _ _ _ _ _ _ _ h=>by omega
  obtain⟨R,e,r1,r2⟩:=ARO this (b-a) d a b l true true many rfl (by omega) h1 h2 h3 h4 h5 h6 (by omega)
  refine⟨R,?_,r1,r2⟩
  rw[KZ,ACc]
  simp only[A3,e]
 |succ k ih=>
  intro d a b l h1 h2 h3 h4 h5 h6 h7
  have hp:2 ^ (k+1)=2*2 ^ k:=by rw[Nat.pow_succ];omega
  obtain⟨R,e,r1,r2⟩:=ARO ih (b-a) d a b l true true many rfl (by omega) h1 h2 h3 h4 h5 h6 (by omega)
  refine⟨R,?_,r1,r2⟩
  rw[KZ,ACc]
  simp only[A3,e]
theorem Jc{α:Type}(S:SP α)(xs:List α)(h:xs.length<4294967296)(hok:∀ x∈xs,S.ok x):∃ ys,(Aai S.z S.c) (xs,())=some (ys,())∧ys.Perm xs∧ys.Pairwise fun x y=>S.lt y x=false:=by
 obtain⟨d,rfl⟩:∃ d:Array (EL S),xs=rep d:=by
  refine⟨(xs.attach.map fun x=>⟨x.val,hok x.val x.property⟩).toArray,?_⟩
  simp only[rep,List.map_map]
  exact(List.attach_map_subtype_val xs).symm
 have hl:(rep d).length=d.size:=by simp[rep]
 rw[hl]at h
 rw[AhT,Qt]
 rw[Abr,u64_in (by omega)]
 obtain⟨v,e,hv,_⟩:=YT d.size h
 simp only[e]
 obtain⟨R,e2,r1,r2⟩:=Adu 99 d 0 d.size (v:Int) (by omega) (by omega) h (by omega) (by omega) (.inl rfl) (by
  have:2 ^ 99=633825300114114700748351602688:=by decide
  omega)
 have e3:(Aie S.z S.c) (rep d,(0:Int),(d.size:Int),(v:Int),())=some (rep R,()):=by rw[AmQ];exact e2
 refine⟨rep R,by simp only[e3],?_,?_⟩
 ·obtain⟨hsz,_,hp⟩:=r1
  have e1:R.extract 0 d.size=R:=by rw[← hsz];exact Array.extract_size
  rw[e1,Array.extract_size]at hp
  exact hp.map _
 ·rw[rep,ArW,ArK]
  intro i j hi hj hij
  have hi':i<R.size:=by simpa using hi
  have hj':j<R.size:=by simpa using hj
  have:=r2 i j (ArZ _) hij (by rw[← r1.1];omega)
  rw[getElem!_pos R j hj',getElem!_pos R i hi']at this
  simpa [ltX]using this
end Go.Pev.Pl.SG
end
section
namespace Go.Pev.Pl.SL
open Go.Sort
def ok(l:List Int):Prop:=l≠[]
def okz:List Int:=[0]
theorem UR:ok okz:=by simp[ok,okz]
def lt(x y:List Int):Bool:=ltInt (x.headD 0) (y.headD 0)
theorem swo:SWO lt:=⟨fun x=>swo_ltInt.irrefl _,fun x y z=>swo_ltInt.trans _ _ _,fun x y z=>swo_ltInt.ntrans _ _ _⟩
theorem Wd{x y:List Int}(hx:ok x)(hy:ok y):∃ c,BG (x,y,())=some (c,())∧ilt c (0:Int)=lt x y:=by
 cases x with
 |nil=>exact absurd rfl hx
 |cons a x=>
  cases y with
  |nil=>exact absurd rfl hy
  |cons b y=>
   rw[APV,ZR]
   have i1:idx (a::x) (0:Int)=some a:=by rw[idx_eq];rfl
   have i2:idx (b::y) (0:Int)=some b:=by rw[idx_eq];rfl
   simp only[i1,i2,Gl,EW,Ke,Kf]
   simp only[CN,Ae,lt,List.headD_cons,ltInt]
   by_cases h:a<b
   ·simp[h]
   ·by_cases h2:b<a
    ·simp[h,h2]
    ·simp[h,h2]
noncomputable def S:SG.SP (List Int):=⟨([]:List (Int)),BG,ok,okz,UR,lt,swo,fun h1 h2=>Wd h1 h2⟩
theorem Jc(xs:List (List Int))(h:xs.length<4294967296)(hok:∀ x∈xs,ok x):∃ ys,AQD (xs,())=some (ys,())∧ys.Perm xs∧ys.Pairwise fun x y=>lt y x=false:=SG.Jc S xs h hok
end Go.Pev.Pl.SL
end
end
section
namespace Go.Pev.Pl
abbrev Edge:=Int×Int×Unit
inductive Con(l:List Edge):Int→Int→Prop
 |refl (a:Int):Con l a a
 |edge (e:Edge):e∈l→Con l e.1 e.2.1
 |symm {a b:Int}:Con l a b→Con l b a
 |trans {a b c:Int}:Con l a b→Con l b c→Con l a c
theorem Con.mono{l l':List Edge}(h:∀ e∈l,∃ e'∈l',(e'.1=e.1∧e'.2.1=e.2.1)∨(e'.1=e.2.1∧e'.2.1=e.1)){a b:Int}(c:Con l a b):Con l' a b:=by
 induction c with
 |refl a=>exact .refl a
 |edge e he=>
  obtain⟨e',h1,h2|h2⟩:=h e he
  ·have:=Con.edge e' h1
   rw[h2.1,h2.2]at this
   exact this
  ·have:=Con.edge e' h1
   rw[h2.1,h2.2]at this
   exact this.symm
 |symm _ ih=>exact ih.symm
 |trans _ _ ih1 ih2=>exact ih1.trans ih2
theorem Con.snoc{l:List Edge}{e:Edge}{a b:Int}:Con (l++[e]) a b↔Con l a b∨(Con l a e.1∧Con l e.2.1 b)∨(Con l a e.2.1∧Con l e.1 b):=by
 constructor
 ·intro h
  induction h with
  |refl a=>exact .inl (.refl a)
  |edge e' he=>
   rcases Apc.1 he with h|h
   ·exact .inl (.edge e' h)
   ·simp only[AqG]at h
    subst h
    exact .inr (.inl ⟨.refl _,.refl _⟩)
  |symm _ ih=>
   rcases ih with h|⟨h1,h2⟩|⟨h1,h2⟩
   ·exact .inl h.symm
   ·exact .inr (.inr ⟨h2.symm,h1.symm⟩)
   ·exact .inr (.inl ⟨h2.symm,h1.symm⟩)
  |trans _ _ ih1 ih2=>
   rcases ih1 with h|⟨h1,h2⟩|⟨h1,h2⟩
   ·rcases ih2 with g|⟨g1,g2⟩|⟨g1,g2⟩
    ·exact .inl (h.trans g)
    ·exact .inr (.inl ⟨h.trans g1,g2⟩)
    ·exact .inr (.inr ⟨h.trans g1,g2⟩)
   ·rcases ih2 with g|⟨g1,g2⟩|⟨g1,g2⟩
    ·exact .inr (.inl ⟨h1,h2.trans g⟩)
    ·exact .inr (.inl ⟨h1,g2⟩)
    ·exact .inl (h1.trans g2)
   ·rcases ih2 with g|⟨g1,g2⟩|⟨g1,g2⟩
    ·exact .inr (.inr ⟨h1,h2.trans g⟩)
    ·exact .inl (h1.trans g2)
    ·exact .inr (.inr ⟨h1,g2⟩)
 ·have up:∀ {x y},Con l x y→Con (l++[e]) x y:=fun h=>h.mono fun e' he=>⟨e',by simp[he],.inl ⟨rfl,rfl⟩⟩
  have he:Con (l++[e]) e.1 e.2.1:=.edge e (by simp)
  rintro (h|⟨h1,h2⟩|⟨h1,h2⟩)
  ·exact up h
  ·exact(up h1).trans (he.trans (up h2))
  ·exact(up h1).trans (he.symm.trans (up h2))
theorem Con.nil{a b:Int}(h:Con [] a b):a=b:=by
 induction h with
 |refl a=>rfl
 |edge e he=>cases he
 |symm _ ih=>exact ih.symm
 |trans _ _ ih1 ih2=>exact ih1.trans ih2
theorem Con.within{l:List Edge}{I:Int→Prop}(h:∀ e∈l,I e.1∧I e.2.1){a b:Int}(c:Con l a b):a=b∨(I a∧I b):=by
 induction c with
 |refl a=>exact .inl rfl
 |edge e he=>exact .inr (h e he)
 |symm _ ih=>
  rcases ih with h|h
  ·exact .inl h.symm
  ·exact .inr ⟨h.2,h.1⟩
 |trans _ _ ih1 ih2=>
  rcases ih1 with rfl|h1
  ·exact ih2
  ·rcases ih2 with rfl|h2
   ·exact .inr h1
   ·exact .inr ⟨h1.1,h2.2⟩
theorem Con.const{l:List Edge}{f:Int→Int}(h:∀ e∈l,f e.1=f e.2.1){a b:Int}(c:Con l a b):f a=f b:=by
 induction c with
 |refl a=>rfl
 |edge e he=>exact h e he
 |symm _ ih=>exact ih.symm
 |trans _ _ ih1 ih2=>exact ih1.trans ih2
end Go.Pev.Pl
end
