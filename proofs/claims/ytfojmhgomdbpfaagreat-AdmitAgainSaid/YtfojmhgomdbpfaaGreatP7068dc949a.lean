/- A part of the proofs of this seat: U26b U26c U26d U26e U26f T26a U26g U26h T18a T18b T18c AKA T18d PevTake PevClaim AKB AKC T19a. -/
import Derived.Test.YtfojmhgomdbpfaaGreatP82b3dc5fb9
import Derived.ProofKit
import Derived.ChangeArms
import Derived.ReadAgain
import Derived.Deep.Slices
import Derived.OpenShut
import Derived.KernelRfl
set_option linter.unusedVariables false
set_option linter.unusedSimpArgs false
set_option linter.unusedSectionVars false
set_option maxRecDepth 100000
section
namespace Go.Pev.Pl
abbrev CrI:=(List TkI×Int×List Bool×Unit)×List (List Int)×Bool×Int×Int×Unit
abbrev EvI:=Int×Int×Int×Bool×Unit
def nI(l:List Nat):List Int:=l.map fun n:Nat=>(n:Int)
def BS(ds:List (List Nat)):List (List Int):=ds.map nI
def Vq(g:Nat)(c:Crw):CrI:=(Mw g c.ts c.dn,BS c.ds,c.ov,(c.st:Int),(c.idl:Int),())
def Cq(e:Evt):EvI:=((e.w:Int),(match e.ft with|some q=>(q.1:Int)|none=>-1),(match e.ft with|some q=>(q.2:Int)|none=>-1),e.pt,())
theorem DU{l:List Nat}{i:Nat}{x:Nat}(h:l[i]? = some x):(nI l)[i]? = some (x:Int):=by unfold nI;rw[Ap0,h];rfl
theorem Bc(l:List Nat):(nI l).length=l.length:=by unfold nI;simp
theorem J1(ds:List (List Nat)):(BS ds).length=ds.length:=by unfold BS;simp
theorem Gh{ds:List (List Nat)}{i:Nat}{l:List Nat}(h:ds[i]? = some l):(BS ds)[i]? = some (nI l):=by unfold BS;rw[Ap0,h];rfl
theorem AEJ(ds:List (List Nat))(i:Nat)(l:List Nat):(BS ds).set i (nI l)=BS (ds.set i l):=by unfold BS;rw[List.map_set]
structure Cok(g W:Nat)(c:Crw):Prop where
 wok:Wok g c.ts c.dn
 w1:1≤W
 w2:W≤8
 w:c.ds.length=W
 st:c.st<100000
 idl:c.idl<100000
 nod:c.ds.flatten.Nodup
 act:∀ a∈c.ds.flatten,∃ t:Tsk,c.ts[a]? = some t∧t.wait=0∧c.dn[t.lo]? = some false
 few:c.ts.length+2≤2000∨∀ a∈c.ds.flatten,∀ t:Tsk,c.ts[a]? = some t→¬ g<t.hi-t.lo
 short:c.ds.flatten.length≤1000
theorem AZh{g W:Nat}{c:Crw}(h:Cok g W c){a:Nat}(ha:a∈c.ds.flatten):AFC (Mw g c.ts c.dn,(a:Int),())=some (true,()):=by
 obtain⟨t,ht,hw,hd⟩:=h.act a ha
 have hl:=(Apd.1 ht).1
 rw[AJe,R9]
 simp only[An,ApM (show(0:Int)≤(a:Int) by omega),AR,Apr,AL,ApM hl,AU (E5 ht)]
 have e1:ieq (Ai t).2.2.2.1 (0:Int)=true:=by rw[Ad];exact ApM (by simp[Ai,hw])
 simp only[e1,XL h.wok ht]
 have e2:(Ai t).1=(t.lo:Int):=rfl
 by_cases hg:g<t.hi-t.lo
 ·simp only[ApM hg]
 ·simp only[ApL hg,e2,AU hd,Ap5]
theorem AOQ(n:Nat):J6 ((n:Int),())=some (decide (n≤100000),()):=by
 rw[YJ,LQ,An,ApM (by omega),An]
 by_cases h:n≤100000
 ·rw[ApM h,ApM (by omega)]
 ·rw[ApL h,ApL (by omega)]
def M1(l:List Nat):List (Int×Int):=l.map fun n:Nat=>((n:Int),(1:Int))
theorem AUm{l:List Nat}{x:Nat}(h:x∉l):Ae (M1 l) (x:Int) (1:Int)=M1 (l++[x])∧AS (M1 l) (x:Int)=none:=by
 induction l with
 |nil=>exact⟨rfl,rfl⟩
 |cons y l ih=>
  rw[ApT,not_or]at h
  obtain⟨h1,h2⟩:=ih h.2
  have hne:¬ (y:Int)=(x:Int):=by have:=h.1;omega
  constructor
  ·show(if(y:Int)=(x:Int)then _ else _)=_
   rw[ApV hne]
   show _::Ae (M1 l) (x:Int) 1=_
   rw[h1];rfl
  ·show(if(y:Int)=(x:Int)then _ else _)=_
   rw[ApV hne];exact h2
theorem LC{ds:List (List Nat)}{i:Nat}{l:List Nat}(h:ds[i]? = some l):ds.flatten=(ds.take i).flatten++(l++(ds.drop (i+1)).flatten)∧(ds.take (i+1)).flatten=(ds.take i).flatten++l:=by
 obtain⟨hl,rfl⟩:=Apd.1 h
 constructor
 ·conv=>lhs;rw[← AqX i ds,AqF hl]
  rw[Ary,Aqt]
 ·rw[Aro,ApO hl,Ary]
  simp
theorem AZN{g W:Nat}{c:Crw}(h:Cok g W c):AEr (Vq g c,())=some (true,()):=by
 have:=h.w1;have:=h.w2;have:=h.w;have:=h.st;have:=h.idl;have:=h.short
 rw[AJc,Rx]
 simp only[Vq,XK h.wok,ApX,AR,J1]
 rw[Ad,ApL (show ¬ (c.ds.length:Int)=0 by omega),Af,ApL (show ¬ (8:Int)<(c.ds.length:Int) by omega)]
 simp only[AOQ,ApM (show c.st≤100000 by omega),ApM (show c.idl≤100000 by omega),ApX]
 have inner:∀ (i:Nat) (l:List Nat) (W9:Int),c.ds[i]? = some l→AX Ek many (c.ts.map Ai,(g:Int),c.dn,BS c.ds,c.ov,(c.st:Int),(c.idl:Int),M1 (c.ds.take i).flatten,BS c.ds,W9,(i:Int),nI l,(l.length:Int),(0:Int),()) =
   some (.inr (.inl (c.ts.map Ai,(g:Int),c.dn,BS c.ds,c.ov,(c.st:Int),(c.idl:Int),M1 (c.ds.take (i+1)).flatten,BS c.ds,W9,(i:Int),()))):=by
  intro i l W9 hl
  obtain⟨f1,f2⟩:=LC hl
  have hll:l.length≤1000:=by
   have:=Aqy List.length f1
   simp only[ApS]at this
   omega
  have e:=Hr (step:=Ek) (fun j=>(c.ts.map Ai,(g:Int),c.dn,BS c.ds,c.ov,(c.st:Int),(c.idl:Int),M1 ((c.ds.take i).flatten++l.take j),BS c.ds,W9,(i:Int),nI l,(l.length:Int),(j:Int),())) l (fun _=>false)
   (fun _=>.inl (false,())) (.inr (.inl (c.ts.map Ai,(g:Int),c.dn,BS c.ds,c.ov,(c.st:Int),(c.idl:Int),M1 (c.ds.take (i+1)).flatten,BS c.ds,W9,(i:Int),()))) (by omega)
   (fun j x hj hx=>by
    rw[Ek,AL,ApM hj]
    have hnd:=h.nod
    have hsp:l=l.take j++x::l.drop (j+1):=by
     obtain⟨hjl,rfl⟩:=Apd.1 hx
     rw[← AqF hjl,AqX]
    have hnot:x∉(c.ds.take i).flatten++l.take j:=by
     rw[f1,← Ap1]at hnd
     have:=(Aq1.1 hnd).1
     rw[hsp,← Ap1]at this
     intro hm
     exact(Aq1.1 this).2.2 x hm x (by simp) rfl
    have hxm:x∈c.ds.flatten:=by rw[f1];simp only[ApR];exact .inr (.inl (Apb hx))
    obtain⟨m1,m2⟩:=AUm hnot
    have hw1:IntKind.wrap .i64 (((AS (M1 ((c.ds.take i).flatten++l.take j)) (x:Int)).getD (0:Int))+(1:Int))=1:=by
     rw[m2];exact Ah (by decide)
    simp only[AU (DU hx),hw1,m1]
    have hlk:AS (M1 ((c.ds.take i).flatten++l.take j++[x])) (x:Int)=some 1:=by
     rw[← m1,Dk,ApZ rfl]
    rw[hlk,Af]
    simp only[AqI,ApL (show ¬ (1:Int)<1 by omega)]
    have:=AZh h hxm
    simp only[Mw]at this
    simp only[this,ApX]
    rw[AP (by omega),Ap1]
    have:l.take (j+1)=l.take j++[x]:=by rw[Aro,hx];rfl
    rw[this]
    simp)
   (by
    rw[Ek,AL,ApL (by omega),Ap3,f2])
  have e':AX Ek many (c.ts.map Ai,(g:Int),c.dn,BS c.ds,c.ov,(c.st:Int),(c.idl:Int),M1 ((c.ds.take i).flatten++l.take 0),BS c.ds,W9,(i:Int),nI l,(l.length:Int),(0:Int),())=_:=e
  rw[List.take_zero,Aqa]at e'
  rw[e']
  simp
 have e:=Hr (step:=F8) (fun i=>(c.ts.map Ai,(g:Int),c.dn,BS c.ds,c.ov,(c.st:Int),(c.idl:Int),M1 (c.ds.take i).flatten,BS c.ds,(c.ds.length:Int),(i:Int),())) c.ds (fun _=>false) (fun _=>.inl (false,())) (.inr (.inl ())) (by omega)
  (fun i l hi hl=>by
   rw[F8,AL,ApM hi]
   simp only[AU (Gh hl),AR,Bc]
   simp only[inner i l _ hl]
   rw[AP (by omega)]
   simp)
  (by rw[F8,AL,ApL (by omega)])
 have e':AX F8 many (c.ts.map Ai,(g:Int),c.dn,BS c.ds,c.ov,(c.st:Int),(c.idl:Int),([]:List (Int×Int)),BS c.ds,(c.ds.length:Int),(0:Int),())=_:=e
 simp only[e']
 simp
def BP(W:Nat)(x:Int):Nat:=((x.tmod W+W).tmod W).toNat
theorem Nv{W:Nat}(hW:1≤W)(x:Int):BP W x<W:=by
 unfold BP
 have h1:=Int.tmod_lt_of_pos (x.tmod W+W) (show(0:Int)<W by omega)
 omega
theorem Al1{a:Int}{W:Nat}(hW:1≤W):rem? a (W:Int)=some (a.tmod W):=by
 rw[AWN,AGi,ApV (by omega)]
theorem ATv{ds:List (List Nat)}{W:Nat}(hW:1≤W)(hW8:W≤8)(hd:ds.length=W)(a0:List TkI)(a1:Int)(a2:List Bool)(a4:Bool)(a5 a6 a7 a8 a9:Int)(a10:Bool)(x:Int):
  OC (a0,a1,a2,BS ds,a4,a5,a6,a7,a8,a9,a10,x,())=some (a0,a1,a2,BS ds,a4,a5,a6,a7,a8,a9,a10,(BP W x:Int),()):=by
 rw[AE1,OB]
 simp only[AR,J1,hd,Al1 hW]
 have h1:=Int.tmod_lt_of_pos x (show(0:Int)<W by omega)
 have h2:-(W:Int)<x.tmod W:=by
  have:=Int.tmod_lt_of_pos (-x) (show(0:Int)<W by omega)
  rw[Int.neg_tmod]at this
  omega
 rw[Ah (by omega)]
 have h3:0≤(x.tmod W+W).tmod W:=Int.tmod_nonneg _ (by omega)
 unfold BP
 rw[Int.toNat_of_nonneg h3]
theorem AmO(l:List Nat)(k:Nat):(nI l).take k=nI (l.take k):=by unfold nI;rw[List.map_take]
theorem AZk{ds:List (List Nat)}{p v:Nat}(hp:p<ds.length)(hv:v<ds.length)(hs:ds.flatten.length≤1000)(a0:List TkI)(a1:Int)(a2:List Bool)(a4:Bool)(a5 a6 a7 a8 a9:Int)(a10:Bool):
  AFG (a0,a1,a2,BS ds,a4,a5,a6,a7,a8,a9,a10,(p:Int),(v:Int),())=match found ds p v with
   |some (t,f,ds')=>some (a0,a1,a2,BS ds',a4,a5,a6,a7,(f:Int),(t:Int),a10,true,())
   |none=>some (a0,a1,a2,BS ds,a4,a5,a6,a7,a8,a9,a10,false,()):=by
 have e1:ds[p]? = some (ds.getD p []):=by rw[ApO hp,Jv (ApO hp)]
 have e2:ds[v]? = some (ds.getD v []):=by rw[ApO hv,Jv (ApO hv)]
 have hlen:∀ {i:Nat} {l:List Nat},ds[i]? = some l→l.length≤1000:=by
  intro i l hl
  have:=Aqy List.length (LC hl).1
  simp only[ApS]at this
  omega
 have l1:=hlen e1
 have l2:=hlen e2
 unfold found
 generalize ds.getD p []=lp at *
 generalize ds.getD v []=lv at *
 rw[AJf,SA]
 simp only[AU (Gh e1),AU (Gh e2),BO (Gh e1),BO (Gh e2),AR,Bc]
 rw[Ah (by omega),An]
 cases hg:lp.getLast? with
 |some t=>
  obtain⟨ys,rfl⟩:=AsT.1 hg
  rw[ApS,List.length_singleton]at *
  have e3:(((ys.length+1:Nat):Int)-1)=(ys.length:Int):=by omega
  rw[e3,ApM (by omega)]
  have e4:(nI (ys++[t]))[ys.length]? = some (t:Int):=DU (by simp)
  have e5:ieq (ys.length:Int) (ys.length:Int)=true:=by rw[Ad];exact ApM rfl
  simp only[AU e4,e5,AAm (show ys.length≤(nI (ys++[t])).length by rw[Bc];simp),AmO,Art,DZ,AEJ,List.dropLast_concat]
 |none=>
  have:lp=[]:=List.getLast?_eq_none_iff.1 hg
  subst this
  rw[ApL (by simp)]
  cases lv with
  |nil=>
   rw[Af,ApL (by simp)]
  |cons t r=>
   rw[Af,ApM (by simp)]
   have e4:idx (nI (t::r)) (0:Int)=some (t:Int):=by rw[Js];rfl
   have e5:=Qq (xs:=nI (t::r)) (l:=1) (by rw[Bc];simp)
   rw[AR,Bc]at e5
   have e6:EF (nI (t::r)) (1:Int) (((t::r).length:Nat):Int)=some (nI r):=e5
   simp only[e4,e6,DZ,AEJ]
theorem AnP{g W:Nat}{c:Crw}(h:Cok g W c){t f p:Nat}{ds':List (List Nat)}(hp:p<ds'.length)(hl:ds'.flatten.length≤1000){k:Tsk}(hk:c.ts[t]? = some k)(hw:k.wait=0)(hd:c.dn[k.lo]? = some false)
  (hfew:g<k.hi-k.lo→c.ts.length+2≤2000) (ov:Bool) (st idl w fr:Int) :
  cgo (c.ts.map Ai,(g:Int),c.dn,BS ds',ov,st,idl,w,fr,(t:Int),false,(p:Int),()) =
   if g<k.hi-k.lo then some ((c.ts.set t { k with wait:=2 }++([⟨k.lo,A8 k,some t,0⟩,⟨A8 k,k.hi,some t,0⟩]:List Tsk)).map Ai,(g:Int),c.dn,BS (ds'.set p (ds'.getD p []++[c.ts.length+1,c.ts.length])),ov,st,idl,w,fr,(t:Int),true,0,())
   else some ((fin c.ts.length c.ts k.up).1.map Ai,(g:Int),Oe c.dn k.lo (k.hi-k.lo),BS ds',ov||(fin c.ts.length c.ts k.up).2,st,idl,w,fr,(t:Int),false,0,()):=by
 have e1:ds'[p]? = some (ds'.getD p []):=by rw[ApO hp,Jv (ApO hp)]
 have l1:(ds'.getD p []).length≤1000:=by
  have:=Aqy List.length (LC e1).1
  simp only[ApS]at this
  omega
 rw[Akl,Abg]
 have hgr:=XL h.wok hk
 simp only[Mw]at hgr
 simp only[hgr]
 have e0:ieq (0:Int) 0=true:=by rw[Ad];rfl
 by_cases hg:g<k.hi-k.lo
 ·rw[ApZ hg]
  have hpt:=AVK h.wok hk hg hw (hfew hg)
  simp only[Mw]at hpt
  have e5:ieq (((ds'.getD p []).length:Nat):Int) (((ds'.getD p []).length:Nat):Int)=true:=by rw[Ad];exact ApM rfl
  have e6:EF (nI (ds'.getD p [])) (0:Int) (((ds'.getD p []).length:Nat):Int)=some (nI (ds'.getD p [])):=by
   have:=AAm (xs:=nI (ds'.getD p [])) (h:=(nI (ds'.getD p [])).length) (ApY _)
   rw[Ap3,Bc]at this
   exact this
  simp only[ApM hg,hpt,e0,AU (Gh e1),BO (Gh e1),AR,Bc,e5,e6,ApW,Apk]
  rw[Bm (by omega)]
  simp only[ES,DZ]
  have:nI (ds'.getD p [])++[((c.ts.length+1:Nat):Int),(c.ts.length:Int)]=nI (ds'.getD p []++[c.ts.length+1,c.ts.length]):=by unfold nI;rw[AqO];rfl
  rw[this,AEJ]
 ·rw[ApV hg]
  have hdo:=Ags h.wok hk hg hw hd
  simp only[Mw]at hdo
  simp only[ApL hg,hdo]
  cases ov<;>rfl
theorem Afe{g W:Nat}{c:Crw}(h:Cok g W c)(x y:Int):
  ATk (Vq g c,x,y,())=some ((stp g c (BP W x) (BP W y)).1.ts.map Ai,(g:Int),(stp g c (BP W x) (BP W y)).1.dn,BS (stp g c (BP W x) (BP W y)).1.ds,(stp g c (BP W x) (BP W y)).1.ov,((stp g c (BP W x) (BP W y)).1.st:Int),((stp g c (BP W x) (BP W y)).1.idl:Int),
   Cq (stp g c (BP W x) (BP W y)).2,0,()):=by
 have hpW:=Nv h.w1 x
 have hvW:=Nv h.w1 y
 have:=h.st;have:=h.idl;have:=h.w;have:=h.short;have:=h.w2
 have hcl:c.ds.length≤8:=by omega
 rw[ATj,Zk]
 have hr:=AZN h
 simp only[Vq,Mw]at hr
 simp only[Vq,Mw,hr,ApX]
 rw[Ad,ApL (show ¬ (c.st:Int)=100000 by omega)]
 simp only[LP (show(BS c.ds).length≤4294967296 by rw[J1];omega),ATv h.w1 h.w2 h.w]
 rw[AP (by omega)]
 have hf:=fun a0 a1 a2 a4 a5 a6 a7 a8 a9 a10=>AZk (ds:=c.ds) (p:=BP W x) (v:=BP W y) (by omega) (by omega) h.short a0 a1 a2 a4 a5 a6 a7 a8 a9 a10
 simp only[hf]
 cases hfd:found c.ds (BP W x) (BP W y)with
 |none=>
  unfold stp
  simp only[hfd]
  rw[Ad,ApL (show ¬ (c.idl:Int)=100000 by omega),AP (by omega)]
  rfl
 |some q=>
  obtain⟨t,f,ds'⟩:=q
  obtain⟨p1,p2,p3⟩:=ADv (by omega) (by omega) hfd
  have htm:t∈c.ds.flatten:=p1.mem_iff.2 (by simp)
  obtain⟨k,hk,hw,hd⟩:=h.act t htm
  have hl':ds'.flatten.length≤1000:=by have:=p1.length_eq;simp only[ApW]at this;omega
  have hgo:=AnP h (t:=t) (f:=f) (p:=BP W x) (ds':=ds') (by omega) hl' hk hw hd (fun hg=>by
   rcases h.few with h1|h1
   ·exact h1
   ·exact absurd hg (h1 t htm k hk))
  simp only[hgo]
  have e0:ieq (0:Int) 0=true:=by rw[Ad];rfl
  unfold stp
  simp only[hfd,hk]
  by_cases hg:g<k.hi-k.lo
  ·simp only[ApZ hg,e0,ApX]
   rfl
  ·simp only[ApV hg,e0,ApX]
   rfl
end Go.Pev.Pl
end
section
namespace Go.Pev.Pl
theorem FK{σ ρ:Type}{step:σ→Option (σ⊕ρ)}(st:Nat→σ)(N:Nat)(r:ρ)(hN:N<9223372036854775808)(h:∀ i,i<N→step (st i)=some (.inl (st (i+1))))(hr:step (st N)=some (.inr r)):AX step many (st 0)=some r:=by
 have:=Hr (step:=step) st (List.range N) (fun _=>false) (fun _=>r) r (by simpa using hN) (fun i x hi _=>by
  simp only[Apc,Apf]
  exact h i (by simpa using hi)) (by simpa using hr)
 simpa using this
theorem AoG{n:Nat}{ts:List Tsk}{dn:List Bool}{A U:List Nat}{D:Nat}(h:Iv n ts dn A U D):pot ts A≤2*n:=by
 have h1:=h.units.length_eq
 rw[ApS,Apy]at h1
 have h2:pot ts A≤2*(A.flatMap (rng ts)).length:=by
  clear h h1
  induction A with
  |nil=>exact ArN _
  |cons a A ih=>
   have e:pot ts (a::A)=L8 ts a+pot ts A:=by unfold pot;rw[Ap2,Ar3]
   rw[e,Ap7,ApS]
   have:L8 ts a≤2*(rng ts a).length:=by
    unfold L8 rng
    split
    ·simp only[List.length_range'];omega
    ·omega
   omega
 omega
section
variable {g n W:Nat} {c:Crw} {E:List Evt}
theorem StI.cok(h:StI n W c E)(hg:1≤g)(hg2:g≤100)(hn1:1≤n)(hn2:n≤1000)(hW:1≤W)(hW8:W≤8)(hl:E.length<100000):Cok g W c:=by
 obtain⟨D,iv⟩:=h.iv
 have hb:=iv.bound
 have hs:=iv.size
 have hst:=h.st
 have hidl:=h.idl
 refine⟨⟨hg,hg2,by rw[iv.len];exact hn1,by rw[iv.len];exact hn2,by omega,by omega,fun i t ht => ?_⟩,hW,hW8,h.w,by omega,by omega,iv.tr.nod,fun a ha => ?_,?_,by omega⟩
 ·obtain⟨a1,a2,a3,_,a5⟩:=iv.tr.tree i t ht
  exact⟨a1,by rw[iv.len];exact a2,a3,a5⟩
 ·obtain⟨t,ht,hw⟩:=iv.tr.act a ha
  exact⟨t,ht,hw,iv.Anz ha ht⟩
 ·by_cases hx:∃ a∈c.ds.flatten,∃ t:Tsk,c.ts[a]? = some t∧g<t.hi-t.lo
  ·obtain⟨a,ha,t,ht,hgt⟩:=hx
   left
   obtain⟨l1,l2,e⟩:=Ar4 ha
   have hp:c.ds.flatten.Perm (a::(l1++l2)):=by rw[e];exact List.perm_middle
   have:=(iv.perm hp).Aom ht (A8:=t.lo+1) (by omega) (by omega)
   omega
  ·right
   intro a ha t ht hgt
   exact hx ⟨a,ha,t,ht,hgt⟩
theorem Afz(h:Cok g W c):AUC (Vq g c,())=some ((c.ds.flatten.length:Int),()):=by
 have:=h.w;have:=h.w2;have:=h.short
 rw[AUB,Zl]
 have e:=FK (step:=Hz) (fun i=>(((c.ds.take i).flatten.length:Int),BS c.ds,(c.ds.length:Int),(i:Int),())) c.ds.length (.inl ((c.ds.flatten.length:Int),())) (by omega)
  (fun i hi=>by
   rw[Hz,AL,ApM hi]
   have hg:=ApO hi
   obtain⟨f1,f2⟩:=LC hg
   have hle:=Aqy List.length f1
   simp only[ApS]at hle
   simp only[AU (Gh hg),AR,Bc]
   rw[wrap_add (by omega),AP (by omega),f2,ApS])
  (by rw[Hz,AL,ApL (by omega),Ap3])
 have e':AX Hz many ((0:Int),BS c.ds,(c.ds.length:Int),(0:Int),())=_:=e
 simp only[Vq,AR,J1,e']
theorem AJO(h:Cok g W c)(hl:E.length<100000)(x y:Int):
  AJP (c.ts.map Ai,(g:Int),c.dn,BS c.ds,c.ov,(c.st:Int),(c.idl:Int),E.map Cq,x,y,()) =
   some ((stp g c (BP W x) (BP W y)).1.ts.map Ai,(g:Int),(stp g c (BP W x) (BP W y)).1.dn,BS (stp g c (BP W x) (BP W y)).1.ds,(stp g c (BP W x) (BP W y)).1.ov,((stp g c (BP W x) (BP W y)).1.st:Int),((stp g c (BP W x) (BP W y)).1.idl:Int),
    (E++[(stp g c (BP W x) (BP W y)).2]).map Cq,0,()):=by
 rw[ATT,Zh]
 have hc:=Afe h x y
 simp only[Vq,Mw]at hc
 simp only[hc]
 have e0:ieq (0:Int) 0=true:=by rw[Ad];rfl
 simp only[e0,AR,Apr,ApW,Apk]
 rw[Bm (by omega)]
 simp only[ES,AqO]
 rfl
end
theorem Ads{W p:Nat}(h:p<W):BP W (p:Int)=p:=by
 unfold BP
 have h1:((p:Nat):Int).tmod (W:Int)=p:=Int.tmod_eq_of_lt (by omega) (by omega)
 rw[h1]
 have h2:((p:Int)+W).tmod W=p:=by
  rw[show(p:Int)+W=((p+W:Nat):Int) by omega,← Int.ofNat_tmod]
  rw[Nat.add_mod_right,ArC h]
 rw[h2];rfl
theorem Ai1{W p:Nat}(hW:1≤W):BP W (p:Int)=p % W:=by
 unfold BP
 rw[← Int.ofNat_tmod]
 have:=Ar6 p (show 0<W by omega)
 rw[show((p % W:Nat):Int)+W=((p % W+W:Nat):Int) by omega,← Int.ofNat_tmod,Nat.add_mod_right,Nat.mod_mod]
 rfl
section
variable {g n W:Nat} {s:Crw×List Evt}
theorem Ack{t:Nat}(h:(Am g W s t).1.ov=false):Am g W s (t+1)=((stp g (Am g W s t).1 (t % W) ((t % W+1+t/W) % W)).1,(Am g W s t).2++[(stp g (Am g W s t).1 (t % W) ((t % W+1+t/W) % W)).2]):=by
 rw[Am]
 simp only[h]
 rfl
theorem Acj(hg:1≤g)(hW:0<W)(h:StI n W s.1 s.2):∃ T,T≤(2*n+1)*W∧(Am g W s T).1.ov=true∧∀ t,t<T→(Am g W s t).1.ov=false:=by
 obtain⟨D,iv⟩:=h.iv
 have h1:=Acl hg hW h
 have h2:=AoG iv
 generalize hb:(pot s.1.ts s.1.ds.flatten+1)*W=b at h1
 have hbl:b≤(2*n+1)*W:=by rw[← hb];exact AqC _ (by omega)
 clear hb
 have main:∀ k,k≤b→(∃ T,T≤b∧(Am g W s T).1.ov=true∧∀ t,t<T→(Am g W s t).1.ov=false)∨∀ t,t<k→(Am g W s t).1.ov=false:=by
  intro k
  induction k with
  |zero=>intro _;exact .inr fun t ht=>absurd ht (by omega)
  |succ k ih=>
   intro hk
   rcases ih (by omega)with h|h
   ·exact .inl h
   ·cases hx:(Am g W s k).1.ov with
    |true=>exact .inl ⟨k,by omega,hx,h⟩
    |false=>
     right
     intro t ht
     by_cases ht':t=k
     ·rw[ht'];exact hx
     ·exact h t (by omega)
 rcases main b (ApY _)with⟨T,h3,h4,h5⟩|h3
 ·exact⟨T,by omega,h4,h5⟩
 ·exact⟨b,hbl,h1,h3⟩
theorem ATU(hg:1≤g)(hg2:g≤100)(hn1:1≤n)(hn2:n≤1000)(hW:1≤W)(hW8:W≤8)(h:StI n W s.1 s.2)(hl:s.2.length≤4000):
  ∃ s':Crw×List Evt,StI n W s'.1 s'.2∧s'.1.ov=true∧s'.2.length≤40000∧Rq (s.1.ts.map Ai,(g:Int),s.1.dn,BS s.1.ds,s.1.ov,(s.1.st:Int),(s.1.idl:Int),s.2.map Cq,())=some (s'.1.ts.map Ai,(g:Int),s'.1.dn,BS s'.1.ds,s'.1.ov,(s'.1.st:Int),(s'.1.idl:Int),s'.2.map Cq,0,()):=by
 obtain⟨T,hT,hov,hnot⟩:=Acj hg (by omega) h
 have hT':T≤17000:=by
  have:(2*n+1)*W≤2001*8:=Aq7 (by omega) hW8
  omega
 obtain⟨hS,hSl⟩:=ZS hg (by omega) h T
 refine⟨Am g W s T,hS,hov,by omega,?_⟩
 have hok:∀ t,t≤T→StI n W (Am g W s t).1 (Am g W s t).2∧(Am g W s t).2.length<100000:=fun t ht=>by
  obtain⟨a,b⟩:=ZS hg (by omega) h t
  exact⟨a,by omega⟩
 have hcok:∀ t,t≤T→Cok g W (Am g W s t).1:=fun t ht=>(hok t ht).1.cok hg hg2 hn1 hn2 hW hW8 (hok t ht).2
 have hne:∀ t,t<T→¬ (Am g W s t).1.ds.flatten.length=0:=fun t ht h0=>by
  have:=(hok t (by omega)).1.ov
  rw[hnot t ht,Apq h0]at this
  cases this
 have step1:∀ r j:Nat,j<W→r*W+j<T→CK ((Am g W s (r*W+j)).1.ts.map Ai,(g:Int),(Am g W s (r*W+j)).1.dn,BS (Am g W s (r*W+j)).1.ds,(Am g W s (r*W+j)).1.ov,((Am g W s (r*W+j)).1.st:Int),((Am g W s (r*W+j)).1.idl:Int),(Am g W s (r*W+j)).2.map Cq,(r:Int),(W:Int),(j:Int),()) =
   some (.inl ((Am g W s (r*W+(j+1))).1.ts.map Ai,(g:Int),(Am g W s (r*W+(j+1))).1.dn,BS (Am g W s (r*W+(j+1))).1.ds,(Am g W s (r*W+(j+1))).1.ov,((Am g W s (r*W+(j+1))).1.st:Int),((Am g W s (r*W+(j+1))).1.idl:Int),(Am g W s (r*W+(j+1))).2.map Cq,(r:Int),(W:Int),((j+1:Nat):Int),())):=by
  intro r j hj hlt
  have hrW:r≤r*W:=AsZ _ (by omega)
  unfold CK
  dsimp only
  rw[AL,ApM hj]
  have h1:=hnot _ hlt
  have hc:=hcok _ (AsG hlt)
  have hl:=(hok _ (AsG hlt)).2
  have hst:=Ack h1
  have hh:=Afz hc
  have hn0:=hne _ hlt
  have hd:=AJO hc hl
  rw[ArQ]at hst
  rw[hst]
  generalize Am g W s (r*W+j)=S at h1 hc hl hh hn0 hd
  simp only[Vq,Mw,h1]at hh
  simp only[h1]at hd
  simp only[h1,hh]
  rw[Ad,ApL (by omega)]
  rw[AP (by omega),wrap_add (by omega)]
  simp only[hd]
  rw[Ad,ApM rfl]
  simp only[ApX]
  rw[Ads hj,Ai1 hW]
  have e1:(r*W+j) % W=j:=by rw[Nat.mul_comm,Nat.mul_add_mod,ArC hj]
  have e2:(r*W+j)/W=r:=by rw[Nat.mul_comm,Nat.mul_add_div (by omega),Nat.div_eq_of_lt hj];omega
  rw[e1,e2]
 have round:∀ r:Nat,(r+1)*W≤T→Cz ((Am g W s (r*W)).1.ts.map Ai,(g:Int),(Am g W s (r*W)).1.dn,BS (Am g W s (r*W)).1.ds,(Am g W s (r*W)).1.ov,((Am g W s (r*W)).1.st:Int),((Am g W s (r*W)).1.idl:Int),(Am g W s (r*W)).2.map Cq,(r:Int),()) =
   some (.inl ((Am g W s ((r+1)*W)).1.ts.map Ai,(g:Int),(Am g W s ((r+1)*W)).1.dn,BS (Am g W s ((r+1)*W)).1.ds,(Am g W s ((r+1)*W)).1.ov,((Am g W s ((r+1)*W)).1.st:Int),((Am g W s ((r+1)*W)).1.idl:Int),(Am g W s ((r+1)*W)).2.map Cq,((r+1:Nat):Int),())):=by
  intro r hr
  have hrW:r≤r*W:=AsZ _ (by omega)
  rw[AsH]at hr
  rw[Cz]
  have hw:(BS (Am g W s (r*W)).1.ds).length=W:=by rw[J1];exact(hcok (r*W) (by omega)).w
  have e:=FK (step:=CK) (fun j=>((Am g W s (r*W+j)).1.ts.map Ai,(g:Int),(Am g W s (r*W+j)).1.dn,BS (Am g W s (r*W+j)).1.ds,(Am g W s (r*W+j)).1.ov,((Am g W s (r*W+j)).1.st:Int),((Am g W s (r*W+j)).1.idl:Int),(Am g W s (r*W+j)).2.map Cq,(r:Int),(W:Int),(j:Int),())) W
   (.inr (.inl ((Am g W s (r*W+W)).1.ts.map Ai,(g:Int),(Am g W s (r*W+W)).1.dn,BS (Am g W s (r*W+W)).1.ds,(Am g W s (r*W+W)).1.ov,((Am g W s (r*W+W)).1.st:Int),((Am g W s (r*W+W)).1.idl:Int),(Am g W s (r*W+W)).2.map Cq,(r:Int),()))) (by omega)
   (fun j hj=>step1 r j hj (by omega)) (by unfold CK;dsimp only;rw[AL,ApL (by omega)])
  simp only[Aqp]at e
  have e':AX CK many ((Am g W s (r*W)).1.ts.map Ai,(g:Int),(Am g W s (r*W)).1.dn,BS (Am g W s (r*W)).1.ds,(Am g W s (r*W)).1.ov,((Am g W s (r*W)).1.st:Int),((Am g W s (r*W)).1.idl:Int),(Am g W s (r*W)).2.map Cq,(r:Int),(W:Int),(0:Int),())=_:=e
  simp only[AR,hw,e']
  rw[AP (by omega),AsH]
 have last:Cz ((Am g W s (T/W*W)).1.ts.map Ai,(g:Int),(Am g W s (T/W*W)).1.dn,BS (Am g W s (T/W*W)).1.ds,(Am g W s (T/W*W)).1.ov,((Am g W s (T/W*W)).1.st:Int),((Am g W s (T/W*W)).1.idl:Int),(Am g W s (T/W*W)).2.map Cq,((T/W:Nat):Int),()) =
   some (.inr (.inl ((Am g W s T).1.ts.map Ai,(g:Int),(Am g W s T).1.dn,BS (Am g W s T).1.ds,(Am g W s T).1.ov,((Am g W s T).1.st:Int),((Am g W s T).1.idl:Int),(Am g W s T).2.map Cq,(0:Int),()))):=by
  have hdm:T/W*W+T % W=T:=by rw[Nat.mul_comm];exact Nat.div_add_mod T W
  have hm:=Ar6 T (show 0<W by omega)
  rw[Cz]
  have hw:(BS (Am g W s (T/W*W)).1.ds).length=W:=by rw[J1];exact(hcok (T/W*W) (by omega)).w
  have e:=FK (step:=CK) (fun j=>((Am g W s (T/W*W+j)).1.ts.map Ai,(g:Int),(Am g W s (T/W*W+j)).1.dn,BS (Am g W s (T/W*W+j)).1.ds,(Am g W s (T/W*W+j)).1.ov,((Am g W s (T/W*W+j)).1.st:Int),((Am g W s (T/W*W+j)).1.idl:Int),(Am g W s (T/W*W+j)).2.map Cq,((T/W:Nat):Int),(W:Int),(j:Int),())) (T % W)
   (.inl ((Am g W s T).1.ts.map Ai,(g:Int),(Am g W s T).1.dn,BS (Am g W s T).1.ds,(Am g W s T).1.ov,((Am g W s T).1.st:Int),((Am g W s T).1.idl:Int),(Am g W s T).2.map Cq,(0:Int),())) (by omega)
   (fun j hj=>step1 (T/W) j (by omega) (by omega)) (by unfold CK;dsimp only;rw[hdm,AL,ApM hm,hov])
  simp only[Aqp]at e
  have e':AX CK many ((Am g W s (T/W*W)).1.ts.map Ai,(g:Int),(Am g W s (T/W*W)).1.dn,BS (Am g W s (T/W*W)).1.ds,(Am g W s (T/W*W)).1.ov,((Am g W s (T/W*W)).1.st:Int),((Am g W s (T/W*W)).1.idl:Int),(Am g W s (T/W*W)).2.map Cq,((T/W:Nat):Int),(W:Int),(0:Int),())=_:=e
  simp only[AR,hw,e']
 rw[AEV,N6]
 have e:=FK (step:=Cz) (fun r=>((Am g W s (r*W)).1.ts.map Ai,(g:Int),(Am g W s (r*W)).1.dn,BS (Am g W s (r*W)).1.ds,(Am g W s (r*W)).1.ov,((Am g W s (r*W)).1.st:Int),((Am g W s (r*W)).1.idl:Int),(Am g W s (r*W)).2.map Cq,(r:Int),())) (T/W) _ (by
   have:=Nat.div_le_self T W
   omega)
  (fun r hr=>round r (AqN (AqC _ hr) (Nat.div_mul_le_self T W))) last
 rw[Ara]at e
 have e':AX Cz many ((Am g W s 0).1.ts.map Ai,(g:Int),(Am g W s 0).1.dn,BS (Am g W s 0).1.ds,(Am g W s 0).1.ov,((Am g W s 0).1.st:Int),((Am g W s 0).1.idl:Int),(Am g W s 0).2.map Cq,(0:Int),())=_:=e
 simp only[Am]at e'
 simp only[e']
end
end Go.Pev.Pl
end
section
namespace Go.Pev.Pl
def cr0(n W:Nat):Crw:=⟨[⟨0,n,none,0⟩],List.replicate n false,[0]::List.replicate (W-1) [],false,0,0⟩
theorem Ae2(k:Nat):([0]::List.replicate k ([]:List Nat)).flatten=[0]:=by
 rw[Aqt]
 have:(List.replicate k ([]:List Nat)).flatten=[]:=by
  induction k with
  |zero=>rfl
  |succ k ih=>rw[Arx,Aqt,ih];rfl
 rw[this];rfl
theorem ApB{n W:Nat}(hn:1≤n)(hW:1≤W):StI n W (cr0 n W) []:=by
 have hf:(cr0 n W).ds.flatten=[0]:=Ae2 _
 have get:∀ {i:Nat} {t:Tsk},(cr0 n W).ts[i]? = some t→i=0∧t=⟨0,n,none,0⟩:=by
  intro i t h
  have h':([⟨0,n,none,0⟩]:List Tsk)[i]? = some t:=h
  cases i with
  |zero=>simp at h';exact⟨rfl,h'.symm⟩
  |succ i=>simp at h'
 refine⟨⟨0,?_⟩,?_,?_,?_,rfl,ArN _⟩
 ·rw[hf]
  refine⟨by simp[cr0],⟨fun i t ht => ?_,by simp,fun a ha => ?_,fun a ha j t ht => ?_,fun i t ht => ?_⟩,?_,fun u hu => ?_,rfl,ArN _⟩
  ·obtain⟨rfl,rfl⟩:=get ht
   exact⟨hn,ApY _,by simp,fun _=>rfl,fun x h=>by cases h⟩
  ·simp at ha;subst ha
   exact⟨_,rfl,rfl⟩
  ·obtain⟨rfl,rfl⟩:=get ht
   intro h;cases h
  ·obtain⟨rfl,rfl⟩:=get ht
   have:kids (cr0 n W).ts [0] 0=0:=by
    rcases AqL (kids (cr0 n W).ts [0] 0)with h|h
    ·exact h
    ·obtain⟨j,t,h1,h2,_⟩:=Mm.1 h
     obtain⟨_,rfl⟩:=get h1
     cases h2
   rw[this];rfl
  ·have:([0]:List Nat).flatMap (rng (cr0 n W).ts)=List.range n:=by
    simp[rng,cr0,List.range_eq_range']
   rw[this]
   simp[evU]
  ·have:(cr0 n W).dn[u]? = some false:=by
    show(List.replicate n false)[u]? = _
    rw[Asb,ApZ hu]
   rw[this];simp[evU]
 ·rw[hf];rfl
 ·simp[cr0];omega
 ·intro e he;cases he
theorem Ae4{n:Nat}(h:n≤4294967296):CM (n:Int)=true:=(N5 _).2 (by omega)
theorem D2{n:Nat}(h:n≤4294967296):(CM (n:Int)&&CM (n:Int)&&ile (n:Int) (n:Int)&&true)=true:=by
 rw[Ae4 h,An,ApM (Asf _)];rfl
theorem E7{α:Type}(n:Nat)(x:α):D3 (AN (n:Int)) x=List.replicate n x:=by rw[AEY];rfl
theorem APy{g n:Nat}(hg:1≤g)(hg2:g≤100)(hn:1≤n)(hn2:n≤1000):Qp ((n:Int),(g:Int),())=some ((cr0 n 1).ts.map Ai,(g:Int),List.replicate n false,0,()):=by
 rw[AAl,Nm]
 simp only[OZ,ApM (show 1≤(n:Int)∧(n:Int)≤1000∧1≤(g:Int)∧(g:Int)≤100 by omega),ApX,D2 (show n≤4294967296 by omega),E7]
 rfl
theorem AZo{g n W:Nat}(hg:1≤g)(hg2:g≤100)(hn:1≤n)(hn2:n≤1000)(hW:1≤W)(hW8:W≤8):
  AFL ((n:Int),(g:Int),(W:Int),())=some ((cr0 n W).ts.map Ai,(g:Int),(cr0 n W).dn,BS (cr0 n W).ds,false,0,0,0,()):=by
 rw[AJg,SB]
 have e0:ieq (0:Int) 0=true:=by rw[Ad];rfl
 have h1:ilt (W:Int) 1=false:=by rw[Af];exact ApL (by omega)
 have h2:ilt 8 (W:Int)=false:=by rw[Af];exact ApL (by omega)
 obtain⟨k,rfl⟩:∃ k,W=k+1:=⟨W-1,by omega⟩
 have h3:idx (List.replicate (k+1) ()) (0:Int)=some ():=by rw[Js];rfl
 simp only[h1,h2,APy hg hg2 hn hn2,e0,ApX,D2 (show k+1≤4294967296 by omega),E7,h3]
 rw[Bm (by decide)]
 simp only[AqD]
 have:Az (D3 (k+1) ([]:List Int)) 0 [(0:Int)]=BS (cr0 n (k+1)).ds:=by
  show(List.replicate (k+1) ([]:List Int)).set 0 [0]=BS ([0]::List.replicate k [])
  rw[Arx,List.set_cons_zero]
  unfold BS
  rw[Ap2,List.map_replicate]
  rfl
 rw[this]
 rfl
def pkS(g W:Nat):List (List Int)→Crw×List Evt→Crw×List Evt
 |[],s=>s
 |x::l,s=>if s.1.ov then s else pkS g W l ((stp g s.1 (BP W (AY x 0 0)) (BP W (AY x 1 0))).1,s.2++[(stp g s.1 (BP W (AY x 0 0)) (BP W (AY x 1 0))).2])
theorem AoH{g n W:Nat}(hg:1≤g)(hW:1≤W):∀ (l:List (List Int)) (s:Crw×List Evt),StI n W s.1 s.2→StI n W (pkS g W l s).1 (pkS g W l s).2∧(pkS g W l s).2.length≤s.2.length+l.length:=by
 intro l
 induction l with
 |nil=>intro s h;exact⟨h,by simp[pkS]⟩
 |cons x l ih=>
  intro s h
  rw[pkS]
  split
  ·exact⟨h,by omega⟩
  ·have:=ih ((stp g s.1 (BP W (AY x 0 0)) (BP W (AY x 1 0))).1,s.2++[(stp g s.1 (BP W (AY x 0 0)) (BP W (AY x 1 0))).2]) (AKy hg h (Nv hW (AY x 0 0)) (Nv hW (AY x 1 0))).1
   refine⟨this.1,?_⟩
   have:=this.2
   simp only[ApS,ApW,Apk]at this ⊢
   omega
theorem AYu{g n W:Nat}(hg:1≤g)(hg2:g≤100)(hn:1≤n)(hn2:n≤1000)(hW:1≤W)(hW8:W≤8){picks:List (List Int)}(hp:picks.length≤4000):
  ∃ s':Crw×List Evt,StI n W s'.1 s'.2∧s'.1.ov=true∧s'.2.length≤40000∧AEQ ((n:Int),(g:Int),(W:Int),picks,())=some (Vq g s'.1,s'.2.map Cq,0,()):=by
 have h0:=ApB (n:=n) (W:=W) hn hW
 obtain⟨p1,p2⟩:=AoH hg hW picks (cr0 n W,[]) h0
 obtain⟨s',q1,q2,q3,q4⟩:=ATU hg hg2 hn hn2 hW hW8 p1 (by simpa using AqN p2 (by simpa using hp))
 refine⟨s',q1,q2,q3,?_⟩
 rw[AJN,Rp]
 have e0:ieq (0:Int) 0=true:=by rw[Ad];rfl
 have e:=Er (step:=Ei) (fun i (s:Crw×List Evt)=>((0:Int),false,(0:Int),(0:Int),s.1.ts.map Ai,(g:Int),s.1.dn,BS s.1.ds,s.1.ov,(s.1.st:Int),(s.1.idl:Int),s.2.map Cq,picks,(picks.length:Int),(i:Int),())) picks
  (fun x s=>if s.1.ov then .inr (.inl ((0:Int),false,(0:Int),(0:Int),s.1.ts.map Ai,(g:Int),s.1.dn,BS s.1.ds,s.1.ov,(s.1.st:Int),(s.1.idl:Int),s.2.map Cq,()))else .inl ((stp g s.1 (BP W (AY x 0 0)) (BP W (AY x 1 0))).1,s.2++[(stp g s.1 (BP W (AY x 0 0)) (BP W (AY x 1 0))).2]))
  (fun s=>.inl ((0:Int),false,(0:Int),(0:Int),s.1.ts.map Ai,(g:Int),s.1.dn,BS s.1.ds,s.1.ov,(s.1.st:Int),(s.1.idl:Int),s.2.map Cq,()))
  (fun i s=>StI n W s.1 s.2∧s.2.length≤i) (by omega)
  (fun i x s hi hx hI=>by
   have hstep:Ei ((0:Int),false,(0:Int),(0:Int),s.1.ts.map Ai,(g:Int),s.1.dn,BS s.1.ds,s.1.ov,(s.1.st:Int),(s.1.idl:Int),s.2.map Cq,picks,(picks.length:Int),(i:Int),())=match s.1.ov with
     |true=>some (.inr (.inl ((0:Int),false,(0:Int),(0:Int),s.1.ts.map Ai,(g:Int),s.1.dn,BS s.1.ds,s.1.ov,(s.1.st:Int),(s.1.idl:Int),s.2.map Cq,())))
     |false=>some (.inl ((0:Int),false,(0:Int),(0:Int),(stp g s.1 (BP W (AY x 0 0)) (BP W (AY x 1 0))).1.ts.map Ai,(g:Int),(stp g s.1 (BP W (AY x 0 0)) (BP W (AY x 1 0))).1.dn,BS (stp g s.1 (BP W (AY x 0 0)) (BP W (AY x 1 0))).1.ds,(stp g s.1 (BP W (AY x 0 0)) (BP W (AY x 1 0))).1.ov,((stp g s.1 (BP W (AY x 0 0)) (BP W (AY x 1 0))).1.st:Int),((stp g s.1 (BP W (AY x 0 0)) (BP W (AY x 1 0))).1.idl:Int),(s.2++[(stp g s.1 (BP W (AY x 0 0)) (BP W (AY x 1 0))).2]).map Cq,picks,(picks.length:Int),((i+1:Nat):Int),())):=by
    unfold Ei
    dsimp only
    have hd:=AJO (hI.1.cok hg hg2 hn hn2 hW hW8 (by omega)) (E:=s.2) (by omega) (AY x 0 0) (AY x 1 0)
    cases hov:s.1.ov with
    |true=>simp only[AL,ApM hi,AU hx]
    |false=>
     rw[hov]at hd
     simp only[AL,ApM hi,AU hx,hd,e0,ApX]
     rw[AP (by omega)]
   rw[hstep]
   cases hov:s.1.ov with
   |true=>
    refine⟨fun a' ha=>by simp at ha,fun r hr => ?_⟩
    simp only[Ap6,Sum.inr.injEq]at hr
    rw[← hr]
   |false=>
    refine⟨fun a' ha => ?_,fun r hr=>by simp at hr⟩
    simp only[Apc,Apf,Sum.inl.injEq]at ha
    subst ha
    refine⟨rfl,(AKy hg hI.1 (Nv hW (AY x 0 0)) (Nv hW (AY x 1 0))).1,?_⟩
    simp only[ApS,ApW,Apk]
    have:=hI.2
    omega)
  (fun s _=>by
   unfold Ei
   dsimp only
   rw[AL,ApL (by omega)])
  (cr0 n W,[]) ⟨h0,ApY _⟩
 have hw:∀ (l:List (List Int)) (s:Crw×List Evt),walk (ρ:=((Int×Bool×Int×Int×List TkI×Int×List Bool×List (List Int)×Bool×Int×Int×List EvI×Unit)⊕(List TkI×Int×List Bool×List (List Int)×Bool×Int×Int×List EvI×Int×Unit)⊕Unit)) (fun x s=>if s.1.ov then .inr (.inl ((0:Int),false,(0:Int),(0:Int),s.1.ts.map Ai,(g:Int),s.1.dn,BS s.1.ds,s.1.ov,(s.1.st:Int),(s.1.idl:Int),s.2.map Cq,()))else .inl ((stp g s.1 (BP W (AY x 0 0)) (BP W (AY x 1 0))).1,s.2++[(stp g s.1 (BP W (AY x 0 0)) (BP W (AY x 1 0))).2]))
  (fun s=>.inl ((0:Int),false,(0:Int),(0:Int),s.1.ts.map Ai,(g:Int),s.1.dn,BS s.1.ds,s.1.ov,(s.1.st:Int),(s.1.idl:Int),s.2.map Cq,())) l s =
   .inl ((0:Int),false,(0:Int),(0:Int),(pkS g W l s).1.ts.map Ai,(g:Int),(pkS g W l s).1.dn,BS (pkS g W l s).1.ds,(pkS g W l s).1.ov,((pkS g W l s).1.st:Int),((pkS g W l s).1.idl:Int),(pkS g W l s).2.map Cq,()):=by
  intro l
  induction l with
  |nil=>intro s;rfl
  |cons x l ih=>
   intro s
   rw[walk,pkS]
   cases hov:s.1.ov with
   |true=>simp only[Ap6,hov]
   |false=>
    simp only[Apc,Apf]
    exact ih _
 rw[hw]at e
 have e':AX Ei many ((0:Int),false,(0:Int),(0:Int),(cr0 n W).ts.map Ai,(g:Int),(cr0 n W).dn,BS (cr0 n W).ds,false,(0:Int),(0:Int),([]:List EvI),picks,(picks.length:Int),(0:Int),())=_:=e
 simp only[AZo hg hg2 hn hn2 hW hW8,e0,ApX,AR,e',q4]
 rfl
def HV(ts:List Tsk)(e:Evt):Option (Nat×Nat):=match e.ft with
 |some (_,t)=>if e.pt then none else ts[t]?.map fun k=>(k.lo,k.hi)
 |none=>none
def ATO(p:Nat×Nat):Int×Int×Unit:=((p.1:Int),(p.2:Int),())
theorem ATY{g n W:Nat}{s:Crw×List Evt}(h:StI n W s.1 s.2)(hl:s.2.length≤40000):Rs (Vq g s.1,s.2.map Cq,())=some ((s.2.filterMap (HV s.1.ts)).map ATO,()):=by
 rw[AEb,N7]
 have e:=FK (step:=EO) (fun i=>(s.1.ts.map Ai,(g:Int),s.1.dn,BS s.1.ds,s.1.ov,(s.1.st:Int),(s.1.idl:Int),((s.2.take i).filterMap (HV s.1.ts)).map ATO,s.2.map Cq,(s.2.length:Int),(i:Int),())) s.2.length (.inl ((s.2.filterMap (HV s.1.ts)).map ATO,())) (by omega)
  (fun i hi=>by
   unfold EO
   dsimp only
   have hg0:=ApO hi
   have hev:=h.ev s.2[i] (ArD hi)
   have htk:s.2.take (i+1)=s.2.take i++[s.2[i]]:=by rw[Aro,hg0];rfl
   have hln:((s.2.take i).filterMap (HV s.1.ts)).length≤40000:=by
    have:=List.length_filterMap_le (HV s.1.ts) (s.2.take i)
    rw[Api]at this
    omega
   rw[htk,List.filterMap_append,AqO]
   have hix:idx (s.2.map Cq) (i:Int)=some (Cq s.2[i]):=AU (by rw[Ap0,hg0];rfl)
   simp only[AL,ApM hi,hix]
   generalize s.2[i]=x at hev hix
   obtain⟨w,ft,pt⟩:=x
   rw[AP (by omega)]
   cases pt with
   |true=>
    have:HV s.1.ts ⟨w,ft,true⟩=none:=by unfold HV;cases ft<;>rfl
    simp only[Cq,Ar0,this,List.filterMap_nil,ArB,Aqa]
   |false=>
    cases ft with
    |none=>
     have:HV s.1.ts ⟨w,none,false⟩=none:=rfl
     simp only[Cq,Ar0,this,List.filterMap_nil,ArB,Aqa]
     rw[Af,ApM (by decide)]
    |some q=>
     obtain⟨f,t⟩:=q
     have ht:=hev f t rfl
     obtain⟨k,hk⟩:∃ k,s.1.ts[t]? = some k:=⟨_,ApO ht⟩
     have:HV s.1.ts ⟨w,some (f,t),false⟩=some (k.lo,k.hi):=by
      show(if false=true then none else s.1.ts[t]?.map _)=_
      rw[hk];rfl
     simp only[Cq,Ar0,this,List.filterMap_nil]
     rw[Af,ApL (by omega),AR,Apr,DG,ApL (by omega),AU (E5 hk),AR,Apr]
     simp only[AR,ApW,Apk]
     rw[Bm (by omega)]
     simp only[ES]
     rfl)
  (by unfold EO;dsimp only;rw[AL,ApL (by omega),Ap3])
 have e':AX EO many (s.1.ts.map Ai,(g:Int),s.1.dn,BS s.1.ds,s.1.ov,(s.1.st:Int),(s.1.idl:Int),([]:List (Int×Int×Unit)),s.2.map Cq,(s.2.length:Int),(0:Int),())=_:=e
 simp only[Vq,Mw,AR,Apr,e']
def Oc(p:Nat×Nat):List Nat:=List.range' p.1 (p.2-p.1)
theorem AVl(ts:List Tsk)(E:List Evt):(E.filterMap (HV ts)).flatMap Oc=evU ts E:=by
 induction E with
 |nil=>rfl
 |cons e E ih=>
  have:evU ts (e::E)=evU ts [e]++evU ts E:=by rw[← Zf];rfl
  rw[this,← ih]
  obtain⟨w,ft,pt⟩:=e
  cases ft with
  |none=>rw[Ar0];simp[HV,evU]
  |some q=>
   obtain⟨f,t⟩:=q
   rw[Ar0]
   cases pt with
   |true=>simp[HV,evU]
   |false=>
    simp only[HV,evU,Apc,Apf,Ap7,Ash,Aqa,rng]
    cases ts[t]? with
    |none=>rfl
    |some k=>simp[Oc]
theorem AHE(a0:List EvI)(acc:List Int)(lo hi:Nat)(a4:List (Int×Int×Unit))(a5 a6:Int)(h1:lo≤hi)(h2:hi≤1000)(hacc:acc.length≤1000000):
  AX Fw many (a0,acc,(lo:Int),(hi:Int),a4,a5,a6,((hi-lo:Nat):Int),(0:Int),())=some (.inl (a0,acc++nI (List.range' lo (hi-lo)),a4,a5,a6,())):=by
 have e:=FK (step:=Fw) (fun i=>(a0,acc++nI (List.range' lo i),(lo:Int),(hi:Int),a4,a5,a6,((hi-lo:Nat):Int),(i:Int),())) (hi-lo) (.inl (a0,acc++nI (List.range' lo (hi-lo)),a4,a5,a6,())) (by omega)
  (fun i hi'=>by
   unfold Fw
   dsimp only
   rw[AL,ApM hi',wrap_add (by omega),AP (by omega),AR,AR]
   simp only[ApS,Bc,List.length_range',ApW,Apk]
   rw[Bm (by omega)]
   simp only[ES,Ap1]
   rw[List.range'_concat]
   unfold nI
   rw[AqO]
   simp)
  (by unfold Fw;dsimp only;rw[AL,ApL (by omega)])
 have:acc++nI (List.range' lo 0)=acc:=by simp[nI]
 rw[this]at e
 exact e
theorem LA(a b:Int)(picks:List (List Int)):ADu ((a,b,picks,()),())=some (decide (1≤a∧a≤100∧1≤b∧b≤8∧picks.length≤4000),()):=by
 rw[VW,Mr]
 simp only[An,AR]
 by_cases h1:1≤a
 ·by_cases h2:a≤100
  ·by_cases h3:1≤b
   ·by_cases h4:b≤8
    ·have:decide ((picks.length:Int)≤4000)=decide (picks.length≤4000):=by rw[Aqk];omega
     simp[h1,h2,h3,h4,this]
    ·simp[h1,h2,h3,h4]
   ·simp[h1,h2,h3]
  ·simp[h1,h2]
 ·simp[h1]
def FH(p:Int×Int×List (List Int)×Unit):Prop:=1≤p.1∧p.1≤100∧1≤p.2.1∧p.2.1≤8∧p.2.2.1.length≤4000
instance (p:Int×Int×List (List Int)×Unit):Decidable (FH p):=by unfold FH;exact inferInstance
theorem AYe{n:Int}{p:Int×Int×List (List Int)×Unit}(h:¬ (0≤n∧n≤1000∧FH p)):CO (n,p,())=some ([],0,1,()):=by
 rw[N4,Jx]
 by_cases h1:n<0
 ·rw[Af,ApM h1]
 ·rw[Af,ApL h1]
  by_cases h2:1000<n
  ·rw[Af,ApM h2]
  ·rw[Af,ApL h2]
   have h3:¬ FH p:=fun hp=>h ⟨by omega,by omega,hp⟩
   simp only[LA]
   rw[ApL (by unfold FH at h3;exact h3)]
   simp only[Ap5]
theorem Ms{p:Int×Int×List (List Int)×Unit}(hp:FH p):CO ((0:Int),p,())=some ([],0,0,()):=by
 rw[N4,Jx]
 rw[Af,ApL (by decide),Af,ApL (by decide)]
 simp only[LA]
 rw[ApM (by unfold FH at hp;exact hp),Ad,ApM rfl]
 simp only[ApX]
theorem AYc{n:Nat}(hn:1≤n)(hn2:n≤1000){p:Int×Int×List (List Int)×Unit}(hp:FH p):∃ (U:List Nat) (k:Nat),U.Perm (List.range n)∧1≤k∧k≤40000∧CO ((n:Int),p,())=some (nI U,(k:Int),0,()):=by
 obtain⟨a,b,picks,u⟩:=p
 obtain⟨p1,p2,p3,p4,p5⟩:=hp
 simp only at p1 p2 p3 p4 p5
 obtain⟨g,rfl⟩:=Apa (show 0≤a by omega)
 obtain⟨W,rfl⟩:=Apa (show 0≤b by omega)
 obtain⟨s,h1,h2,h3,h4⟩:=AYu (g:=g) (n:=n) (W:=W) (by omega) (by omega) hn hn2 (by omega) (by omega) p5
 have hU:=h1.done h2
 have hlen:=hU.length_eq
 rw[Apy]at hlen
 refine⟨evU s.1.ts s.2,s.2.length,hU,?_,h3,?_⟩
 ·rcases AqL s.2.length with h0|h0
  ·rw[Apq h0]at hlen
   simp[evU]at hlen
   omega
  ·exact h0
 rw[N4,Jx]
 rw[Af,ApL (by omega),Af,ApL (by omega)]
 have e0:ieq (0:Int) 0=true:=by rw[Ad];rfl
 have hlv:=ATY (g:=g) h1 h3
 simp only[Vq,Mw]at hlv h4
 simp only[LA,ApM (show 1≤(g:Int)∧(g:Int)≤100∧1≤(W:Int)∧(W:Int)≤8∧picks.length≤4000 by omega),ApX]
 rw[Ad,ApL (by omega)]
 simp only[h4,e0,ApX,hlv]
 generalize hS:s.2.filterMap (HV s.1.ts)=S
 have hfl:S.flatMap Oc=evU s.1.ts s.2:=by rw[← hS];exact AVl _ _
 have hSl:S.length≤40000:=by
  rw[← hS]
  exact AqN (List.length_filterMap_le _ _) h3
 have hsp:∀ q∈S,q.1≤q.2∧q.2≤1000:=by
  intro q hq
  rw[← hS,List.mem_filterMap]at hq
  obtain⟨e,he,hq⟩:=hq
  obtain⟨D,iv⟩:=h1.iv
  unfold HV at hq
  split at hq
  ·rename_i f t hft
   split at hq
   ·cases hq
   ·cases hk:s.1.ts[t]? with
    |none=>rw[hk]at hq;cases hq
    |some k=>
     rw[hk]at hq
     simp only[Ari,ApN]at hq
     subst hq
     have:=iv.tr.tree t k hk
     exact⟨by simp only;omega,by simp only;omega⟩
  ·cases hq
 have hpre:∀ i,i≤S.length→((S.take i).flatMap Oc).length≤1000:=by
  intro i _
  have h5:((S.take i).flatMap Oc).length≤(S.flatMap Oc).length:=by
   conv=>rhs;rw[← AqX i S,Aqj,ApS]
   omega
  rw[hfl,hlen]at h5
  omega
 have e:=FK (step:=Fx) (fun i=>(s.2.map Cq,nI ((S.take i).flatMap Oc),S.map ATO,(S.length:Int),(i:Int),())) S.length (.inl (s.2.map Cq,nI (S.flatMap Oc),())) (by omega)
  (fun i hi=>by
   unfold Fx
   dsimp only
   have hg0:=ApO hi
   obtain⟨q1,q2⟩:=hsp _ (ArD hi)
   have htk:S.take (i+1)=S.take i++[S[i]]:=by rw[Aro,hg0];rfl
   have hix:(S.map ATO)[i]? = some (ATO S[i]):=by rw[Ap0,hg0];rfl
   have hl:=hpre i (by omega)
   rw[htk,Aqj]
   generalize S[i]=q at q1 q2 hix
   obtain⟨lo,hi'⟩:=q
   simp only[AL,ApM hi,AU hix,BO hix,ATO]
   simp only at q1 q2
   rw[Ah (show -9223372036854775808≤(hi':Int)-lo∧(hi':Int)-lo≤9223372036854775807 by omega),show(hi':Int)-lo=((hi'-lo:Nat):Int) by omega]
   simp only[AHE _ _ lo hi' _ _ _ q1 q2 (show(nI ((S.take i).flatMap Oc)).length≤1000000 by rw[Bc];omega)]
   rw[AP (by omega)]
   unfold nI
   rw[AqO]
   simp[Oc])
  (by unfold Fx;dsimp only;rw[AL,ApL (by omega),Ap3])
 have e':AX Fx many (s.2.map Cq,([]:List Int),S.map ATO,(S.length:Int),(0:Int),())=_:=e
 simp only[AR,Apr,e',hfl]
end Go.Pev.Pl
end
section
namespace Go.Pev.Pl
theorem AaJ(a b:Int):IntKind.wrap .u32 (a+b)=(a+b) % 4294967296:=by rw[IntKind.wrap_u32]
def sm(xs:List Int):Int:=xs.sum % 4294967296
def ahL(xs:List Int):List Int:=(List.range xs.length).map fun i=>sm (xs.take i)
theorem AhE(xs ys:List Int):sm (xs++ys)=(sm xs+sm ys) % 4294967296:=by
 unfold sm;rw[List.sum_append,Int.add_emod]
theorem ALC(xs:List Int)(x:Int):sm (xs++[x])=(sm xs+x) % 4294967296:=by
 unfold sm;rw[List.sum_append,Int.emod_add_emod];simp
def L9{α:Type}(N:Nat)(f:Nat→α)(z:α)(i:Nat):List α:=(List.range N).map fun j=>if j<i then f j else z
theorem UK{α:Type}(N:Nat)(f:Nat→α)(z:α):L9 N f z 0=List.replicate N z:=by
 unfold L9
 apply Aru (by simp)
 intro i h1 h2
 simp
theorem ACx{α:Type}(N:Nat)(f:Nat→α)(z:α):L9 N f z N=(List.range N).map f:=by
 unfold L9
 refine Aq9 fun j hj => ?_
 rw[ApZ (Apz.1 hj)]
theorem Mg{α:Type}(N:Nat)(f:Nat→α)(z:α)(i:Nat):(L9 N f z i).length=N:=by simp[L9]
theorem ACw{α:Type}(N:Nat)(f:Nat→α)(z:α)(i j:Nat):(L9 N f z i)[j]? = if j<N then some (if j<i then f j else z)else none:=by
 unfold L9
 rw[Ap0]
 by_cases h:j<N<;>simp[h]
theorem ACv{α:Type}{N:Nat}(f:Nat→α)(z:α){i:Nat}:(L9 N f z i).set i (f i)=L9 N f z (i+1):=by
 apply AqY
 intro j
 rw[Aq2,ACw,ACw,Mg]
 by_cases h:i=j
 ·subst h
  rw[ApZ rfl,ApZ (show i<i+1 by omega)]
 ·rw[ApV h]
  by_cases hj:j<i
  ·rw[ApZ hj,ApZ (show j<i+1 by omega)]
  ·rw[ApV hj,ApV (show ¬ j<i+1 by omega)]
theorem Bk{α:Type}{xs:List α}{i:Nat}{x:α}(h:xs[i]? = some x):xs.take (i+1)=xs.take i++[x]:=by rw[Aro,h];rfl
theorem BV{α:Type}{xs:List α}{i:Nat}(h:i<xs.length):∃ x,xs[i]? = some x:=⟨_,ApO h⟩
theorem PR(xs:List Int)(hl:xs.length≤1000000):PS (xs,())=some (ahL xs,sm xs,()):=by
 rw[AII,Qz]
 have e:=FK (step:=FV) (fun i=>(L9 xs.length (fun j=>sm (xs.take j)) (0:Int) i,sm (xs.take i),xs,(xs.length:Int),(i:Int),())) xs.length (.inl (ahL xs,sm xs,())) (by omega)
  (fun i hi=>by
   obtain⟨x,hx⟩:=BV hi
   obtain⟨y,hy⟩:=BV (xs:=L9 xs.length (fun j=>sm (xs.take j)) (0:Int) i) (i:=i) (by rw[Mg];exact hi)
   rw[FV,AL,ApM hi]
   simp only[AU hx,AU hy,DZ,ACv,AaJ]
   rw[AP (by omega),Bk hx,ALC])
  (by rw[FV,AL,ApL (by omega),ACx,Ap3];rfl)
 rw[UK]at e
 have e':AX FV many (List.replicate xs.length (0:Int),(0:Int),xs,(xs.length:Int),(0:Int),())=_:=e
 simp only[AR,D2 (show xs.length≤4294967296 by omega),E7,e']
theorem Aj0{α:Type}(f:Nat→α):∀ (U:List Nat) (a:List α) (j:Nat),(U.foldl (fun a i=>a.set i (f i)) a)[j]? = if j∈U∧j<a.length then some (f j)else a[j]? := by
 intro U
 induction U with
 |nil=>intro a j;simp
 |cons u U ih=>
  intro a j
  rw[AqT,ih,Aqb]
  by_cases h1:j∈U∧j<a.length
  ·rw[ApZ h1,ApZ ⟨by simp[h1.1],h1.2⟩]
  ·rw[ApV h1,Aq2]
   by_cases h2:u=j
   ·subst h2
    rw[ApZ rfl]
    by_cases h3:u<a.length
    ·rw[ApZ h3,ApZ ⟨by simp,h3⟩]
    ·rw[ApV h3,ApV (fun h=>h3 h.2)]
     exact(Apm (by omega)).symm
   ·rw[ApV h2,ApV]
    rintro⟨h3,h4⟩
    rcases ApT.1 h3 with h|h
    ·exact h2 h.symm
    ·exact h1 ⟨h,h4⟩
theorem LB{α:Type}(f:Nat→α)(U:List Nat):∀ (a:List α),(U.foldl (fun a i=>a.set i (f i)) a).length=a.length:=by
 induction U with
 |nil=>intro a;rfl
 |cons u U ih=>intro a;rw[AqT,ih,Aqb]
theorem ATB{α:Type}{f:Nat→α}{U:List Nat}{N:Nat}(hU:∀ j,j<N→j∈U)(z:α):U.foldl (fun a i=>a.set i (f i)) (List.replicate N z)=(List.range N).map f:=by
 apply AqY
 intro j
 rw[Aj0,AqD]
 by_cases h:j<N
 ·rw[ApZ ⟨hU j h,h⟩];simp[h]
 ·rw[ApV fun x=>h x.2];simp[h]
def nbl(n b:Nat):Nat:=(n+b-1)/b
theorem AC5{n b i:Nat}(hb:1≤b):i<nbl n b↔i*b<n:=by
 unfold nbl
 rw[Nat.lt_div_iff_mul_lt (by omega)]
 omega
theorem AC6{n b:Nat}(hb:1≤b):nbl n b≤n:=by
 rcases AqL n with h|h
 ·subst h;unfold nbl;rw[Nat.div_eq_of_lt (by omega)];exact ApY _
 ·have:¬ n<nbl n b:=by
   rw[AC5 hb]
   have:n*1≤n*b:=Nat.mul_le_mul_left n hb
   omega
  omega
theorem Th(b:Int):Td (b,())=some (decide (1≤b∧b≤100),()):=by
 rw[AH3,Qs,An]
 by_cases h1:1≤b
 ·rw[ApM h1,An];simp[h1]
 ·rw[ApL h1];simp[h1]
theorem XT{n b:Nat}(hn:n≤1000)(hb:1≤b)(hb2:b≤100):Qw ((n:Int),(b:Int),())=some ((nbl n b:Int),()):=by
 rw[AA1,No]
 rw[Af,ApL (by omega),Af,ApL (by omega)]
 simp only[Th,ApM (show 1≤(b:Int)∧(b:Int)≤100 by omega),ApX]
 rw[wrap_add (by omega),BA (by omega),Pb,Q9,ApV (by omega),← Int.ofNat_tdiv]
 have:(n+b-1)/b≤2000:=AqN (Nat.div_le_self _ _) (by omega)
 unfold nbl
 generalize (n+b-1)/b=q at this
 rw[Ah (by omega)]
def blk(xs:List Int)(b i:Nat):List Int:=(xs.take (min xs.length ((i+1)*b))).drop (i*b)
theorem AH4{xs:List Int}{b i:Nat}(hl:xs.length≤1000)(hb2:b≤100)(hi:i*b≤xs.length)(hi2:i≤1000):AH5 (xs,(i:Int),(b:Int),())=some (blk xs b i,()):=by
 rw[AP3,ZQ]
 have h1:i*b≤100000:=Aq7 hi2 hb2
 have h2:(i+1)*b=i*b+b:=AsH i b
 have e1:IntKind.wrap .i64 ((i:Int)*(b:Int))=((i*b:Nat):Int):=by rw[← ArK,Ah (by omega)]
 have e2:IntKind.wrap .i64 (IntKind.wrap .i64 ((i:Int)+1)*(b:Int))=(((i+1)*b:Nat):Int):=by
  rw[AP (by omega),← ArK,Ah (by omega)]
 have e3:B4 (xs.length:Int) (((i+1)*b:Nat):Int)=((min xs.length ((i+1)*b):Nat):Int):=by
  unfold B4;split<;>omega
 simp only[AR,e1,e2,e3]
 rw[AKx (by omega) (Nat.min_le_left ..)]
 rfl
theorem AUP{xs:List Int}{b i k:Nat}(hk:i*b+k≤(i+1)*b):xs.take (i*b+k)=xs.take (i*b)++(blk xs b i).take k:=by
 rw[List.take_add]
 congr 1
 unfold blk
 apply AqY
 intro j
 simp only[AqK,AqR]
 by_cases hj:j<k
 ·rw[ApZ hj,ApZ hj]
  by_cases h:i*b+j<min xs.length ((i+1)*b)
  ·rw[ApZ h]
  ·rw[ApV h]
   exact Apm (by omega)
 ·rw[ApV hj,ApV hj]
theorem SD{xs:List Int}{b i:Nat}:(blk xs b i).length=min xs.length ((i+1)*b)-i*b:=by
 unfold blk;rw[AqS,Api];omega
theorem Alk{xs:List Int}{b i:Nat}:sm (xs.take ((i+1)*b))=(sm (xs.take (i*b))+sm (blk xs b i)) % 4294967296:=by
 have h2:(i+1)*b=i*b+b:=AsH i b
 have h:=AUP (xs:=xs) (b:=b) (i:=i) (k:=b) (by omega)
 rw[← h2]at h
 rw[h,AhE]
 congr 2
 rw[AqJ (by rw[SD];omega)]
theorem XJ(xs:List Int)(b N:Nat):∀ i,i≤N→sm (((List.range N).map fun i=>sm (blk xs b i)).take i)=sm (xs.take (i*b)):=by
 intro i
 induction i with
 |zero=>intro _;simp
 |succ i ih=>
  intro hi
  rw[Bk (x:=sm (blk xs b i)) (by rw[Ap0,Aqs (by omega)];rfl),ALC,ih (by omega),Alk]
theorem AMS{l:List Nat}{i x:Nat}(h:l[i]? = some x):idx (nI l) (i:Int)=some (x:Int)∧AY (nI l) (AN (i:Int)) (0:Int)=(x:Int):=⟨AU (DU h),BO (DU h)⟩
section
variable {xs:List Int} {b:Nat} (hl:xs.length≤1000) (hb:1≤b) (hb2:b≤100)
include hl hb hb2
theorem ApE{U:List Nat}{N:Nat}(hN:N=nbl xs.length b)(hU:U.Perm (List.range N))(k:Int):
  AX EI many (xs,(b:Int),k,nI U,List.replicate N (0:Int),(U.length:Int),(0:Int),())=some (.inl (xs,(b:Int),k,nI U,(List.range N).map (fun i=>sm (blk xs b i)),())):=by
 have hNl:N≤1000:=by rw[hN];exact AqN (AC6 hb) hl
 have hUl:=hU.length_eq
 rw[Apy]at hUl
 have e:=FK (step:=EI) (fun i=>(xs,(b:Int),k,nI U,(U.take i).foldl (fun a i=>a.set i (sm (blk xs b i))) (List.replicate N (0:Int)),(U.length:Int),(i:Int),())) U.length (.inl (xs,(b:Int),k,nI U,(List.range N).map (fun i=>sm (blk xs b i)),())) (by omega)
  (fun i hi=>by
   obtain⟨u,hu⟩:=BV hi
   have huN:u<N:=Apz.1 (hU.mem_iff.1 (Apb hu))
   have hub:u*b<xs.length:=(AC5 hb).1 (hN▸huN)
   obtain⟨h1,h2⟩:=AMS hu
   obtain⟨y,hy⟩:=BV (xs:=(U.take i).foldl (fun a i=>a.set i (sm (blk xs b i))) (List.replicate N (0:Int))) (i:=u) (by rw[LB,AqD];exact huN)
   have hbl:(blk xs b u).length≤1000000:=by rw[SD];omega
   rw[EI,AL,ApM hi]
   simp only[h1,h2,AH4 hl hb2 (AsG hub) (by omega),PR _ hbl,AU hy,DZ]
   rw[AP (by omega),Bk hu,ArI]
   rfl)
  (by
   rw[EI,AL,ApL (by omega),Ap3,ATB fun j hj=>hU.mem_iff.2 (Apz.2 hj)])
 exact e
theorem ApC{i N:Nat}(hi:i<N)(hib:i*b<xs.length)(hN:N≤1000)(out:List Int)(ho:out.length=xs.length)(tot k:Int)(nu:List Int)(j9 j10:Int):
  AX EG many (xs,(b:Int),out,tot,k,(List.range N).map (fun i=>sm (xs.take (i*b))),(i:Int),nu,j9,j10,ahL (blk xs b i),((blk xs b i).length:Int),(0:Int),()) =
   some (.inl (xs,(b:Int),(List.range' (i*b) (blk xs b i).length).foldl (fun a p=>a.set p (sm (xs.take p))) out,tot,k,(List.range N).map (fun i=>sm (xs.take (i*b))),nu,j9,j10,())):=by
 have h2:(i+1)*b=i*b+b:=AsH i b
 have hbl:=SD (xs:=xs) (b:=b) (i:=i)
 have hal:(ahL (blk xs b i)).length=(blk xs b i).length:=by simp[ahL]
 have hbase:((List.range N).map (fun i=>sm (xs.take (i*b))))[i]? = some (sm (xs.take (i*b))):=by rw[Ap0,Aqs hi];rfl
 have e:=FK (step:=EG) (fun j=>(xs,(b:Int),(List.range' (i*b) j).foldl (fun a p=>a.set p (sm (xs.take p))) out,tot,k,(List.range N).map (fun i=>sm (xs.take (i*b))),(i:Int),nu,j9,j10,ahL (blk xs b i),((blk xs b i).length:Int),(j:Int),())) (blk xs b i).length
  (.inl (xs,(b:Int),(List.range' (i*b) (blk xs b i).length).foldl (fun a p=>a.set p (sm (xs.take p))) out,tot,k,(List.range N).map (fun i=>sm (xs.take (i*b))),nu,j9,j10,())) (by omega)
  (fun j hj=>by
   have hw:(ahL (blk xs b i))[j]? = some (sm ((blk xs b i).take j)):=by
    unfold ahL
    rw[Ap0,Aqs hj];rfl
   have e1:IntKind.wrap .i64 (IntKind.wrap .i64 ((i:Int)*(b:Int))+(j:Int))=((i*b+j:Nat):Int):=by
    have h3:IntKind.wrap .i64 ((i:Int)*(b:Int))=((i*b:Nat):Int):=by rw[← ArK,Ah (by omega)]
    rw[h3,wrap_add (by omega)]
   obtain⟨y,hy⟩:=BV (xs:=(List.range' (i*b) j).foldl (fun a p=>a.set p (sm (xs.take p))) out) (i:=i*b+j) (by rw[LB,ho];omega)
   have e2:IntKind.wrap .u32 (sm (xs.take (i*b))+sm ((blk xs b i).take j))=sm (xs.take (i*b+j)):=by
    rw[AaJ,AUP (by omega),AhE]
   rw[EG,AL,ApM hj]
   simp only[AU hw,BO hw,AU hbase,BO hbase,e1,AU hy,DZ,e2]
   rw[AP (by omega),List.range'_concat,ArI]
   simp)
  (by rw[EG,AL,ApL (by omega)])
 exact e
theorem ApD{U:List Nat}{N:Nat}(hN:N=nbl xs.length b)(hU:U.Perm (List.range N))(tot k:Int):
  AX EH many (xs,(b:Int),List.replicate xs.length (0:Int),tot,k,(List.range N).map (fun i=>sm (xs.take (i*b))),nI U,(U.length:Int),(0:Int),())=some (.inl (ahL xs,tot,k,())):=by
 have hNl:N≤1000:=by rw[hN];exact AqN (AC6 hb) hl
 have hUl:=hU.length_eq
 rw[Apy]at hUl
 have e:=FK (step:=EH) (fun i=>(xs,(b:Int),((U.take i).flatMap fun i=>List.range' (i*b) (blk xs b i).length).foldl (fun a p=>a.set p (sm (xs.take p))) (List.replicate xs.length (0:Int)),tot,k,(List.range N).map (fun i=>sm (xs.take (i*b))),nI U,(U.length:Int),(i:Int),())) U.length (.inl (ahL xs,tot,k,())) (by omega)
  (fun i hi=>by
   obtain⟨u,hu⟩:=BV hi
   have huN:u<N:=Apz.1 (hU.mem_iff.1 (Apb hu))
   have hub:u*b<xs.length:=(AC5 hb).1 (hN▸huN)
   obtain⟨h1,h2⟩:=AMS hu
   have hbl:(blk xs b u).length≤1000000:=by rw[SD];omega
   have hal:(ahL (blk xs b u)).length=(blk xs b u).length:=by simp[ahL]
   rw[EH,AL,ApM hi]
   simp only[h1,h2,AH4 hl hb2 (AsG hub) (by omega),PR _ hbl,AR,hal]
   have hin:=ApC hl hb hb2 huN hub hNl (((U.take i).flatMap fun i=>List.range' (i*b) (blk xs b i).length).foldl (fun a p=>a.set p (sm (xs.take p))) (List.replicate xs.length (0:Int))) (by rw[LB,AqD]) tot k (nI U) (U.length:Int) (i:Int)
   simp only[hin]
   rw[AP (by omega),Bk hu,Aqj,ArI]
   simp)
  (by
   rw[EH,AL,ApL (by omega),Ap3]
   have:∀ j,j<xs.length→j∈U.flatMap fun i=>List.range' (i*b) (blk xs b i).length:=by
    intro j hj
    have h1:j/b*b≤j:=Nat.div_mul_le_self j b
    have h2:j<(j/b+1)*b:=by
     rw[AsH]
     have h3:j/b*b+j % b=j:=by rw[Nat.mul_comm];exact Nat.div_add_mod j b
     have:=Ar6 j (show 0<b by omega)
     omega
    refine ArT.2 ⟨j/b,hU.mem_iff.2 (Apz.2 (by rw[hN,AC5 hb];omega)),?_⟩
    rw[Asd,SD]
    omega
   rw[ATB (f:=fun p=>sm (xs.take p)) this]
   rfl)
 exact e
theorem AH2{p:Int×Int×List (List Int)×Unit}{U:List Nat}{k:Nat}(hk:k≤40000)(hU:U.Perm (List.range (nbl xs.length b)))(hf:CO ((nbl xs.length b:Int),p,())=some (nI U,(k:Int),0,())):
  XQ (xs,(b:Int),p,())=some (ahL xs,sm xs,((2*k:Nat):Int),0,()):=by
 have hNl:nbl xs.length b≤1000:=AqN (AC6 hb) hl
 have e0:ieq (0:Int) 0=true:=by rw[Ad];rfl
 obtain⟨a,c,q,u⟩:=p
 rw[AAq,Qr]
 have:Nn (xs,(b:Int),(a,c,q,()),())=some (ahL xs,sm xs,((2*k:Nat):Int),0,()):=by
  rw[PK,JY]
  simp only[Th,ApM (show 1≤(b:Int)∧(b:Int)≤100 by omega),ApX,AR]
  rw[Af,ApL (by omega)]
  have hs0:=ApE hl hb hb2 rfl hU (k:Int)
  simp only[XT hl hb hb2,hf,e0,ApX,D2 (show nbl xs.length b≤4294967296 by omega),E7,Bc,hs0]
  have ht:((List.range (nbl xs.length b)).map fun i=>sm (blk xs b i)).length≤1000000:=by simp;omega
  have hat:ahL ((List.range (nbl xs.length b)).map fun i=>sm (blk xs b i))=(List.range (nbl xs.length b)).map fun i=>sm (xs.take (i*b)):=by
   unfold ahL
   rw[Apr,Apy]
   refine Aq9 fun i hi=>XJ xs b _ i (AsG (Apz.1 hi))
  have hst:sm ((List.range (nbl xs.length b)).map fun i=>sm (blk xs b i))=sm xs:=by
   have:=XJ xs b (nbl xs.length b) (nbl xs.length b) (ApY _)
   rw[AqJ (by simp)]at this
   rw[this,AqJ]
   have:=(AC5 (n:=xs.length) (i:=nbl xs.length b) hb)
   omega
  simp only[PR _ ht,hat,hst,D2 (show xs.length≤4294967296 by omega)]
  simp only[ApD hl hb hb2 rfl hU (sm xs) (k:Int)]
  rw[show((2:Int)*(k:Int))=((2*k:Nat):Int) by omega,Ah (by omega)]
 simp only[this]
end
theorem Aca{xs:List Int}{b:Int}{p:Int×Int×List (List Int)×Unit}(h:¬ (1≤b∧b≤100∧xs.length≤1000∧FH p)):XQ (xs,b,p,())=some ([],0,0,1,()):=by
 obtain⟨a,c,q,u⟩:=p
 rw[AAq,Qr]
 have:Nn (xs,b,(a,c,q,()),())=some ([],0,0,1,()):=by
  rw[PK,JY]
  simp only[Th,AR]
  by_cases h1:1≤b∧b≤100
  ·rw[ApM h1]
   simp only[ApX]
   by_cases h2:xs.length≤1000
   ·rw[Af,ApL (by omega)]
    obtain⟨b,rfl⟩:=Apa (show 0≤b by omega)
    have h3:¬ FH (a,c,q,()):=fun hp=>h ⟨h1.1,h1.2,h2,hp⟩
    have hf:CO ((nbl xs.length b:Int),(a,c,q,()),())=some ([],0,1,()):=AYe fun hx=>h3 hx.2.2
    have e1:ieq (1:Int) 0=false:=by rw[Ad];rfl
    simp only[XT (b:=b) h2 (by omega) (by omega),hf,e1,Ap5]
   ·rw[Af,ApM (by omega)]
  ·rw[ApL h1]
   simp only[Ap5]
 simp only[this]
end Go.Pev.Pl
end
section
namespace Go.Pev.Pl
theorem ADz{n:Nat}(hn2:n≤1000){p:Int×Int×List (List Int)×Unit}(hp:FH p):∃ (U:List Nat) (k:Nat),U.Perm (List.range n)∧(1≤n→1≤k)∧k≤40000∧CO ((n:Int),p,())=some (nI U,(k:Int),0,()):=by
 rcases AqL n with h|h
 ·subst h
  exact⟨[],0,by simp,fun h=>by omega,by omega,Ms hp⟩
 ·obtain⟨U,k,h1,h2,h3,h4⟩:=AYc h hn2 hp
  exact⟨U,k,h1,fun _=>h2,h3,h4⟩
def Jk(keep:List Bool):List Int:=keep.map fun b=>if b then 1 else 0
theorem AWd(keep:List Bool)(hl:keep.length≤1000000):AB2 (keep,false,())=some (Jk keep,()):=by
 rw[AIX,RC]
 have e:=FK (step:=FZ) (fun i=>(false,L9 keep.length (fun j=>if keep.getD j false then(1:Int)else 0) (0:Int) i,keep,(keep.length:Int),(i:Int),())) keep.length (.inl (Jk keep,())) (by omega)
  (fun i hi=>by
   obtain⟨x,hx⟩:=BV hi
   obtain⟨y,hy⟩:=BV (xs:=L9 keep.length (fun j=>if keep.getD j false then(1:Int)else 0) (0:Int) i) (i:=i) (by rw[Mg];exact hi)
   have hg:keep.getD i false=x:=by rw[ApP,hx];rfl
   rw[FZ,AL,ApM hi]
   simp only[AU hx,AU hy,DZ]
   rw[AP (by omega),← ACv]
   cases x with
   |true=>simp only[hg,Ap6];rfl
   |false=>
    simp only[hg,Apc,Apf]
    have:(L9 keep.length (fun j=>if keep.getD j false then(1:Int)else 0) (0:Int) i).set i 0=L9 keep.length (fun j=>if keep.getD j false then(1:Int)else 0) (0:Int) i:=by
     apply AqY
     intro j
     rw[Aq2]
     by_cases h:i=j
     ·subst h
      rw[ApZ rfl,Mg,ApZ hi,ACw,ApZ hi,ApV (by omega)]
     ·rw[ApV h]
    rw[this]
    rfl)
  (by
   rw[FZ,AL,ApL (by omega),ACx]
   have:(List.range keep.length).map (fun j=>if keep.getD j false then(1:Int)else 0)=Jk keep:=by
    apply AqY
    intro j
    unfold Jk
    rw[Ap0,Ap0]
    by_cases h:j<keep.length
    ·rw[Aqs h,ApO h]
     simp[ApP,ApO h]
    ·rw[Apm (by simpa using h),Apm (by omega)];rfl
   rw[this])
 rw[UK]at e
 have e':AX FZ many (false,List.replicate keep.length (0:Int),keep,(keep.length:Int),(0:Int),())=_:=e
 simp only[AR,D2 (show keep.length≤4294967296 by omega),E7,e']
def kept(keep:List Bool)(n:Nat):List Nat:=(List.range n).filter fun i=>keep.getD i false
theorem VJ(keep:List Bool)(n:Nat):kept keep (n+1)=kept keep n++(if keep.getD n false then [n]else []):=by
 unfold kept
 rw[AqG,Aqh]
 congr 1
 simp[Aqc]
theorem Zc(keep:List Bool):∀ n,(kept keep n).length≤n:=fun n=>by
 have:=ArY (fun i=>keep.getD i false) (List.range n)
 simpa [kept]using this
theorem RP(keep:List Bool){i n:Nat}(h:i<n)(hk:keep.getD i false=true):(kept keep n)[(kept keep i).length]? = some i:=by
 have:∀ d,∃ r,kept keep (i+1+d)=kept keep i++i::r:=by
  intro d
  induction d with
  |zero=>exact⟨[],by rw[Aqp,VJ,hk];rfl⟩
  |succ d ih=>
   obtain⟨r,hr⟩:=ih
   exact⟨r++(if keep.getD (i+1+d) false then [i+1+d]else []),by rw[← ArQ,VJ,hr];simp⟩
 obtain⟨r,hr⟩:=this (n-(i+1))
 rw[show i+1+(n-(i+1))=n by omega]at hr
 rw[hr,Apx (ApY _),Arb]
 rfl
theorem AaW{keep:List Bool}(hl:keep.length≤1000000):∀ i,i≤keep.length→sm ((Jk keep).take i)=((kept keep i).length:Int):=by
 intro i
 induction i with
 |zero=>intro _;simp[kept,sm]
 |succ i ih=>
  intro hi
  obtain⟨x,hx⟩:=BV (show i<keep.length by omega)
  have hg:keep.getD i false=x:=by rw[ApP,hx];rfl
  have hm:(Jk keep)[i]? = some (if x then 1 else 0):=by unfold Jk;rw[Ap0,hx];rfl
  have:=Zc keep i
  rw[Bk hm,ALC,ih (by omega),VJ,ApS,hg]
  cases x<;>simp<;>omega
theorem ATA{α:Type}{g:Nat→Nat}{v:Nat→α}:∀ (U:List Nat) (a:List α),U.Nodup→(∀ i∈U,∀ j∈U,g i=g j→i=j)→∀ i∈U,g i<a.length→(U.foldl (fun a i=>a.set (g i) (v i)) a)[g i]? = some (v i):=by
 intro U
 induction U with
 |nil=>intro a _ _ i hi;cases hi
 |cons u U ih=>
  intro a hn hinj i hi hl
  rw[AqT]
  rw[Apw]at hn
  rcases ApT.1 hi with rfl|hi
  ·have:∀ (V:List Nat) (a:List α),(∀ j∈V,g j≠g i)→(V.foldl (fun a i=>a.set (g i) (v i)) a)[g i]? = a[g i]? := by
    intro V
    induction V with
    |nil=>intro a _;rfl
    |cons x V ih2=>
     intro a h
     rw[AqT,ih2 _ fun j hj=>h j (by simp[hj]),AqU (h x (by simp))]
   rw[this U _ fun j hj he=>hn.1 ((hinj j (by simp[hj]) i (by simp) he)▸hj),ArO hl]
  ·exact ih _ hn.2 (fun i hi j hj=>hinj i (by simp[hi]) j (by simp[hj])) i hi (by simpa using hl)
theorem HB{α:Type}(g:Nat→Nat)(v:Nat→α)(U:List Nat):∀ (a:List α),(U.foldl (fun a i=>a.set (g i) (v i)) a).length=a.length:=by
 induction U with
 |nil=>intro a;rfl
 |cons u U ih=>intro a;rw[AqT,ih,Aqb]
theorem AjL{keep:List Bool}{i j:Nat}(hi:keep.getD i false=true)(hj:keep.getD j false=true)(h:(kept keep i).length=(kept keep j).length):i=j:=by
 have h1:=RP keep (n:=i+j+1) (i:=i) (by omega) hi
 have h2:=RP keep (n:=i+j+1) (i:=j) (by omega) hj
 rw[h,h2]at h1
 exact(AqP h1).symm
theorem Ah7{keep:List Bool}{U:List Nat}(hU:U.Perm (List.range keep.length)):
  ((U.filter fun i=>keep.getD i false).foldl (fun a i=>a.set (kept keep i).length (i:Int)) (List.replicate (kept keep keep.length).length (0:Int)))=nI (kept keep keep.length):=by
 have hput:=ATA (g:=fun i=>(kept keep i).length) (v:=fun i:Nat=>(i:Int)) (U.filter fun i=>keep.getD i false) (List.replicate (kept keep keep.length).length (0:Int))
  ((hU.nodup_iff.2 Aqz).filter _) (fun i hi j hj h=>AjL (Apg.1 hi).2 (Apg.1 hj).2 h)
 apply AqY
 intro j
 by_cases hj:j<(kept keep keep.length).length
 ·obtain⟨i,hi⟩:=BV hj
  have hm:=Apb hi
  have hm':=Apg.1 hm
  have hlt:i<keep.length:=Apz.1 hm'.1
  have hp:=RP keep hlt hm'.2
  have hjj:(kept keep i).length=j:=by
   have hnd:(kept keep keep.length).Nodup:=List.nodup_range.filter _
   exact(AsB (Bd hp) hnd).1 (hp.trans hi.symm)
  have:=hput i (Apg.2 ⟨hU.mem_iff.2 hm'.1,hm'.2⟩) (by rw[AqD,hjj];exact hj)
  simp only[hjj]at this
  rw[this,DU hi]
 ·rw[Apm (by rw[HB,AqD];omega),Apm (by rw[Bc];omega)]
theorem AQw{keep:List Bool}{b:Nat}(hl:keep.length≤1000)(hb:1≤b)(hb2:b≤100){p:Int×Int×List (List Int)×Unit}{U V:List Nat}{k m:Nat}(hk:k≤40000)(hm:m≤40000)
  (hU:U.Perm (List.range (nbl keep.length b))) (hf:CO ((nbl keep.length b:Int),p,())=some (nI U,(k:Int),0,())) (hV:V.Perm (List.range keep.length)) (hf2:CO ((keep.length:Int),p,())=some (nI V,(m:Int),0,())) :
  RB (Jk keep,(b:Int),p,())=some (nI (kept keep keep.length),((2*k+m:Nat):Int),0,()):=by
 have e0:ieq (0:Int) 0=true:=by rw[Ad];rfl
 have hml:(Jk keep).length=keep.length:=by simp[Jk]
 have hkl:=Zc keep keep.length
 have hVl:=hV.length_eq
 rw[Apy]at hVl
 have hs:=AH2 (xs:=Jk keep) (b:=b) (by rw[hml];exact hl) hb hb2 (p:=p) (U:=U) hk (by rw[hml];exact hU) (by rw[hml];exact hf)
 have htot:sm (Jk keep)=((kept keep keep.length).length:Int):=by
  have:=AaW (keep:=keep) (by omega) keep.length (ApY _)
  rw[AqJ (by rw[hml];exact ApY _)]at this
  exact this
 rw[htot]at hs
 obtain⟨a,c,q,u⟩:=p
 rw[ABw,Nt]
 simp only[hs,e0,ApX,AR,hml,hf2,D2 (show(kept keep keep.length).length≤4294967296 by omega),E7,Bc]
 have e:=FK (step:=EM) (fun i=>(Jk keep,ahL (Jk keep),((2*k:Nat):Int),(m:Int),((V.take i).filter fun i=>keep.getD i false).foldl (fun a i=>a.set (kept keep i).length (i:Int)) (List.replicate (kept keep keep.length).length (0:Int)),nI V,(V.length:Int),(i:Int),())) V.length
  (.inl (((2*k:Nat):Int),(m:Int),nI (kept keep keep.length),())) (by omega)
  (fun i hi=>by
   obtain⟨v,hv⟩:=BV hi
   have hvN:v<keep.length:=Apz.1 (hV.mem_iff.1 (Apb hv))
   obtain⟨h1,h2⟩:=AMS hv
   obtain⟨x,hx⟩:=BV hvN
   have hg:keep.getD v false=x:=by rw[ApP,hx];rfl
   have hmv:(Jk keep)[v]? = some (if x then 1 else 0):=by unfold Jk;rw[Ap0,hx];rfl
   have hav:(ahL (Jk keep))[v]? = some ((kept keep v).length:Int):=by
    unfold ahL
    rw[Ap0,Aqs (by rw[hml];exact hvN)]
    show some (sm ((Jk keep).take v))=_
    rw[AaW (by omega) v (AsG hvN)]
   rw[EM,AL,ApM hi]
   simp only[h1,h2,AU hmv]
   rw[AP (by omega),Bk hv,Aqh,ArI]
   cases x with
   |true=>
    have hlt:(kept keep v).length<(kept keep keep.length).length:=Bd (RP keep hvN hg)
    obtain⟨y,hy⟩:=BV (xs:=((V.take i).filter fun i=>keep.getD i false).foldl (fun a i=>a.set (kept keep i).length (i:Int)) (List.replicate (kept keep keep.length).length (0:Int))) (i:=(kept keep v).length) (by
     rw[HB (fun i=>(kept keep i).length) (fun i:Nat=>(i:Int)),AqD];exact hlt)
    have e1:ieq (1:Int) 1=true:=by rw[Ad];rfl
    simp only[Ap6,e1,AU hav,BO hav,AU hy,DZ,Aqc,hg]
    rfl
   |false=>
    have e1:ieq (0:Int) 1=false:=by rw[Ad];rfl
    simp only[Apc,Apf,e1,Aqc,hg]
    rfl)
  (by rw[EM,AL,ApL (by omega),Ap3,Ah7 hV])
 have e':AX EM many (Jk keep,ahL (Jk keep),((2*k:Nat):Int),(m:Int),List.replicate (kept keep keep.length).length (0:Int),nI V,(V.length:Int),(0:Int),())=_:=e
 simp only[e']
 rw[wrap_add (by omega)]
theorem AWY{keep:List Bool}{b:Nat}(hl:keep.length≤1000)(hb:1≤b)(hb2:b≤100){p:Int×Int×List (List Int)×Unit}{U V:List Nat}{k m:Nat}(hk:k≤40000)(hm:m≤40000)
  (hU:U.Perm (List.range (nbl keep.length b))) (hf:CO ((nbl keep.length b:Int),p,())=some (nI U,(k:Int),0,())) (hV:V.Perm (List.range keep.length)) (hf2:CO ((keep.length:Int),p,())=some (nI V,(m:Int),0,())) :
  ABr (keep,(b:Int),p,())=some (nI (kept keep keep.length),((2*k+m:Nat):Int),0,()):=by
 have h:=AQw hl hb hb2 hk hm hU hf hV hf2
 obtain⟨a,c,q,u⟩:=p
 rw[AIR,RA]
 simp only[AWd keep (by omega),h]
end Go.Pev.Pl
end
section
namespace Go.Pev.Pl
def bkt(d:Nat→Nat)(l:List Nat)(v:Nat):List Nat:=l.filter fun i=>d i==v
def Ej(d:Nat→Nat)(B:Nat)(l:List Nat):List Nat:=(List.range B).flatMap (bkt d l)
def Dy(d:Nat→Nat)(l:List Nat)(v:Nat):Nat:=(Ej d v l).length
theorem LM(d:Nat→Nat)(B:Nat)(l:List Nat):Ej d (B+1) l=Ej d B l++bkt d l B:=by
 unfold Ej
 rw[AqG,Aqj]
 simp
theorem AUJ(d:Nat→Nat)(l:List Nat)(v:Nat):Dy d l (v+1)=Dy d l v+(bkt d l v).length:=by
 unfold Dy;rw[LM,ApS]
theorem AEn(d:Nat→Nat)(l:List Nat):∀ B,(Ej d B l).Perm (l.filter fun i=>decide (d i<B)):=by
 intro B
 induction B with
 |zero=>
  have:l.filter (fun i=>decide (d i<0))=[]:=List.filter_eq_nil_iff.2 fun a _=>by simp
  rw[this];exact AsY _
 |succ B ih=>
  rw[LM]
  have h:=List.filter_append_perm (fun i=>decide (d i<B)) (l.filter fun i=>decide (d i<B+1))
  refine List.Perm.trans ?_ h
  have e1:(l.filter fun i=>decide (d i<B+1)).filter (fun i=>decide (d i<B))=l.filter fun i=>decide (d i<B):=by
   rw[List.filter_filter]
   refine Arm fun x _ => ?_
   rw[Aqo];simp;omega
  have e2:(l.filter fun i=>decide (d i<B+1)).filter (fun i => !decide (d i<B))=bkt d l B:=by
   unfold bkt
   rw[List.filter_filter]
   refine Arm fun x _ => ?_
   rw[Aqo];simp;omega
  rw[e1,e2]
  exact ih.append_right _
theorem YE{d:Nat→Nat}{B:Nat}{l:List Nat}(h:∀ i∈l,d i<B):(Ej d B l).Perm l:=by
 have:=AEn d l B
 rw[Arz.2 fun a ha=>ApM (h a ha)]at this
 exact this
def OW(d:Nat→Nat)(l:List Nat)(t:Nat):Nat:=Dy d l (d (l.getD t 0))+(bkt d (l.take t) (d (l.getD t 0))).length
theorem ATl(d:Nat→Nat)(l:List Nat){v B:Nat}(h:v<B):∃ r,Ej d B l=Ej d v l++(bkt d l v++r):=by
 have:∀ k,∃ r,Ej d (v+1+k) l=Ej d v l++(bkt d l v++r):=by
  intro k
  induction k with
  |zero=>exact⟨[],by rw[Aqp,LM];simp⟩
  |succ k ih=>
   obtain⟨r,hr⟩:=ih
   exact⟨r++bkt d l (v+1+k),by rw[← ArQ,LM,hr];simp⟩
 have:=this (B-(v+1))
 rw[show v+1+(B-(v+1))=B by omega]at this
 exact this
theorem ATm{d:Nat→Nat}{B:Nat}{l:List Nat}(h:∀ i∈l,d i<B){t x:Nat}(ht:l[t]? = some x):(Ej d B l)[OW d l t]? = some x:=by
 have hx:=h x (Apb ht)
 have hg:l.getD t 0=x:=by rw[ApP,ht];rfl
 obtain⟨r,hr⟩:=ATl d l hx
 unfold OW
 rw[hg,hr,Apx (by unfold Dy;omega)]
 unfold Dy
 rw[Asa]
 have hb:bkt d l (d x)=bkt d (l.take t) (d x)++x::bkt d (l.drop (t+1)) (d x):=by
  have e:l=l.take t++x::l.drop (t+1):=by
   obtain⟨hl,rfl⟩:=Apd.1 ht
   rw[← AqF hl,AqX]
  unfold bkt
  conv=>lhs;rw[e]
  rw[Aqh,Aqc]
  simp
 rw[hb,Ap1,Apx (ApY _),Arb]
 rfl
theorem ANy{k:Nat→Nat}{m b B:Nat}{l:List Nat}(hB:B=2 ^ b)(h:l.Pairwise fun i j=>k i % 2 ^ m≤k j % 2 ^ m):
  (Ej (fun i=>k i/2 ^ m % B) B l).Pairwise fun i j=>k i % 2 ^ (m+b)≤k j % 2 ^ (m+b):=by
 have key:∀ i,k i % 2 ^ (m+b)=2 ^ m*(k i/2 ^ m % B)+k i % 2 ^ m:=by
  intro i
  rw[Nat.pow_add,Nat.mod_mul,hB]
  omega
 unfold Ej
 rw[List.pairwise_flatMap]
 constructor
 ·intro v _
  unfold bkt
  have:=h.filter (fun i=>k i/2 ^ m % B==v)
  refine this.imp_of_mem fun {i j} hi hj hij => ?_
  have h1:k i/2 ^ m % B=v:=by simpa using (Apg.1 hi).2
  have h2:k j/2 ^ m % B=v:=by simpa using (Apg.1 hj).2
  rw[key,key,h1,h2];omega
 ·refine List.pairwise_lt_range.imp fun {v w} hvw i hi j hj => ?_
  have h1:k i/2 ^ m % B=v:=by simpa using (Apg.1 hi).2
  have h2:k j/2 ^ m % B=w:=by simpa using (Apg.1 hj).2
  rw[key,key,h1,h2]
  have h3:=Ar6 (k i) (AsV m)
  have h4:2 ^ m*(v+1)≤2 ^ m*w:=Nat.mul_le_mul_left _ hvw
  rw[Nat.mul_succ]at h4
  omega
def ABP(k:Nat→Nat)(b:Nat)(l:List Nat):Nat→List Nat
 |0=>l
 |p+1=>Ej (fun i=>k i/2 ^ (p*b) % 2 ^ b) (2 ^ b) (ABP k b l p)
theorem AIK(k:Nat→Nat)(b:Nat)(l:List Nat):∀ p,(ABP k b l p).Perm l∧(ABP k b l p).Pairwise fun i j=>k i % 2 ^ (p*b)≤k j % 2 ^ (p*b):=by
 intro p
 induction p with
 |zero=>
  refine⟨AsY _,?_⟩
  simp only[Ara,Nat.pow_zero,Nat.mod_one]
  exact List.pairwise_of_forall fun _ _=>ApY _
 |succ p ih=>
  refine⟨(YE fun i _=>Ar6 _ (AsV b)).trans ih.1,?_⟩
  rw[AsH]
  exact ANy rfl ih.2
def P5(s:List Int):List Bool:=(List.range s.length).map fun i=>decide (i=0)||decide (s.getD (i-1) 0≠s.getD i 0)
end Go.Pev.Pl
end
section
namespace Go.Pev.Pl
def nps(b:Nat):Nat:=(32+b-1)/b
theorem Ai2{b p:Nat}(hb:1≤b):p<nps b↔p*b<32:=by
 unfold nps
 rw[Nat.lt_div_iff_mul_lt (by omega)]
 omega
theorem AMO{b:Nat}:nps b≤47:=by
 unfold nps
 rcases AqL b with h|h
 ·subst h;simp
 ·have h1:=Nat.div_mul_le_self (32+b-1) b
  generalize (32+b-1)/b=q at h1
  rcases AqV 32 q with h2|h2
  ·have:33*b≤q*b:=AqC _ h2
   omega
  ·omega
theorem Aaz{b:Nat}(hb:1≤b):1≤nps b:=by
 have:=(Ai2 (p:=0) hb).2 (by omega)
 omega
theorem AQd{b:Int}(h:¬ (1≤b∧b≤16)):KT (b,())=some (0,()):=by
 rw[PV,Jb]
 by_cases h1:b<1
 ·rw[Af,ApM h1]
 ·rw[Af,ApL h1,Af,ApM (by omega)]
theorem MU{b:Nat}(h:1≤b)(h2:b≤16):KT ((b:Int),())=some ((nps b:Int),()):=by
 have:=AMO (b:=b)
 rw[PV,Jb]
 rw[Af,ApL (by omega),Af,ApL (by omega)]
 have e:IntKind.wrap .i64 (IntKind.wrap .i64 ((32:Int)+(b:Int))-1)=((32+b-1:Nat):Int):=by
  have e0:IntKind.wrap .i64 ((32:Int)+(b:Int))=((32+b:Nat):Int):=by rw[Ah (by omega)];omega
  rw[e0,Ah (by omega)];omega
 simp only[e]
 rw[Pb,Q9,ApV (by omega),← Int.ofNat_tdiv]
 unfold nps at this ⊢
 generalize (32+b-1)/b=q at this ⊢
 rw[Ah (by omega)]
theorem AKP{n:Nat}(h:n<18446744073709551616):IntKind.wrap .u64 (n:Int)=n:=IntWalk.u64_in _ (by omega)
theorem IL{n:Nat}(h:n<4294967296):IntKind.wrap .u32 (n:Int)=n:=IntWalk.u32_in _ (by omega)
theorem Ai8{x b:Nat}(hx:x<4294967296)(hb:b≤16):IntKind.wrap .u32 (BitVec.ofInt (IntKind.bits .u32) (x:Int) &&& BitVec.ofInt (IntKind.bits .u32) ((2 ^ b-1:Nat):Int)).toNat=((x % 2 ^ b:Nat):Int):=by
 have hp:2 ^ b≤2 ^ 16:=AsM (by omega) hb
 have h1:(2:Nat) ^ 16=65536:=by decide
 have e:(BitVec.ofInt (IntKind.bits .u32) (x:Int) &&& BitVec.ofInt (IntKind.bits .u32) ((2 ^ b-1:Nat):Int)).toNat=x % 2 ^ b:=by
  rw[BitVec.toNat_and,Arr,Arr,Ar7,Ar7]
  have hbits:IntKind.bits .u32=32:=rfl
  rw[hbits,ArC (by omega),ArC (by omega),Nat.and_two_pow_sub_one_eq_mod]
 rw[e]
 have:=Nat.mod_le x (2 ^ b)
 exact IL (by omega)
theorem AWT{x p b:Nat}(hx:x<4294967296)(hb:1≤b)(hb2:b≤16)(hp:p<nps b):PX ((x:Int),(p:Int),(b:Int),())=some (((x/2 ^ (p*b) % 2 ^ b:Nat):Int),()):=by
 have hpb:=(Ai2 hb).1 hp
 have hn:=AMO (b:=b)
 rw[AIP,Q8]
 have ht:ABK ((p:Int),(b:Int),())=some (true,()):=by
  rw[AIJ,Q0]
  rw[An,ApM (by omega)]
  simp only[MU hb hb2]
  rw[AL,ApM hp]
 have e1:IntKind.wrap .u64 (IntKind.wrap .i64 ((p:Int)*(b:Int)))=((p*b:Nat):Int):=by
  rw[← ArK,Ah (by omega),AKP (by omega)]
 have e2:IntKind.wrap .u64 (b:Int)=(b:Int):=AKP (by omega)
 have e3:shr? .u32 (x:Int) ((p*b:Nat):Int)=some ((x/2 ^ (p*b):Nat):Int):=by
  rw[AA0,Yn,ApV (by omega)]
  have:min ((p*b:Nat):Int).toNat (IntKind.bits .u32)=p*b:=by
   show min _ 32=_
   rw[AqM];omega
  rw[this]
  congr 1
  rw[show(2:Int) ^ (p*b)=((2 ^ (p*b):Nat):Int) by rw[Int.natCast_pow];rfl]
  exact(Int.ofNat_fdiv _ _).symm
 have h16:2 ^ b≤2 ^ 16:=AsM (by omega) hb2
 have h16':(2:Nat) ^ 16=65536:=by decide
 have hpos:=AsV b
 have e4:shl? .u32 (1:Int) (b:Int)=some ((2 ^ b:Nat):Int):=by
  rw[PM,Qv,ApV (by omega)]
  have:min (b:Int).toNat (IntKind.bits .u32)=b:=by
   show min _ 32=_
   rw[AqM];omega
  rw[this,Int.one_mul,show(2:Int) ^ b=((2 ^ b:Nat):Int) by rw[Int.natCast_pow];rfl,IL (by omega)]
 have e5:IntKind.wrap .u32 (((2 ^ b:Nat):Int)-1)=((2 ^ b-1:Nat):Int):=by
  rw[show((2 ^ b:Nat):Int)-1=((2 ^ b-1:Nat):Int) by omega,IL (by omega)]
 have hq:x/2 ^ (p*b)<4294967296:=Nat.lt_of_le_of_lt (Nat.div_le_self _ _) hx
 simp only[ht,ApX,e1,e2,e3,e4,e5]
 rw[Ai8 hq hb2]
section
variable {ks l:List Nat} {b p:Nat} (hk:∀ x∈ks,x<4294967296) (hb:1≤b) (hb2:b≤16) (hp:p<nps b) (hn:ks.length≤1000) (hl:l.Perm (List.range ks.length))
include hk hb hb2 hp hn hl
def dgt(ks:List Nat)(b p:Nat)(i:Nat):Nat:=ks.getD i 0/2 ^ (p*b) % 2 ^ b
omit hl hn in
theorem ANi{i:Nat}(hi:i<ks.length):∃ x:Nat,ks[i]? = some x∧PX ((x:Int),(p:Int),(b:Int),())=some ((dgt ks b p i:Int),())∧dgt ks b p i<2 ^ b:=by
 obtain⟨x,hx⟩:=BV hi
 refine⟨x,hx,?_,Ar6 _ (AsV b)⟩
 rw[AWT (hk x (Apb hx)) hb hb2 hp]
 unfold dgt
 rw[ApP,hx]
 rfl
def AZY(d:Nat→Nat)(l:List Nat):Nat→Int
 |0=>(0:Int)
 |v+1=>((bkt d l v).length:Int)
def M9(d:Nat→Nat)(B:Nat)(l:List Nat):List Int:=(List.range (B+1)).map (AZY d l)
omit hk hb hb2 hp hn hl in
theorem AN7(d:Nat→Nat)(B:Nat)(l:List Nat){j:Nat}(h:j<B+1):(M9 d B l)[j]? = some (AZY d l j):=by
 unfold M9
 rw[Ap0,Aqs h];rfl
omit hk hb hb2 hp hn hl in
theorem AE2(d:Nat→Nat)(B:Nat)(l:List Nat):(M9 d B l).length=B+1:=by simp[M9]
omit hk hb hb2 hp hn hl in
theorem AUQ(d:Nat→Nat)(l:List Nat)(x v:Nat):bkt d (l++[x]) v=bkt d l v++(if d x==v then [x]else []):=by
 unfold bkt
 rw[Aqh]
 congr 1
 simp[Aqc]
omit hk hb hb2 hp hn hl in
theorem Afq(d:Nat→Nat)(B:Nat)(l:List Nat)(x:Nat):M9 d B (l++[x])=(M9 d B l).set (d x+1) (((bkt d l (d x)).length+1:Nat):Int):=by
 apply AqY
 intro j
 rw[Aq2,AE2]
 by_cases hj:j<B+1
 ·rw[AN7 d B _ hj]
  by_cases h:d x+1=j
  ·subst h
   rw[ApZ rfl,ApZ hj]
   simp[AZY,AUQ]
  ·rw[ApV h,AN7 d B _ hj]
   cases j with
   |zero=>rfl
   |succ v=>
    have:¬ d x=v:=fun e=>h (by omega)
    simp[AZY,AUQ,this]
 ·rw[Apm (l:=M9 d B (l++[x])) (by rw[AE2];omega)]
  by_cases h:d x+1=j
  ·rw[ApZ h,ApV (by omega)]
  ·rw[ApV h];exact(Apm (by rw[AE2];omega)).symm
def QN(d:Nat→Nat)(B:Nat)(l:List Nat)(k:Nat):List Int:=(List.range (B+1)).map fun v=>if v≤k then(Dy d l v:Int)else AZY d l v
omit hk hb hb2 hp hn hl in
theorem AgC(d:Nat→Nat)(B:Nat)(l:List Nat):QN d B l 0=M9 d B l:=by
 unfold QN M9
 refine Aq9 fun v _ => ?_
 cases v with
 |zero=>rfl
 |succ v=>rw[ApV (by omega)]
omit hk hb hb2 hp hn hl in
theorem Zn(d:Nat→Nat)(B:Nat)(l:List Nat)(k:Nat){v:Nat}(hv:v<B+1):(QN d B l k)[v]? = some (if v≤k then(Dy d l v:Int)else AZY d l v):=by
 unfold QN
 rw[Ap0,Aqs hv];rfl
omit hk hb hb2 hp hn hl in
theorem AgD(d:Nat→Nat)(B:Nat)(l:List Nat){k:Nat}(h:k<B):(QN d B l k)[k]? = some (Dy d l k:Int)∧(QN d B l k)[k+1]? = some ((bkt d l k).length:Int)∧(QN d B l k).set (k+1) (Dy d l (k+1):Int)=QN d B l (k+1):=by
 refine⟨by rw[Zn d B l k (by omega),ApZ (ApY _)],by rw[Zn d B l k (by omega),ApV (by omega)];rfl,?_⟩
 have hlen:∀ k,(QN d B l k).length=B+1:=fun k=>by simp[QN]
 apply AqY
 intro j
 rw[Aq2,hlen]
 by_cases hj:j<B+1
 ·rw[Zn d B l (k+1) hj]
  by_cases hjk:k+1=j
  ·subst hjk
   rw[ApZ rfl,ApZ hj,ApZ (ApY _)]
  ·rw[ApV hjk,Zn d B l k hj]
   by_cases h1:j≤k
   ·rw[ApZ h1,ApZ (show j≤k+1 by omega)]
   ·rw[ApV h1,ApV (show ¬ j≤k+1 by omega)]
 ·rw[Apm (l:=QN d B l (k+1)) (by rw[hlen];omega)]
  by_cases hjk:k+1=j
  ·rw[ApZ hjk,ApV (by omega)]
  ·rw[ApV hjk];exact Apm (by rw[hlen];omega)
def AC2(d:Nat→Nat)(B:Nat)(l:List Nat)(t:Nat):List Int:=(List.range (B+1)).map fun v=>((Dy d l v+(bkt d (l.take t) v).length:Nat):Int)
omit hk hb hb2 hp hn hl in
theorem AC1(d:Nat→Nat)(B:Nat)(l:List Nat)(t:Nat){v:Nat}(h:v<B+1):(AC2 d B l t)[v]? = some ((Dy d l v+(bkt d (l.take t) v).length:Nat):Int):=by
 unfold AC2
 rw[Ap0,Aqs h];rfl
omit hk hb hb2 hp hn hl in
theorem Adr(d:Nat→Nat)(B:Nat)(l:List Nat){t x:Nat}(h:l[t]? = some x):(AC2 d B l t).set (d x) ((Dy d l (d x)+(bkt d (l.take t) (d x)).length+1:Nat):Int)=AC2 d B l (t+1):=by
 have hlen:∀ t,(AC2 d B l t).length=B+1:=fun t=>by simp[AC2]
 apply AqY
 intro j
 rw[Aq2]
 by_cases hj:j<B+1
 ·have hb:bkt d (l.take (t+1)) j=bkt d (l.take t) j++(if d x==j then [x]else []):=by
   rw[Bk h]
   unfold bkt
   rw[Aqh]
   congr 1
   simp[Aqc]
  rw[AC1 d B l _ hj,AC1 d B l _ hj,hb]
  by_cases hx:d x=j
  ·subst hx
   rw[ApZ rfl,ApZ (by rw[hlen];exact hj)]
   simp
   omega
  ·rw[ApV hx]
   simp[hx]
 ·rw[Apm (l:=AC2 d B l (t+1)) (by rw[hlen];omega)]
  by_cases hx:d x=j
  ·rw[ApZ hx,ApV (by rw[hlen];omega)]
  ·rw[ApV hx];exact Apm (by rw[hlen];omega)
theorem Al2:rby (nI ks,nI l,(p:Int),(b:Int),())=some (nI (Ej (dgt ks b p) (2 ^ b) l),()):=by
 have h16:2 ^ b≤2 ^ 16:=AsM (by omega) hb2
 have h16':(2:Nat) ^ 16=65536:=by decide
 have hpos:=AsV b
 have hll:=hl.length_eq
 rw[Apy]at hll
 generalize hB:2 ^ b=B at *
 have hd:∀ {t x:Nat},l[t]? = some x→x<ks.length:=fun h=>Apz.1 (hl.mem_iff.1 (Apb h))
 have hdB:∀ i∈l,dgt ks b p i<B:=fun i hi=>by
  obtain⟨x,_,_,h⟩:=ANi hk hb hb2 hp (Apz.1 (hl.mem_iff.1 hi))
  rw[← hB];exact h
 have hbk:∀ (l':List Nat) v,(bkt (dgt ks b p) l' v).length≤l'.length:=fun l' v=>ArY _ _
 have hcs:=YE hdB
 have hst:∀ v,v≤B→Dy (dgt ks b p) l v≤1000:=fun v hv=>by
  have h1:=(AEn (dgt ks b p) l v).length_eq
  have h2:=ArY (fun i=>decide (dgt ks b p i<v)) l
  unfold Dy
  omega
 rw[Ah2,Aag]
 have e1:IntKind.wrap .u64 (b:Int)=(b:Int):=AKP (by omega)
 have e2:shl? .i64 (1:Int) (b:Int)=some (B:Int):=by
  rw[PM,Qv,ApV (by omega)]
  have:min (b:Int).toNat (IntKind.bits .i64)=b:=by
   show min _ 64=_
   rw[AqM];omega
  rw[this,Int.one_mul,show(2:Int) ^ b=((2 ^ b:Nat):Int) by rw[Int.natCast_pow];rfl,hB,Ah (by omega)]
 simp only[e1,e2]
 rw[AP (by omega)]
 simp only[D2 (show B+1≤4294967296 by omega),E7,AR,Bc]
 have q0:=FK (step:=Pa) (fun t=>(nI ks,nI l,(p:Int),(b:Int),M9 (dgt ks b p) B (l.take t),nI l,(l.length:Int),(t:Int),())) l.length (.inl (nI ks,nI l,(p:Int),(b:Int),M9 (dgt ks b p) B l,())) (by omega)
  (fun t ht=>by
   obtain⟨x,hx⟩:=BV ht
   obtain⟨y,hy,hdv,hlt⟩:=ANi hk hb hb2 hp (hd hx)
   rw[hB]at hlt
   have hc:(M9 (dgt ks b p) B (l.take t))[dgt ks b p x+1]? = some ((bkt (dgt ks b p) (l.take t) (dgt ks b p x)).length:Int):=AN7 _ _ _ (by omega)
   have hbl:=hbk (l.take t) (dgt ks b p x)
   rw[Api]at hbl
   have hw:IntKind.wrap .u32 ((dgt ks b p x:Int)+1)=((dgt ks b p x+1:Nat):Int):=by
    rw[show(dgt ks b p x:Int)+1=((dgt ks b p x+1:Nat):Int) by omega,IL (by omega)]
   rw[Pa,AL,ApM ht]
   simp only[AU (DU hx),AU (DU hy),hdv,hw,AU hc,BO hc,DZ]
   rw[AP (by omega),AP (by omega),Bk hx,Afq])
  (by rw[Pa,AL,ApL (by omega),Ap3])
 have z0:M9 (dgt ks b p) B (l.take 0)=List.replicate (B+1) (0:Int):=by
  rw[List.take_zero]
  unfold M9
  apply Aru (by simp)
  intro i _ _
  cases i<;>simp[bkt,AZY]
 rw[z0]at q0
 have q0':AX Pa many (nI ks,nI l,(p:Int),(b:Int),List.replicate (B+1) (0:Int),nI l,(l.length:Int),(0:Int),())=_:=q0
 simp only[q0']
 have q1:=FK (step:=PZ) (fun k=>(nI ks,nI l,(p:Int),(b:Int),QN (dgt ks b p) B l k,(B:Int),(k:Int),())) B (.inl (nI ks,nI l,(p:Int),(b:Int),QN (dgt ks b p) B l B,())) (by omega)
  (fun k hk'=>by
   obtain⟨g1,g2,g3⟩:=AgD (dgt ks b p) B l hk'
   have hb1:=hbk l k
   have hb2:=hst k (by omega)
   rw[PZ,AL,ApM hk']
   rw[AP (by omega)]
   simp only[AU g1,AU g2,BO g1,BO g2,DZ]
   rw[wrap_add (by omega),← g3,AUJ,Nat.add_comm (bkt (dgt ks b p) l k).length])
  (by rw[PZ,AL,ApL (by omega)])
 rw[AgC]at q1
 have q1':AX PZ many (nI ks,nI l,(p:Int),(b:Int),M9 (dgt ks b p) B l,(B:Int),(0:Int),())=_:=q1
 have hcl:((M9 (dgt ks b p) B l).length:Int)-1=(B:Int):=by simp[M9]
 rw[hcl,Ah (by omega)]
 simp only[q1',Bc,D2 (show l.length≤4294967296 by omega),E7]
 have hnd:l.Nodup:=hl.nodup_iff.2 Aqz
 have hpi:∀ t,t<l.length→(Ej (dgt ks b p) B l)[OW (dgt ks b p) l t]? = some (l.getD t 0):=fun t ht=>by
  obtain⟨x,hx⟩:=BV ht
  rw[ATm hdB hx,ApP,hx];rfl
 have hinj:∀ i∈List.range l.length,∀ j∈List.range l.length,OW (dgt ks b p) l i=OW (dgt ks b p) l j→i=j:=fun i hi j hj he=>by
  have hi:=Apz.1 hi
  have hj:=Apz.1 hj
  have h1:=hpi i hi
  have h2:=hpi j hj
  rw[he,h2]at h1
  obtain⟨x,hx⟩:=BV hi
  obtain⟨y,hy⟩:=BV hj
  have h3:=AqP h1
  rw[ApP,ApP,hx,hy]at h3
  simp only[AqI]at h3
  subst h3
  exact(AsB (Bd hx) hnd).1 (hx.trans hy.symm)
 have q2:=FK (step:=PY) (fun t=>(nI ks,(p:Int),(b:Int),AC2 (dgt ks b p) B l t,(List.range t).foldl (fun a i=>a.set (OW (dgt ks b p) l i) ((l.getD i 0:Nat):Int)) (List.replicate l.length (0:Int)),nI l,(l.length:Int),(t:Int),())) l.length (.inl (nI (Ej (dgt ks b p) B l),())) (by omega)
  (fun t ht=>by
   obtain⟨x,hx⟩:=BV ht
   obtain⟨y,hy,hdv,hlt⟩:=ANi hk hb hb2 hp (hd hx)
   rw[hB]at hlt
   have hg:l.getD t 0=x:=by rw[ApP,hx];rfl
   have hc:=AC1 (dgt ks b p) B l t (v:=dgt ks b p x) (by omega)
   have hbl:=hbk (l.take t) (dgt ks b p x)
   rw[Api]at hbl
   have hs1:=hst (dgt ks b p x) (by omega)
   have hbp:Dy (dgt ks b p) l (dgt ks b p x)+(bkt (dgt ks b p) (l.take t) (dgt ks b p x)).length=OW (dgt ks b p) l t:=by unfold OW;rw[hg]
   have hplt:OW (dgt ks b p) l t<l.length:=by
    have:=Bd (hpi t ht)
    rw[hcs.length_eq]at this;exact this
   obtain⟨z,hz⟩:=BV (xs:=(List.range t).foldl (fun a i=>a.set (OW (dgt ks b p) l i) ((l.getD i 0:Nat):Int)) (List.replicate l.length (0:Int))) (i:=OW (dgt ks b p) l t) (by
    rw[HB (OW (dgt ks b p) l) (fun i=>((l.getD i 0:Nat):Int)),AqD];exact hplt)
   rw[PY,AL,ApM ht]
   simp only[AU (DU hx),AU (DU hy),hdv,AU hc,BO hc]
   rw[hbp]at hc ⊢
   simp only[AU hz,DZ]
   rw[AP (by omega),AP (by omega),← Adr (dgt ks b p) B l hx,hbp,AqG,ArI]
   simp only[AqT,List.foldl_nil,hg])
  (by
   rw[PY,AL,ApL (by omega)]
   have hput:=ATA (g:=OW (dgt ks b p) l) (v:=fun i=>((l.getD i 0:Nat):Int)) (List.range l.length) (List.replicate l.length (0:Int)) Aqz hinj
   have:(List.range l.length).foldl (fun a i=>a.set (OW (dgt ks b p) l i) ((l.getD i 0:Nat):Int)) (List.replicate l.length (0:Int))=nI (Ej (dgt ks b p) B l):=by
    apply AqY
    intro j
    by_cases hj:j<l.length
    ·obtain⟨x,hx⟩:=BV (xs:=Ej (dgt ks b p) B l) (i:=j) (by rw[hcs.length_eq];exact hj)
     obtain⟨t,ht⟩:=Ard (hcs.mem_iff.1 (Apb hx))
     have htl:=Bd ht
     have hpt:=ATm hdB ht
     have hcn:(Ej (dgt ks b p) B l).Nodup:=hcs.nodup_iff.2 hnd
     have hje:OW (dgt ks b p) l t=j:=(AsB (Bd hpt) hcn).1 (hpt.trans hx.symm)
     have:=hput t (Apz.2 htl) (by rw[AqD,hje];exact hj)
     rw[hje]at this
     rw[this,DU hx,ApP,ht];rfl
    ·rw[Apm (by rw[HB (OW (dgt ks b p) l) (fun i=>((l.getD i 0:Nat):Int)),AqD];omega),Apm (by rw[Bc,hcs.length_eq];omega)]
   rw[this])
 have z2:QN (dgt ks b p) B l B=AC2 (dgt ks b p) B l 0:=by
  unfold QN AC2
  refine Aq9 fun v hv => ?_
  rw[ApZ (by have:=Apz.1 hv;omega)]
  simp[bkt]
 rw[z2]
 have q2':AX PY many (nI ks,(p:Int),(b:Int),AC2 (dgt ks b p) B l 0,List.replicate l.length (0:Int),nI l,(l.length:Int),(0:Int),())=_:=q2
 simp only[q2']
end
end Go.Pev.Pl
end
section
namespace Go.Pev.Pl
abbrev AlA:=Int×Int×List (List Int)×Unit
abbrev ZI:=Int×Int×AlA×Unit
def KB(w:ZI):Prop:=1≤w.1∧w.1≤16∧1≤w.2.1∧w.2.1≤100∧FH w.2.2.1
def Ys(ks:List Nat)(i:Nat):Nat:=ks.getD i 0
def Aiq(ks:List Nat)(b:Nat):List Nat:=ABP (Ys ks) b (List.range ks.length) (nps b)
def srt(ks:List Nat)(b:Nat):List Nat:=(Aiq ks b).map (Ys ks)
theorem AIh(ks:List Nat)(b:Nat):(Aiq ks b).Perm (List.range ks.length):=(AIK _ _ _ _).1
theorem MO(ks:List Nat)(b:Nat):(srt ks b).Perm ks:=by
 have h:=(AIh ks b).map (Ys ks)
 have:(List.range ks.length).map (Ys ks)=ks:=by
  apply Aru (by simp)
  intro i h1 h2
  simp[Ys,ApO h2]
 rw[this]at h
 exact h
section
variable {ks:List Nat} {b c:Nat} {p:AlA} (hk:∀ x∈ks,x<4294967296) (hn:ks.length≤1000)
theorem Acx(hb:1≤b)(hb2:b≤16)(hc:1≤c)(hc2:c≤100)(hk:∀ x∈ks,x<4294967296)(hn:ks.length≤1000){U:List Nat}{k:Nat}(hkk:k≤40000)(hU:U.Perm (List.range (nbl ks.length c)))(hf:CO ((nbl ks.length c:Int),p,())=some (nI U,(k:Int),0,())):
  ABQ (nI ks,(b:Int),(c:Int),p,())=some (nI (Aiq ks b),((2*k*nps b:Nat):Int),0,()):=by
 have e0:ieq (0:Int) 0=true:=by rw[Ad];rfl
 have hnp:=AMO (b:=b)
 have hnp1:=Aaz hb
 have hs:=AH2 (xs:=nI ks) (b:=c) (by rw[Bc];exact hn) hc hc2 (p:=p) (U:=U) (k:=k) hkk (by rw[Bc];exact hU) (by rw[Bc];exact hf)
 obtain⟨a,d,q,u⟩:=p
 rw[ABO,Q2]
 simp only[MU hb hb2]
 rw[Ad,ApL (by omega)]
 simp only[hs,e0,ApX,AR,Bc]
 have q0:=FK (step:=Ha) (fun i=>(nI ks,(b:Int),(nps b:Int),((2*k:Nat):Int),nI (List.range i),(ks.length:Int),(i:Int),())) ks.length (.inl (nI ks,(b:Int),(nps b:Int),((2*k:Nat):Int),nI (List.range ks.length),())) (by omega)
  (fun i hi=>by
   rw[Ha,AL,ApM hi,AR,Bc,Apy,AR]
   simp only[ApW,Apk]
   rw[Bm (by omega),AP (by omega)]
   simp only[ES]
   rw[AqG]
   unfold nI
   rw[AqO]
   rfl)
  (by rw[Ha,AL,ApL (by omega)])
 have q0':AX Ha many (nI ks,(b:Int),(nps b:Int),((2*k:Nat):Int),([]:List Int),(ks.length:Int),(0:Int),())=_:=q0
 simp only[q0']
 have q1:=FK (step:=HZ) (fun i=>(nI ks,(b:Int),(nps b:Int),((2*k:Nat):Int),nI (ABP (Ys ks) b (List.range ks.length) i),(nps b:Int),(i:Int),())) (nps b) (.inl ((nps b:Int),((2*k:Nat):Int),nI (Aiq ks b),())) (by omega)
  (fun i hi=>by
   have hp:=(AIK (Ys ks) b (List.range ks.length) i).1
   rw[HZ,AL,ApM hi]
   simp only[Al2 hk hb hb2 hi hn hp]
   rw[AP (by omega)]
   rfl)
  (by rw[HZ,AL,ApL (by omega)];rfl)
 have q1':AX HZ many (nI ks,(b:Int),(nps b:Int),((2*k:Nat):Int),nI (List.range ks.length),(nps b:Int),(0:Int),())=_:=q1
 simp only[q1']
 have hmul:2*k*nps b≤80000*47:=Aq7 (by omega) hnp
 rw[← ArK,Ah (by omega)]
theorem Acz{xs:List Int}{w:ZI}(h:¬ (KB w∧xs.length≤1000)):ABQ (xs,w.1,w.2.1,w.2.2.1,())=some ([],0,1,()):=by
 obtain⟨b,c,⟨a,d,q,u⟩,v⟩:=w
 rw[ABO,Q2]
 by_cases h1:1≤b∧b≤16
 ·obtain⟨b,rfl⟩:=Apa (show 0≤b by omega)
  have hp:=Aaz (b:=b) (by omega)
  have e1:ieq (1:Int) 0=false:=by rw[Ad];rfl
  have h2:=Aca (xs:=xs) (b:=c) (p:=(a,d,q,u)) (fun hx=>h ⟨⟨h1.1,h1.2,hx.1,hx.2.1,hx.2.2.2⟩,hx.2.2.1⟩)
  simp only[MU (b:=b) (by omega) (by omega)]
  rw[Ad,ApL (by omega)]
  have h2':XQ (xs,c,(a,d,q,()),())=some ([],0,0,1,()):=h2
  simp only[h2',e1,Ap5]
 ·simp only[AQd h1]
  rw[Ad,ApM rfl]
theorem Ac2{l:List Nat}{n:Nat}(hl:l.Perm (List.range n))(hn:n≤1000):AQl (nI l,(n:Int),())=some (true,()):=by
 have hll:=hl.length_eq
 rw[Apy]at hll
 have hnd:l.Nodup:=hl.nodup_iff.2 Aqz
 rw[AQk,ZT]
 have q:=FK (step:=Hb) (fun i=>(nI l,(n:Int),M1 (l.take i),nI l,(l.length:Int),(i:Int),())) l.length (.inr (.inl (nI l,(n:Int),()))) (by omega)
  (fun i hi=>by
   obtain⟨x,hx⟩:=BV hi
   have hxn:x<n:=Apz.1 (hl.mem_iff.1 (Apb hx))
   have hnot:x∉l.take i:=by
    intro hm
    obtain⟨j,hj⟩:=Ard hm
    rw[AqK]at hj
    split at hj
    ·have:=(AsB (Bd hj) hnd).1 (hj.trans hx.symm)
     omega
    ·cases hj
   obtain⟨m1,m2⟩:=AUm hnot
   have hw1:IntKind.wrap .i64 (((AS (M1 (l.take i)) (x:Int)).getD (0:Int))+(1:Int))=1:=by
    rw[m2];exact Ah (by decide)
   have hlk:AS (M1 (l.take i++[x])) (x:Int)=some 1:=by
    rw[← m1,Dk,ApZ rfl]
   rw[Hb,AL,ApM hi]
   simp only[AU (DU hx)]
   rw[Af,ApL (by omega),DG,ApL (by omega)]
   simp only[hw1,m1,hlk,AqI]
   rw[Af,ApL (by decide),AP (by omega),Bk hx])
  (by rw[Hb,AL,ApL (by omega)])
 have q':AX Hb many (nI l,(n:Int),([]:List (Int×Int)),nI l,(l.length:Int),(0:Int),())=_:=q
 simp only[AR,Bc,q']
 rw[AMu,ApM hll]
theorem AjK{i:Nat}(h:i<ks.length):ks[i]? = some (Ys ks i):=by
 unfold Ys
 rw[ApP,ApO h];rfl
theorem AQS{l:List Nat}(hl:l.Perm (List.range ks.length))(hn:ks.length≤1000):Nq (nI ks,nI l,())=some (nI (l.map (Ys ks)),true,()):=by
 have hll:=hl.length_eq
 rw[Apy]at hll
 rw[ABN,Np]
 simp only[AR,Bc,Ac2 hl hn,ApX]
 have q:=FK (step:=EK) (fun i=>(nI ks,nI ((l.take i).map (Ys ks)),nI l,(l.length:Int),(i:Int),())) l.length (.inl (nI (l.map (Ys ks)),())) (by omega)
  (fun i hi=>by
   obtain⟨x,hx⟩:=BV hi
   have hxn:x<ks.length:=Apz.1 (hl.mem_iff.1 (Apb hx))
   rw[EK,AL,ApM hi]
   simp only[AU (DU hx),AU (DU (AjK hxn)),AR,Bc,Apr,Api,ApW,Apk]
   rw[Bm (by omega),AP (by omega),Bk hx]
   simp only[ES]
   unfold nI
   simp)
  (by rw[EK,AL,ApL (by omega),Ap3])
 have q':AX EK many (nI ks,([]:List Int),nI l,(l.length:Int),(0:Int),())=_:=q
 simp only[q']
theorem ATd(s:List Int)(hl:s.length≤1000000):Rv (s,())=some (P5 s,()):=by
 rw[AEg,N9]
 have q:=FK (step:=ER) (fun i=>(s,L9 s.length (fun i=>decide (i=0)||decide (s.getD (i-1) 0≠s.getD i 0)) false i,s,(s.length:Int),(i:Int),())) s.length (.inl (P5 s,())) (by omega)
  (fun i hi=>by
   obtain⟨x,hx⟩:=BV hi
   obtain⟨y,hy⟩:=BV (xs:=L9 s.length (fun i=>decide (i=0)||decide (s.getD (i-1) 0≠s.getD i 0)) false i) (i:=i) (by rw[Mg];exact hi)
   rw[ER,AL,ApM hi]
   simp only[AU hx,AU hy,DZ]
   rw[AP (by omega),← ACv,Ad]
   by_cases h0:i=0
   ·subst h0
    rw[ApM (by rfl)]
    rfl
   ·obtain⟨j,rfl⟩:∃ j,i=j+1:=⟨i-1,by omega⟩
    obtain⟨z,hz⟩:=BV (xs:=s) (i:=j) (by omega)
    rw[ApL (by omega),show((j+1:Nat):Int)-1=(j:Int) by omega,Ah (by omega)]
    simp only[AU hz]
    have e1:s.getD j 0=z:=by rw[ApP,hz];rfl
    have e2:s.getD (j+1) 0=x:=by rw[ApP,hx];rfl
    have:(!(ieq z x))=(decide (j+1=0)||decide (s.getD (j+1-1) 0≠s.getD (j+1) 0)):=by
     rw[Nat.add_sub_cancel,e1,e2,Ad];simp
    rw[this])
  (by rw[ER,AL,ApL (by omega),ACx];rfl)
 rw[UK]at q
 have q':AX ER many (s,List.replicate s.length false,s,(s.length:Int),(0:Int),())=_:=q
 simp only[AR,D2 (show s.length≤4294967296 by omega),E7,q']
def AC0(s:List Int):List Int:=(kept (P5 s) s.length).map fun i=>s.getD i 0
theorem ADq(s:List Int):(P5 s).length=s.length:=by simp[P5]
theorem AS6{s:List Int}{i:Nat}(h:i<s.length):(P5 s).getD i false=(decide (i=0)||decide (s.getD (i-1) 0≠s.getD i 0)):=by
 unfold P5
 rw[ApP,Ap0,Aqs h];rfl
theorem AC7{s:List Int}{x:Int}:x∈AC0 s↔x∈s:=by
 unfold AC0
 rw[Aph]
 constructor
 ·rintro⟨i,hi,rfl⟩
  have:=Apz.1 (Apg.1 hi).1
  rw[ApP,ApO this]
  exact ArD this
 ·intro h
  have key:∀ i,i<s.length→s.getD i 0=x→∃ j,j∈kept (P5 s) s.length∧s.getD j 0=x:=by
   intro i
   induction i with
   |zero=>
    intro hi hx
    exact⟨0,Apg.2 ⟨Apz.2 hi,by rw[AS6 hi];rfl⟩,hx⟩
   |succ i ih=>
    intro hi hx
    by_cases hp:s.getD i 0=x
    ·exact ih (by omega) hp
    ·refine⟨i+1,Apg.2 ⟨Apz.2 hi,?_⟩,hx⟩
     rw[AS6 hi,Nat.add_sub_cancel,hx,ApM hp]
     simp
  obtain⟨i,hi⟩:=Ard h
  exact key i (Bd hi) (by rw[ApP,hi];rfl)
theorem ATa(hb:1≤b)(hb2:b≤16)(hc:1≤c)(hc2:c≤100)(hk:∀ x∈ks,x<4294967296)(hn:ks.length≤1000){U V:List Nat}{k m:Nat}(hkk:k≤40000)(hmm:m≤40000)(hU:U.Perm (List.range (nbl ks.length c)))(hf:CO ((nbl ks.length c:Int),p,())=some (nI U,(k:Int),0,()))
  (hV:V.Perm (List.range ks.length)) (hf2:CO ((ks.length:Int),p,())=some (nI V,(m:Int),0,())) :
  ∃ T,N8 (nI ks,((b:Int),(c:Int),p,()),())=some (AC0 (nI (srt ks b)),T,((2*k*nps b+(2*k+m):Nat):Int),0,()):=by
 have e0:ieq (0:Int) 0=true:=by rw[Ad];rfl
 have hnp:=AMO (b:=b)
 have hmul:2*k*nps b≤80000*47:=Aq7 (by omega) hnp
 have hsl:(srt ks b).length=ks.length:=(MO ks b).length_eq
 have h1:=Acx (p:=p) hb hb2 hc hc2 hk hn hkk hU hf
 have h2:=AQS (AIh ks b) hn
 have h2':Nq (nI ks,nI (Aiq ks b),())=some (nI (srt ks b),true,()):=h2
 have h3:=ATd (nI (srt ks b)) (by rw[Bc,hsl];omega)
 have hfl:(P5 (nI (srt ks b))).length=ks.length:=by rw[ADq,Bc,hsl]
 have h4:=AWY (keep:=P5 (nI (srt ks b))) (b:=c) (p:=p) (U:=U) (V:=V) (k:=k) (m:=m) (by rw[hfl];exact hn) hc hc2 hkk hmm (by rw[hfl];exact hU) (by rw[hfl];exact hf) (by rw[hfl];exact hV) (by rw[hfl];exact hf2)
 obtain⟨a,d,q,u⟩:=p
 rw[QC,J3]
 simp only[h1,e0,ApX,h2',h3,h4]
 generalize hP:kept (P5 (nI (srt ks b))) (P5 (nI (srt ks b))).length=P
 generalize hS:nI (srt ks b)=S at *
 have hSl:S.length=ks.length:=by rw[← hS,Bc,hsl]
 have hPl:P.length≤1000:=by
  rw[← hP]
  have:=Zc (P5 S) (P5 S).length
  rw[hfl]at this ⊢
  omega
 have hPm:∀ {i x:Nat},P[i]? = some x→S[x]? = some (S.getD x 0)∧x≤1000:=fun {i x} hx=>by
  have:=Apb hx
  rw[← hP]at this
  have:=Apz.1 (Apg.1 this).1
  rw[ADq]at this
  exact⟨by rw[ApP,ApO this];rfl,by omega⟩
 let tm:Nat→Int:=fun i=>if i+1<P.length then IntKind.wrap .i64 ((P.getD (i+1) 0:Nat)-(P.getD i 0:Nat):Int)else IntKind.wrap .i64 ((S.length:Int)-(P.getD i 0:Nat))
 have Q:=FK (step:=EP) (fun i=>(((2*k*nps b:Nat):Int),S,nI P,((2*k+m:Nat):Int),(P.take i).map (fun i=>S.getD i 0),(List.range i).map tm,(P.length:Int),(i:Int),())) P.length
  (.inl (((2*k*nps b:Nat):Int),((2*k+m:Nat):Int),P.map (fun i=>S.getD i 0),(List.range P.length).map tm,())) (by omega)
  (fun i hi=>by
   obtain⟨x,hx⟩:=BV hi
   obtain⟨s1,s2⟩:=hPm hx
   have hg:P.getD i 0=x:=by rw[ApP,hx];rfl
   rw[EP,AL,ApM hi]
   simp only[AU (DU hx),BO (DU hx),AR,Bc]
   rw[AP (by omega),AL]
   simp only[AU s1,BO s1,Apr,Api,Apy,ApW,Apk]
   rw[Bm (by omega),Bm (by omega)]
   simp only[ES]
   rw[Bk hx,AqG,AqO,AqO]
   by_cases h1:i+1<P.length
   ·obtain⟨y,hy⟩:=BV h1
    have hgy:P.getD (i+1) 0=y:=by rw[ApP,hy];rfl
    have:tm i=IntKind.wrap .i64 ((y:Int)-(x:Int)):=by
     show(if i+1<P.length then _ else _)=_
     rw[ApZ h1,hgy,hg]
    simp only[ApM h1,AU (DU hy),BO (DU hy),Ap2,ArB,this]
   ·have:tm i=IntKind.wrap .i64 ((S.length:Int)-(x:Int)):=by
     show(if i+1<P.length then _ else _)=_
     rw[ApV h1,hg]
    simp only[ApL h1,Ap2,ArB,this])
  (by rw[EP,AL,ApL (by omega),Ap3])
 have Q':AX EP many (((2*k*nps b:Nat):Int),S,nI P,((2*k+m:Nat):Int),([]:List Int),([]:List Int),(P.length:Int),(0:Int),())=_:=Q
 refine⟨(List.range P.length).map tm,?_⟩
 simp only[Bc,AR,Q']
 rw[wrap_add (by omega)]
 have:AC0 S=P.map fun i=>S.getD i 0:=by
  unfold AC0
  rw[← hP,ADq]
 rw[this]
end
end Go.Pev.Pl
end
section
namespace Go.Pev.Pl
inductive Tok where
 |ver (v:Int)
 |arc (u v:Int)
 deriving DecidableEq
namespace Tok
def st:Tok→Int
 |.ver v=>v
 |.arc _ v=>v
def step(s:List Int×List Int):Tok→Option (List Int×List Int)
 |.ver v=>match s.1 with
  |w::_=>if w=v then some s else none
  |[]=>none
 |.arc u v=>match s.1 with
  |w::r=>if w=u then match r with
    |p::r'=>if p=v then some (p::r',s.2)else if v∈s.2 then none else some (v::w::r,v::s.2)
    |[]=>if v∈s.2 then none else some (v::w::r,v::s.2)
   else none
  |[]=>none
def run:List Int×List Int→List Tok→Option (List Int×List Int)
 |s,[]=>some s
 |s,t::l=>match step s t with
  |some s=>run s l
  |none=>none
theorem DQ(s:List Int×List Int)(a b:List Tok):run s (a++b)=(run s a).bind fun s=>run s b:=by
 induction a generalizing s with
 |nil=>rfl
 |cons t a ih=>
  simp only[Aps,run]
  cases step s t with
  |none=>rfl
  |some s=>exact ih s
theorem Bw{s s':List Int×List Int}{t:Tok}(h:step s t=some s'):
  (∃ v r,t = .ver v∧s.1=v::r∧s'=s) ∨
  (∃ u v r,t = .arc u v∧s.1=u::v::r∧s'=(v::r,s.2)) ∨
  (∃ u v r,t = .arc u v∧s.1=u::r∧r.head?≠some v∧v∉s.2∧s'=(v::u::r,v::s.2)):=by
 obtain⟨way,c⟩:=s
 cases t with
 |ver v=>
  cases way with
  |nil=>simp[step]at h
  |cons w r=>
   simp only[step]at h
   split at h
   ·rename_i e;cases h;exact .inl ⟨v,r,rfl,by simp[e],rfl⟩
   ·cases h
 |arc u v=>
  cases way with
  |nil=>simp[step]at h
  |cons w r=>
   simp only[step]at h
   split at h
   ·rename_i e
    subst e
    cases r with
    |nil=>
     simp only at h
     split at h
     ·cases h
     ·rename_i hc;cases h;exact .inr (.inr ⟨w,v,[],rfl,rfl,by simp,hc,rfl⟩)
    |cons p r=>
     simp only at h
     split at h
     ·rename_i e;subst e;cases h;exact .inr (.inl ⟨w,p,r,rfl,rfl,rfl⟩)
     ·split at h
      ·cases h
      ·rename_i e hc;cases h;exact .inr (.inr ⟨w,v,p::r,rfl,rfl,by simpa using e,hc,rfl⟩)
   ·cases h
theorem DO(v:Int)(r c:List Int):step (v::r,c) (.ver v)=some (v::r,c):=by simp[step]
theorem Ga(u v:Int)(r c:List Int):step (u::v::r,c) (.arc u v)=some (v::r,c):=by simp[step]
theorem FP(u v:Int)(r c:List Int)(h1:r.head?≠some v)(h2:v∉c):step (u::r,c) (.arc u v)=some (v::u::r,v::c):=by
 cases r with
 |nil=>simp[step,h2]
 |cons p r=>
  have:p≠v:=by simpa using h1
  simp[step,h2,this]
def Inv(s:List Int×List Int):Prop:=s.1.Nodup∧(∀ x∈s.1,x∈s.2)
theorem AAo{s s':List Int×List Int}{t:Tok}(h:step s t=some s')(hi:Inv s):Inv s'∧(∀ x∈s.2,x∈s'.2)∧s'.1.head? = some t.st:=by
 obtain⟨way,c⟩:=s
 obtain⟨h1,h2⟩:=hi
 rcases Bw h with⟨v,r,rfl,hw,rfl⟩|⟨u,v,r,rfl,hw,rfl⟩|⟨u,v,r,rfl,hw,_,hn,rfl⟩
 ·exact⟨⟨h1,h2⟩,fun x hx=>hx,by rw[hw];rfl⟩
 ·simp only at hw h1 h2
  subst hw
  refine⟨⟨?_,?_⟩,fun x hx=>hx,rfl⟩
  ·exact(Apw.1 h1).2
  ·intro x hx;exact h2 x (by simp only at hx;simp[ApT.1 hx])
 ·simp only at hw h1 h2 hn
  subst hw
  refine⟨⟨?_,?_⟩,fun x hx=>by simp[hx],rfl⟩
  ·exact Apw.2 ⟨fun hm=>hn (h2 _ hm),h1⟩
  ·intro x hx
   rcases ApT.1 hx with rfl|hx
   ·simp
   ·exact Apv _ (h2 x hx)
theorem IS{l:List Tok}:∀ {s s':List Int×List Int},run s l=some s'→Inv s→Inv s'∧(∀ x∈s.2,x∈s'.2)∧∀ t,l.getLast? = some t→s'.1.head? = some t.st:=by
 induction l with
 |nil=>intro s s' h hi;cases h;exact⟨hi,fun x hx=>hx,fun t ht=>by simp at ht⟩
 |cons t l ih=>
  intro s s' h hi
  simp only[run]at h
  split at h
  ·rename_i s1 h1
   obtain⟨q1,q2,q3⟩:=AAo h1 hi
   obtain⟨p1,p2,p3⟩:=ih h q1
   refine⟨p1,fun x hx=>p2 x (q2 x hx),fun t' ht' => ?_⟩
   cases l with
   |nil=>simp at ht';subst ht';simp only[run]at h;cases h;exact q3
   |cons y l=>exact p3 t' (by rw[Asc]at ht';exact ht')
  ·cases h
theorem HK{Z:Int→Prop}:∀ {l:List Tok} {way way' c d c2 low:List Int},run (way,c) l=some (way',d)→way≠[]→(∀ x,x∈c2↔x∈c∨Z x) →
  (∀ u v,.arc u v∈l→¬ Z v)→(∀ y∈low,Z y)→∃ d2,run (way++low,c2) l=some (way'++low,d2)∧(∀ x,x∈d2↔x∈d∨Z x):=by
 intro l
 induction l with
 |nil=>intro way way' c d c2 low h _ hc _ _;cases h;exact⟨c2,rfl,hc⟩
 |cons t l ih=>
  intro way way' c d c2 low h hne hc hz hl
  simp only[run]at h
  split at h
  ·rename_i s1 h1
   have hz':∀ u v,Tok.arc u v∈l→¬ Z v:=fun u v hm=>hz u v (Apv _ hm)
   rcases Bw h1 with⟨v,r,rfl,hw,rfl⟩|⟨u,v,r,rfl,hw,rfl⟩|⟨u,v,r,rfl,hw,hh,hn,rfl⟩
   ·simp only at hw
    subst hw
    obtain⟨d2,e1,e2⟩:=ih h hne hc hz' hl
    exact⟨d2,by simp only[run,Aps,DO];exact e1,e2⟩
   ·simp only at hw
    subst hw
    obtain⟨d2,e1,e2⟩:=ih h (by simp) hc hz' hl
    exact⟨d2,by simp only[run,Aps,Ga];exact e1,e2⟩
   ·simp only at hw hn
    subst hw
    have hzv:=hz u v (by simp)
    have hn2:v∉c2:=by rw[hc];rintro (h|h);exact hn h;exact hzv h
    have hh2:(r++low).head?≠some v:=by
     cases r with
     |nil=>
      cases low with
      |nil=>simp
      |cons y low=>
       simp only[Ap9,List.head?_cons,ne_eq,ApN]
       rintro rfl
       exact hzv (hl _ (by simp))
     |cons p r=>simpa using hh
    obtain⟨d2,e1,e2⟩:=ih (c2:=v::c2) h (by simp) (by intro x;simp only[ApT,hc,or_assoc]) hz' hl
    exact⟨d2,by simp only[run,Aps,FP _ _ _ _ hh2 hn2];exact e1,e2⟩
  ·cases h
theorem ABG{z:Int}:∀ {l:List Tok} {way way' c2 d2 c:List Int},run (way,c2) l=some (way',d2)→z∉way→(∀ x,x∈c2↔x∈c∨x=z)→z∉c →
  .ver z∉l∧∃ d,run (way,c) l=some (way',d)∧(∀ x,x∈d2↔x∈d∨x=z)∧z∉d:=by
 intro l
 induction l with
 |nil=>intro way way' c2 d2 c h _ hc hz;cases h;exact⟨by simp,c,rfl,hc,hz⟩
 |cons t l ih=>
  intro way way' c2 d2 c h hzw hc hz
  simp only[run]at h
  split at h
  ·rename_i s1 h1
   rcases Bw h1 with⟨v,r,rfl,hw,rfl⟩|⟨u,v,r,rfl,hw,rfl⟩|⟨u,v,r,rfl,hw,hh,hn,rfl⟩
   ·simp only at hw
    subst hw
    obtain⟨e0,d,e1,e2,e3⟩:=ih h hzw hc hz
    refine⟨?_,d,by simp only[run,DO];exact e1,e2,e3⟩
    rintro hm
    rcases ApT.1 hm with hm|hm
    ·cases hm;exact hzw (by simp)
    ·exact e0 hm
   ·simp only at hw
    subst hw
    obtain⟨e0,d,e1,e2,e3⟩:=ih h (fun hm=>hzw (Apv _ hm)) hc hz
    refine⟨?_,d,by simp only[run,Ga];exact e1,e2,e3⟩
    rintro hm
    rcases ApT.1 hm with hm|hm
    ·cases hm
    ·exact e0 hm
   ·simp only at hw hn
    subst hw
    have hvz:v≠z:=by rintro rfl;exact hn ((hc v).2 (.inr rfl))
    have hn':v∉c:=fun hm=>hn ((hc v).2 (.inl hm))
    obtain⟨e0,d,e1,e2,e3⟩:=ih (c:=v::c) h (by intro hm;rcases ApT.1 hm with hm|hm;exact hvz hm.symm;exact hzw hm)
     (by intro x;simp only[ApT,hc,or_assoc])
     (by intro hm;rcases ApT.1 hm with hm|hm;exact hvz hm.symm;exact hz hm)
    refine⟨?_,d,by simp only[run,FP _ _ _ _ hh hn'];exact e1,e2,e3⟩
    rintro hm
    rcases ApT.1 hm with hm|hm
    ·cases hm
    ·exact e0 hm
  ·cases h
def Rot(a b:List Tok):Prop:=∃ x y,a=x++y∧b=y++x
theorem Rot.refl(a:List Tok):Rot a a:=⟨[],a,rfl,by simp⟩
theorem Rot.symm{a b:List Tok}(h:Rot a b):Rot b a:=by obtain⟨x,y,h1,h2⟩:=h;exact⟨y,x,h2,h1⟩
theorem Rot.trans{a b c:List Tok}(h:Rot a b)(g:Rot b c):Rot a c:=by
 obtain⟨x,y,rfl,h2⟩:=h
 obtain⟨z,w,h3,rfl⟩:=g
 rw[h2]at h3
 rcases List.append_eq_append_iff.1 h3 with⟨k,h4,h5⟩|⟨k,h4,h5⟩
 ·subst h4 h5
  exact⟨k,w++y,by simp,by simp⟩
 ·subst h4 h5
  exact⟨x++z,k,by simp,by simp⟩
theorem Rot.perm{a b:List Tok}(h:Rot a b):a.Perm b:=by
 obtain⟨x,y,rfl,rfl⟩:=h
 exact ArZ
theorem Rot.mem{a b:List Tok}(h:Rot a b)(t:Tok):t∈a↔t∈b:=h.perm.mem_iff
theorem Rot.nodup{a b:List Tok}(h:Rot a b):a.Nodup↔b.Nodup:=h.perm.nodup_iff
theorem Rot.length{a b:List Tok}(h:Rot a b):a.length=b.length:=h.perm.length_eq
inductive T:List Tok→Prop
 |one (v:Int):T [.ver v]
 |add (x:Tok) (l:List Tok) (v:Int):T (x::l)→x.st≠v→.ver v∉x::l→T (x :: .arc x.st v :: .ver v :: .arc v x.st::l)
 |rot (a b:List Tok):T (a++b)→T (b++a)
theorem T.AXS{a b:List Tok}(h:T a)(r:Rot a b):T b:=by obtain⟨x,y,rfl,rfl⟩:=r;exact T.rot x y h
theorem T.facts{l:List Tok}(h:T l):l≠[]∧(∀ t∈l,.ver t.st∈l)∧(∀ u v,.arc u v∈l→.ver u∈l∧.ver v∈l∧.arc v u∈l∧u≠v):=by
 induction h with
 |one v=>exact⟨by simp,by simp[st],by simp⟩
 |add x l v h hne hv ih=>
  obtain⟨_,i2,i3⟩:=ih
  have hsub:∀ t,t∈x::l→t∈x::Tok.arc x.st v :: .ver v :: .arc v x.st::l:=by
   intro t ht
   rcases ApT.1 ht with rfl|ht
   ·simp
   ·simp[ht]
  have hx:=hsub _ (i2 x (by simp))
  have cases3:∀ t,t∈x::Tok.arc x.st v :: .ver v :: .arc v x.st::l→t∈x::l∨t = .arc x.st v∨t = .ver v∨t = .arc v x.st:=by
   intro t ht
   simp only[ApT]at ht ⊢
   rcases ht with h|h|h|h|h<;>simp[h]
  refine⟨by simp,fun t ht => ?_,fun a b hab => ?_⟩
  ·rcases cases3 t ht with h|rfl|rfl|rfl
   ·exact hsub _ (i2 t h)
   ·simp[st]
   ·simp[st]
   ·exact hx
  ·rcases cases3 _ hab with h|h|h|h
   ·obtain⟨p1,p2,p3,p4⟩:=i3 a b h
    exact⟨hsub _ p1,hsub _ p2,hsub _ p3,p4⟩
   ·cases h;exact⟨hx,by simp,by simp,hne⟩
   ·cases h
   ·cases h;exact⟨by simp,hx,by simp,AqH hne⟩
 |rot a b h ih=>
  obtain⟨i1,i2,i3⟩:=ih
  have hm:∀ t,t∈a++b↔t∈b++a:=fun t=>List.perm_append_comm.mem_iff
  refine⟨by intro e;simp only[List.append_eq_nil_iff]at e;exact i1 (by simp[e.1,e.2]),fun t ht=>(hm _).1 (i2 t ((hm _).2 ht)),fun u v huv => ?_⟩
  obtain⟨p1,p2,p3,p4⟩:=i3 u v ((hm _).2 huv)
  exact⟨(hm _).1 p1,(hm _).1 p2,(hm _).1 p3,p4⟩
theorem T.nodup{l:List Tok}(h:T l):l.Nodup:=by
 induction h with
 |one v=>simp
 |add x l v h hne hv ih=>
  obtain⟨_,_,f3⟩:=h.facts
  have h1:Tok.arc x.st v∉x::l:=fun hm=>hv (f3 _ _ hm).2.1
  have h2:Tok.arc v x.st∉x::l:=fun hm=>hv (f3 _ _ hm).1
  simp only[ApT,not_or]at h1 h2 hv
  have ih':=Apw.1 ih
  simp only[Apw,ApT,not_or]
  refine⟨⟨fun e=>h1.1 e.symm,fun e=>hv.1 e.symm,fun e=>h2.1 e.symm,ih'.1⟩,⟨by simp,?_,h1.2⟩,⟨by simp,hv.2⟩,h2.2,ih'.2⟩
  intro e
  simp only[Tok.arc.injEq]at e
  exact hne e.1
 |rot a b h ih=>exact(List.perm_append_comm.nodup_iff).1 ih
def C(l:List Tok):Prop:=∀ r,Rot l r→∀ t,r.getLast? = some t→∃ c,run ([t.st],[t.st]) r=some ([t.st],c)∧∀ x,x∈c↔.ver x∈l
end Tok
end Go.Pev.Pl
end
section
namespace Go.Pev.Pl.Tok
theorem getLast?_app{a b:List Tok}{t:Tok}(h:b.getLast? = some t):(a++b).getLast? = some t:=by
 rw[Ars,h];rfl
theorem A0(s:List Int×List Int)(t:Tok)(l:List Tok):run s (t::l)=(step s t).bind fun s=>run s l:=by
 rw[run]
 cases step s t<;>rfl
theorem OI(v:Int):Inv ([v],[v]):=⟨by simp,by simp⟩
theorem T.toC{l:List Tok}(h:T l):C l:=by
 induction h with
 |one v=>
  intro r hr t ht
  have:r=[.ver v]:=List.perm_singleton.1 hr.perm.symm
  subst this
  simp at ht
  subst ht
  exact⟨[v],by simp[run,st,step],by simp⟩
 |rot a b h ih=>
  intro r hr t ht
  obtain⟨c,h1,h2⟩:=ih r (Rot.trans ⟨a,b,rfl,rfl⟩ hr) t ht
  exact⟨c,h1,fun x=>(h2 x).trans (List.perm_append_comm.mem_iff)⟩
 |add x l v h hne hv ih=>
  obtain⟨_,f2,f3⟩:=h.facts
  have hnz:∀ u w,Tok.arc u w∈x::l→¬ (w=v):=fun u w hm e=>hv (e▸(f3 u w hm).2.1)
  have fin:∀ {d2 c:List Int},(∀ y,y∈d2↔y∈c∨y=v)→(∀ y,y∈c↔.ver y∈x::l)→∀ y,y∈d2↔Tok.ver y∈x :: .arc x.st v :: .ver v :: .arc v x.st::l:=by
   intro d2 c e1 e2 y
   rw[e1,e2]
   simp only[ApT,reduceCtorEq,false_or,Tok.ver.injEq]
   constructor
   ·rintro ((h|h)|h)<;>simp[h]
   ·rintro (h|h|h)<;>simp[h]
  have triple:∀ {w' c1:List Int},Inv (x.st::w',c1)→v∉c1→∀ p,run (x.st::w',c1) (.arc x.st v :: .ver v :: .arc v x.st::p)=run (x.st::w',v::c1) p:=by
   intro w' c1 hi hn p
   have hh:w'.head?≠some v:=by
    intro e
    exact hn (hi.2 v (Apv _ (List.mem_of_head? e)))
   rw[A0,FP _ _ _ _ hh hn,AqB,A0,DO,AqB,A0,Ga,AqB]
  have G:∀ q1 p1,l=p1++q1→∀ t,(q1++x :: .arc x.st v :: .ver v :: .arc v x.st::p1).getLast? = some t→∃ c,run ([t.st],[t.st]) (q1++x :: .arc x.st v :: .ver v :: .arc v x.st::p1)=some ([t.st],c)∧∀ y,y∈c↔.ver y∈x :: .arc x.st v :: .ver v :: .arc v x.st::l:=by
   intro q1 p1 hl t ht
   have hrot:Rot (x::l) (q1++x::p1):=⟨x::p1,q1,by simp[hl],rfl⟩
   have ht0:∃ t0,(q1++x::p1).getLast? = some t0∧t0.st=t.st:=by
    cases p1 with
    |nil=>
     refine⟨x,getLast?_app (by simp),?_⟩
     rw[show q1++[x,Tok.arc x.st v,.ver v,.arc v x.st]=(q1++[x,Tok.arc x.st v,.ver v])++[Tok.arc v x.st] by simp,ArH]at ht
     cases ht;rfl
    |cons y p1=>
     refine⟨t,?_,rfl⟩
     rw[show q1++x::Tok.arc x.st v :: .ver v :: .arc v x.st::y::p1=(q1++[x,Tok.arc x.st v,.ver v,.arc v x.st])++y::p1 by simp,Ars]at ht
     rw[show q1++x::y::p1=(q1++[x])++y::p1 by simp,Ars]
     exact ht
   obtain⟨t0,e0,e1⟩:=ht0
   obtain⟨c,h1,h2⟩:=ih _ hrot t0 e0
   rw[e1,show q1++x::p1=(q1++[x])++p1 by simp,DQ,AqA]at h1
   obtain⟨⟨w1,c1⟩,g1,g2⟩:=h1
   obtain⟨i1,i2,i3⟩:=IS g1 (OI _)
   obtain⟨j1,j2,j3⟩:=IS g2 i1
   have i3':=i3 x (by simp)
   simp only at i3'
   cases w1 with
   |nil=>simp at i3'
   |cons w0 w'=>
    simp at i3'
    subst i3'
    have hn:v∉c1:=fun hm=>hv ((h2 v).1 (j2 v hm))
    obtain⟨d2,k1,k2⟩:=HK (Z:=(· = v)) (c2:=v::c1) (low:=[]) g2 (by simp) (fun y=>by simp[or_comm]) (fun u w hm=>hnz u w (by simp[hl,hm])) (by simp)
    refine⟨d2,?_,fin k2 h2⟩
    rw[show q1++x::Tok.arc x.st v :: .ver v :: .arc v x.st::p1=(q1++[x])++Tok.arc x.st v :: .ver v :: .arc v x.st::p1 by simp,DQ,g1,AqB,triple i1 hn]
    simpa using k1
  intro r hr t ht
  obtain⟨p,q,hpq,rfl⟩:=hr
  have base:∀ t0:Tok,(l++[x]).getLast? = some t0→t0=x:=fun t0 h=>by rw[ArH]at h;exact(AqP h).symm
  obtain⟨c,h1,h2⟩:=ih (l++[x]) ⟨[x],l,rfl,rfl⟩ x (by simp)
  match p with
  |[]=>
   simp only[Ap9]at hpq
   subst hpq
   have:=G [] l (by simp) t (by simpa using ht)
   simpa using this
  |[y]=>
   simp only[Aps,Ap9,Apo]at hpq
   obtain⟨rfl,rfl⟩:=hpq
   have:t=x:=by
    rw[ArH]at ht
    exact(AqP ht).symm
   subst this
   have hn:v∉[t.st]:=by simp;exact AqH hne
   obtain⟨d2,k1,k2⟩:=HK (Z:=(· = v)) (c2:=[v,t.st]) (low:=[]) h1 (by simp) (fun y=>by simp[or_comm]) (fun u w hm=>hnz u w (by simpa [or_comm]using hm)) (by simp)
   refine⟨d2,?_,fin k2 h2⟩
   rw[show(Tok.arc t.st v :: .ver v :: .arc v t.st::l)++[t]=Tok.arc t.st v :: .ver v :: .arc v t.st::(l++[t]) by simp,triple (OI _) hn]
   simpa using k1
  |[y,z]=>
   simp only[Aps,Ap9,Apo]at hpq
   obtain⟨rfl,rfl,rfl⟩:=hpq
   have:t = .arc x.st v:=by
    rw[show(Tok.ver v :: .arc v x.st::l)++[x,.arc x.st v]=(Tok.ver v :: .arc v x.st::l++[x])++[.arc x.st v] by simp,ArH]at ht
    exact(AqP ht).symm
   subst this
   obtain⟨d2,k1,k2⟩:=HK (Z:=(· = v)) (c2:=[x.st,v]) (low:=[v]) h1 (by simp) (fun y=>by simp) (fun u w hm=>hnz u w (by simpa [or_comm]using hm)) (by simp)
   refine⟨d2,?_,fin k2 h2⟩
   rw[show(Tok.ver v :: .arc v x.st::l)++[x,.arc x.st v]=Tok.ver v :: .arc v x.st::((l++[x])++[.arc x.st v]) by simp]
   rw[A0]
   show(step ([v],[v]) _).bind _=_
   rw[DO,AqB,A0,FP _ _ _ _ (by simp) (by simp;exact hne),AqB,DQ]
   rw[show([x.st]++[v]:List Int)=[x.st,v]from rfl]at k1
   rw[k1,AqB,A0,Ga]
   rfl
  |[y,z,w]=>
   simp only[Aps,Ap9,Apo]at hpq
   obtain⟨rfl,rfl,rfl,rfl⟩:=hpq
   have:t = .ver v:=by
    rw[show(Tok.arc v x.st::l)++[x,.arc x.st v,.ver v]=(Tok.arc v x.st::l++[x,.arc x.st v])++[.ver v] by simp,ArH]at ht
    exact(AqP ht).symm
   subst this
   obtain⟨d2,k1,k2⟩:=HK (Z:=(· = v)) (c2:=[x.st,v]) (low:=[v]) h1 (by simp) (fun y=>by simp) (fun u w hm=>hnz u w (by simpa [or_comm]using hm)) (by simp)
   refine⟨d2,?_,fin k2 h2⟩
   rw[show(Tok.arc v x.st::l)++[x,.arc x.st v,.ver v]=Tok.arc v x.st::((l++[x])++[.arc x.st v,.ver v]) by simp]
   rw[A0]
   show(step ([v],[v]) _).bind _=_
   rw[FP _ _ _ _ (by simp) (by simp;exact hne),AqB,DQ]
   rw[show([x.st]++[v]:List Int)=[x.st,v]from rfl]at k1
   rw[k1,AqB,A0,Ga,AqB,A0,DO]
   rfl
  |y::z::w::w2::p1=>
   simp only[Aps,Apo]at hpq
   obtain⟨rfl,rfl,rfl,rfl,rfl⟩:=hpq
   exact G q p1 rfl t ht
def comp(P:List Tok):List Int→List Tok
 |[]=>[]
 |w::r=>(if .ver w∈P then []else [.ver w])++match r with
  |[]=>[]
  |p::_=>.arc w p::comp P r
theorem QI{P P':List Tok}:∀ {way:List Int},(∀ w∈way,(Tok.ver w∈P↔Tok.ver w∈P'))→comp P way=comp P' way:=by
 intro way
 induction way with
 |nil=>intro _;rfl
 |cons w r ih=>
  intro h
  have h1:=h w (by simp)
  have h2:=ih fun x hx=>h x (Apv _ hx)
  simp only[comp,h1,h2]
theorem Ajp:∀ (M P:List Tok) (way c c':List Int) (r:Int) (t0:Tok),run (way,c) M=some ([r],c')→Inv (way,c)→P.getLast? = some t0→way.head? = some t0.st →
  T (P++comp P way)→(∀ x,.ver x∈P++comp P way→x∈c)→(∀ x∈c',Tok.ver x∈P++M)→(P++M).Nodup→T (P++M):=by
 intro M
 induction M with
 |nil=>
  intro P way c c' r t0 h hi hl hh hT hc hc' hn
  cases h
  have:=hc' r (hi.2 r (by simp))
  rw[Aqa]at this
  simpa [comp,this]using hT
 |cons t M ih=>
  intro P way c c' r t0 h hi hl hh hT hc hc' hn
  rw[A0,AqA]at h
  obtain⟨⟨w1,c1⟩,h1,h2⟩:=h
  obtain⟨hi1,hsub,hhd⟩:=AAo h1 hi
  have asso:P++t::M=(P++[t])++M:=by simp
  rw[asso]at hn hc' ⊢
  have hnt:t∉P:=by
   have:=(Aq1.1 (Aq1.1 hn).1)
   intro hm
   exact this.2.2 t hm t (by simp) rfl
  rcases Bw h1 with⟨v,rr,rfl,hw,e⟩|⟨u,v,rr,rfl,hw,e⟩|⟨u,v,rr,rfl,hw,hh2,hn2,e⟩
  ·cases e
   simp only at hw
   subst hw
   have key:comp P (v::rr) = .ver v::comp (P++[.ver v]) (v::rr):=by
    have e2:comp P rr=comp (P++[.ver v]) rr:=QI fun w hwm=>by
     have:w≠v:=by rintro rfl;exact(Apw.1 hi.1).1 hwm
     simp[this]
    simp only[comp,hnt,e2]
    simp
   rw[key]at hT hc
   exact ih _ _ _ _ _ (.ver v) h2 hi1 (by simp) hhd (by simpa using hT) (fun x hx=>hc x (by simpa using hx)) hc' hn
  ·cases e
   simp only at hw
   subst hw
   have hu:Tok.ver u∈P:=by
    have hun:=(Apw.1 hi.1).1
    obtain⟨g1,_⟩:=ABG (z:=u) (c:=c.filter (·≠u)) h2 hun (fun x=>by
     simp only[Apg,ApQ]
     constructor
     ·intro h
      by_cases e:x=u
      ·exact .inr e
      ·exact .inl ⟨h,by simpa using e⟩
     ·rintro (h|rfl)
      ·exact h.1
      ·exact hi.2 x (by simp)) (by simp)
    have hmono:=(IS h2 hi1).2.1 u (hi.2 u (by simp))
    have:=hc' u hmono
    simp only[ApR,Ap4,reduceCtorEq,AsX]at this
    rcases this with h|h
    ·exact h
    ·exact absurd h g1
   have key:comp P (u::v::rr) = .arc u v::comp (P++[.arc u v]) (v::rr):=by
    have e2:comp P (v::rr)=comp (P++[.arc u v]) (v::rr):=QI fun w hwm=>by simp
    rw[← e2]
    simp only[comp,hu]
    simp
   rw[key]at hT hc
   exact ih _ _ _ _ _ (.arc u v) h2 hi1 (by simp) hhd (by simpa using hT) (fun x hx=>hc x (by simpa using hx)) hc' hn
  ·cases e
   simp only at hw hn2
   subst hw
   have hu:u=t0.st:=by simpa using hh
   subst hu
   have hvc:∀ x,Tok.ver x∈P++comp P (t0.st::rr)→x≠v:=by rintro x hx rfl;exact hn2 (hc x hx)
   have hvP:Tok.ver v∉P++comp P (t0.st::rr):=fun hm=>hvc v hm rfl
   have hvP':Tok.ver v∉P:=fun hm=>hvP (by simp[hm])
   have key:comp (P++[.arc t0.st v]) (v::t0.st::rr) = .ver v :: .arc v t0.st::comp P (t0.st::rr):=by
    have e2:comp (P++[.arc t0.st v]) (t0.st::rr)=comp P (t0.st::rr):=QI fun w hwm=>by simp
    rw[← e2]
    simp only[comp,ApR,hvP',Ap4,reduceCtorEq,AsX,Apf]
    rfl
   have hne:t0.st≠v:=by rintro e;exact hn2 (e▸hi.2 t0.st (by simp))
   refine ih _ _ _ _ _ (.arc t0.st v) h2 hi1 (by simp) hhd ?_ ?_ hc' hn
   ·rw[key]
    obtain⟨P0,rfl⟩:∃ P0,P=P0++[t0]:=AsT.1 hl
    have hT1:T (t0::(comp (P0++[t0]) (t0.st::rr)++P0)):=hT.AXS ⟨P0,t0::comp (P0++[t0]) (t0.st::rr),by simp,by simp⟩
    have hT2:=T.add t0 _ v hT1 hne (by
     intro hm
     apply hvP
     simp only[ApR,ApT,Arh,AsX]at hm ⊢
     rcases hm with h|h|h<;>simp[h])
    exact hT2.AXS ⟨t0 :: .arc t0.st v :: .ver v :: .arc v t0.st::comp (P0++[t0]) (t0.st::rr),P0,by simp,by simp⟩
   ·intro x hx
    rw[key]at hx
    simp only[ApR,ApT,Arh,AsX,reduceCtorEq,Tok.ver.injEq,false_or]at hx
    rcases hx with h|h|h
    ·exact Apv _ (hc x (by simp[h]))
    ·simp[h]
    ·exact Apv _ (hc x (by simp[h]))
def Av(l:List Tok):Prop:=∃ r l' c,l = .ver r::l'∧run ([r],[r]) l=some ([r],c)∧∀ x∈c,Tok.ver x∈l
theorem Av.toT{l:List Tok}(h:Av l)(hn:l.Nodup):T l:=by
 obtain⟨r,l',c,rfl,h1,h2⟩:=h
 rw[A0,DO,AqB]at h1
 have:=Ajp l' [.ver r] [r] [r] c r (.ver r) h1 (OI r) (by simp) (by simp[st]) (by simp[comp];exact T.one r) (by simp[comp]) (by simpa using h2) (by simpa using hn)
 simpa using this
theorem T.AKf{r:Int}{l:List Tok}(h:T (.ver r::l)):Av (.ver r::l):=by
 obtain⟨t,ht⟩:∃ t,(Tok.ver r::l).getLast? = some t:=⟨_,Ar9 (by simp)⟩
 obtain⟨c,h1,h2⟩:=h.toC _ (Rot.refl _) t ht
 have h1':=h1
 rw[A0,AqA]at h1'
 obtain⟨s,g1,_⟩:=h1'
 have e:t.st=r:=by
  simp only[step]at g1
  split at g1
  ·assumption
  ·cases g1
 rw[e]at h1
 exact⟨r,l,c,rfl,h1,fun x hx=>(h2 x).1 hx⟩
end Go.Pev.Pl.Tok
end
section
namespace Go.Pev.Pl.Tok
theorem T.ATr{l:List Tok}(h:T l):∃ v r,Rot l (.ver v::r):=by
 obtain⟨f1,f2,_⟩:=h.facts
 obtain⟨t,ht⟩:=List.exists_mem_of_ne_nil l f1
 obtain⟨a,b,rfl⟩:=Ar4 (f2 t ht)
 exact⟨t.st,b++a,a,.ver t.st::b,rfl,rfl⟩
theorem T.less{x:Tok}{v:Int}{l:List Tok}(h:T (x :: .arc x.st v :: .ver v :: .arc v x.st::l)):T (x::l):=by
 have hC:=h.toC
 have hn:=h.nodup
 obtain⟨_,f2,f3⟩:=h.facts
 have hne:x.st≠v:=(f3 x.st v (by simp)).2.2.2
 have hvl:Tok.ver v∉l:=by
  intro hm
  simp only[Apw,ApT,not_or]at hn
  exact hn.2.2.1.2 hm
 have hvx:x≠.ver v:=by rintro rfl;exact hne rfl
 have key:∀ p q,l=p++q→∀ t0,(q++x::p).getLast? = some t0→∃ c,run ([t0.st],[t0.st]) (q++x::p)=some ([t0.st],c)∧∀ y,y∈c↔.ver y∈x::l:=by
  intro p q hl t0 ht0
  have hrot:Rot (x :: .arc x.st v :: .ver v :: .arc v x.st::l) (q++x :: .arc x.st v :: .ver v :: .arc v x.st::p):=⟨x :: .arc x.st v :: .ver v :: .arc v x.st::p,q,by simp[hl],rfl⟩
  have ht:∃ t,(q++x::Tok.arc x.st v :: .ver v :: .arc v x.st::p).getLast? = some t∧t.st=t0.st:=by
   cases p with
   |nil=>
    rw[ArH]at ht0
    cases ht0
    exact⟨.arc v x.st,by rw[show q++[x,Tok.arc x.st v,.ver v,.arc v x.st]=(q++[x,Tok.arc x.st v,.ver v])++[Tok.arc v x.st] by simp,ArH],rfl⟩
   |cons y p=>
    refine⟨t0,?_,rfl⟩
    rw[show q++x::Tok.arc x.st v :: .ver v :: .arc v x.st::y::p=(q++[x,Tok.arc x.st v,.ver v,.arc v x.st])++y::p by simp,Ars]
    rw[show q++x::y::p=(q++[x])++y::p by simp,Ars]at ht0
    exact ht0
  obtain⟨t,e0,e1⟩:=ht
  obtain⟨c,h1,h2⟩:=hC _ hrot t e0
  rw[e1,show q++x::Tok.arc x.st v :: .ver v :: .arc v x.st::p=(q++[x])++Tok.arc x.st v :: .ver v :: .arc v x.st::p by simp,DQ,AqA]at h1
  obtain⟨⟨w1,c1⟩,g1,g2⟩:=h1
  obtain⟨i1,i2,i3⟩:=IS g1 (OI _)
  have i3':=i3 x (by simp)
  simp only at i3'
  cases w1 with
  |nil=>simp at i3'
  |cons w0 w'=>
   simp at i3'
   subst i3'
   rw[A0,AqA]at g2
   obtain⟨s1,k1,k2⟩:=g2
   rcases Bw k1 with⟨v',r,e,_⟩|⟨u',v',r,e,hw,rfl⟩|⟨u',v',r,e,hw,hh,hnc,rfl⟩
   ·cases e
   ·cases e
    simp only[Apo]at hw
    obtain⟨_,rfl⟩:=hw
    exfalso
    rw[A0,DO,AqB,A0,AqA]at k2
    obtain⟨s2,m1,_⟩:=k2
    have hnd:=i1.1
    rcases Bw m1 with⟨v',r',e,_⟩|⟨u',v',r',e,hw,rfl⟩|⟨u',v',r',e,hw,hh,hnc,rfl⟩
    ·cases e
    ·cases e
     simp only[Apo]at hw
     obtain⟨_,rfl⟩:=hw
     simp at hnd
    ·cases e
     exact hnc (i1.2 _ (by simp))
   ·cases e
    simp only[Apo,Ar8]at hw
    subst hw
    simp only at hnc
    rw[A0,DO,AqB,A0,Ga,AqB]at k2
    have hvw:v∉x.st::w':=fun hm=>hnc (i1.2 v hm)
    obtain⟨_,d,m1,m2,m3⟩:=ABG (z:=v) (c:=c1) k2 hvw (fun y=>by simp[or_comm]) hnc
    refine⟨d,?_,fun y => ?_⟩
    ·rw[show q++x::p=(q++[x])++p by simp,DQ,g1,AqB,m1]
    ·have q1:=m2 y
     have q2:=h2 y
     by_cases e:y=v
     ·subst e
      refine⟨fun h=>absurd h m3,fun h => ?_⟩
      rcases ApT.1 h with h|h
      ·exact absurd h.symm hvx
      ·exact absurd h hvl
     ·rw[q2]at q1
      simp only[e,AsX]at q1
      rw[← q1]
      simp[e]
 obtain⟨s,b,a,hsb⟩:∃ s a b,x::l=a ++ .ver s::b:=by
  have:=f2 x (by simp)
  simp only[ApT,reduceCtorEq,false_or,Tok.ver.injEq,hne]at this
  rcases this with h|h
  ·exact⟨x.st,[],l,by rw[← h];rfl⟩
  ·obtain⟨a,b,rfl⟩:=Ar4 h
   exact⟨x.st,x::a,b,rfl⟩
 have hg:Av (.ver s::a++b):=by
  have hr:∃ p q,l=p++q∧q++x::p = .ver s::a++b:=by
   cases b with
   |nil=>
    simp only[Ap9,Apo]at hsb
    obtain⟨rfl,rfl⟩:=hsb
    exact⟨l,[],by simp,by simp⟩
   |cons y b=>
    simp only[Aps,Apo]at hsb
    obtain⟨rfl,rfl⟩:=hsb
    exact⟨b,.ver s::a,rfl,by simp⟩
  obtain⟨p,q,hl,e⟩:=hr
  obtain⟨t0,ht0⟩:∃ t0,(q++x::p).getLast? = some t0:=⟨_,Ar9 (by simp)⟩
  obtain⟨c,h1,h2⟩:=key p q hl t0 ht0
  rw[e]at h1
  have h1':=h1
  rw[Aps,A0,AqA]at h1'
  obtain⟨s',g1,_⟩:=h1'
  have e':t0.st=s:=by
   simp only[step]at g1
   split at g1
   ·assumption
   ·cases g1
  rw[e']at h1
  refine⟨s,a++b,c,rfl,h1,fun y hy => ?_⟩
  have:=(h2 y).1 hy
  rw[hsb]at this
  simp only[ApR,ApT]at this ⊢
  rcases this with h|h|h<;>simp[h]
 have hrot2:Rot (.ver s::a++b) (x::l):=⟨.ver s::a,b,rfl,hsb⟩
 have hnx:(x::l).Nodup:=by
  simp only[Apw,ApT,not_or]at hn ⊢
  exact⟨hn.1.2.2.2,hn.2.2.2.2⟩
 exact(hg.toT (hrot2.nodup.2 hnx)).AXS hrot2
theorem T.leaf{l:List Tok}(h:T l):(∃ v,l=[.ver v])∨∃ x v r,Rot l (x :: .arc x.st v :: .ver v :: .arc v x.st::r):=by
 induction h with
 |one v=>exact .inl ⟨v,rfl⟩
 |add x l v h hne hv ih=>exact .inr ⟨x,v,l,Rot.refl _⟩
 |rot a b h ih=>
  rcases ih with⟨v,e⟩|⟨x,v,r,hr⟩
  ·have hr:Rot [.ver v] (b++a):=⟨a,b,e.symm,rfl⟩
   exact .inl ⟨v,List.perm_singleton.1 hr.perm.symm⟩
  ·exact .inr ⟨x,v,r,Rot.trans ⟨b,a,rfl,rfl⟩ hr⟩
def MD:List Tok→List Int
 |[]=>[]
 |.ver v::l=>v::MD l
 |.arc _ _::l=>MD l
theorem RL{v:Int}:∀ {l:List Tok},v∈MD l↔.ver v∈l
 |[]=>by simp[MD]
 |.ver w::l=>by simp[MD,RL (l:=l)]
 |.arc _ _::l=>by simp[MD,RL (l:=l)]
theorem APQ(a b:List Tok):MD (a++b)=MD a++MD b:=by
 induction a with
 |nil=>rfl
 |cons t a ih=>cases t<;>simp[MD,ih]
theorem T.len{l:List Tok}(h:T l):l.length+2=3*(MD l).length:=by
 induction h with
 |one v=>rfl
 |add x l v h hne hv ih=>
  cases x<;>simp[MD]at ih ⊢<;>omega
 |rot a b h ih=>
  simp only[APQ,ApS]at ih ⊢
  omega
end Go.Pev.Pl.Tok
end
section
section
namespace Go.Pev.Pl
open Tok
def In(n v:Int):Prop:=1≤n∧n≤64∧0≤v∧v<n
instance (n v:Int):Decidable (In n v):=inferInstanceAs (Decidable (_∧_))
def Sz(n:Int):Prop:=1≤n∧n≤64
instance (n:Int):Decidable (Sz n):=inferInstanceAs (Decidable (_∧_))
theorem KM(n:Int):ME (n,())=some (decide (Sz n),()):=by
 rw[AHp,Qj]
 simp only[An]
 by_cases h1:1≤n<;>by_cases h2:n≤64<;>simp[Sz,h1,h2]
theorem AKv(n v:Int):tin (n,v,())=some (decide (In n v),()):=by
 rw[Agz,AaP]
 simp only[KM,An,Af]
 by_cases h1:1≤n<;>by_cases h2:n≤64<;>by_cases h3:0≤v<;>simp[In,Sz,h1,h2,h3]
def Ao9(n v:Int):Int:=if In n v then v else -1
def OX(n u v:Int):Int:=if In n u∧In n v∧u≠v then n*(u+1)+v else -1
theorem Ke{n u:Int}(h1:1≤n)(h2:n≤64)(h3:0≤u)(h4:u≤64):0≤n*u∧n*u≤4096:=by
 refine⟨Int.mul_nonneg (by omega) h3,?_⟩
 have:=Int.mul_le_mul h2 h4 h3 (by omega)
 omega
theorem Ag3(n u v:Int):AcW (n,u,v,())=some (OX n u v,()):=by
 rw[AaQ,AKw]
 simp only[AKv,OX,Ad]
 by_cases h3:u=v
 ·simp[h3]
 ·by_cases h1:In n u
  ·by_cases h2:In n v
   ·obtain⟨a1,a2,a3,a4⟩:=h1
    obtain⟨b1,b2,b3,b4⟩:=h2
    have hb:=Ke (u:=u+1) a1 a2 (by omega) (by omega)
    rw[Ah (n:=u+1) (by omega),Ah (n:=n*(u+1)) (by omega),Ah (n:=n*(u+1)+v) (by omega)]
    simp[In,a1,a2,a3,a4,b3,b4,h3]
   ·simp[h1,h2,h3]
  ·simp[h1,h3]
def Eu(n t:Int):Option Tok:=
 if In n t then some (.ver t)
 else if Sz n∧n≤t∧t<n*(n+1)∧t/n-1≠t % n then some (.arc (t/n-1) (t % n))
 else none
def AVE:Option Tok→Int×Int×Bool×Bool×Unit
 |some (.ver v)=>(v,0,false,true,())
 |some (.arc u v)=>(u,v,true,true,())
 |none=>(0,0,false,false,())
def F4(n:Int):Tok→Int
 |.ver v=>v
 |.arc u v=>n*(u+1)+v
def okT(n:Int):Tok→Prop
 |.ver v=>In n v
 |.arc u v=>In n u∧In n v∧u≠v
theorem Zg{n u v:Int}(h1:In n u)(h2:In n v):n≤n*(u+1)+v∧n*(u+1)+v<n*(n+1)∧(n*(u+1)+v)/n=u+1∧(n*(u+1)+v) % n=v:=by
 obtain⟨a1,a2,a3,a4⟩:=h1
 obtain⟨b1,b2,b3,b4⟩:=h2
 have e2:n*(u+1)=n*u+n:=by rw[Int.mul_add,Int.mul_one]
 have e3:n*(n+1)=n*n+n:=by rw[Int.mul_add,Int.mul_one]
 have hb:=Ke (u:=u) a1 a2 (by omega) (by omega)
 have hle:n*(u+1)≤n*n:=Int.mul_le_mul_of_nonneg_left (by omega) (by omega)
 have hd:(n*(u+1)+v)/n=u+1:=by
  rw[Int.add_comm,Int.add_mul_ediv_left _ _ (by omega),Int.ediv_eq_zero_of_lt b3 b4];omega
 have hm:(n*(u+1)+v) % n=v:=by
  rw[Int.add_comm,Int.add_mul_emod_self_left,Int.emod_eq_of_lt b3 b4]
 exact⟨by omega,by omega,hd,hm⟩
theorem Abd{n t:Int}(hn:Sz n)(h1:n≤t)(h2:t<n*(n+1)):In n (t/n-1)∧In n (t % n)∧n*(t/n-1+1)+t % n=t:=by
 obtain⟨a1,a2⟩:=hn
 have g1:1≤t/n:=(Int.le_ediv_iff_mul_le (by omega)).2 (by omega)
 have g2:t/n<n+1:=(Int.ediv_lt_iff_lt_mul (by omega)).2 (by rw[Int.mul_comm];exact h2)
 have g3:=Int.emod_nonneg t (show n≠0 by omega)
 have g4:=Int.emod_lt_of_pos t (show 0<n by omega)
 have g5:=Int.mul_ediv_add_emod t n
 refine⟨⟨a1,a2,by omega,by omega⟩,⟨a1,a2,g3,g4⟩,?_⟩
 rw[Int.sub_add_cancel]
 exact g5
theorem FO{n:Int}{t:Tok}(h:okT n t):Eu n (F4 n t)=some t:=by
 cases t with
 |ver v=>simp only[okT]at h;simp[Eu,F4,h]
 |arc u v=>
  obtain⟨h1,h2,h3⟩:=h
  obtain⟨g1,g2,g3,g4⟩:=Zg h1 h2
  have hni:¬ In n (n*(u+1)+v):=fun h=>by have:=h.2.2.2;omega
  have:u+1-1=u:=by omega
  simp only[Eu,F4,hni,Apf,g3,g4,this]
  rw[ApZ ⟨⟨h1.1,h1.2.1⟩,g1,g2,h3⟩]
theorem AfI{n x:Int}{t:Tok}(h:Eu n x=some t):okT n t∧F4 n t=x:=by
 rw[Eu]at h
 split at h
 ·cases h;exact⟨by assumption,rfl⟩
 ·split at h
  ·rename_i hh
   cases h
   obtain⟨d1,d2,d3⟩:=Abd hh.1 hh.2.1 hh.2.2.1
   exact⟨⟨d1,d2,hh.2.2.2⟩,d3⟩
  ·cases h
theorem H5{n u v:Int}(h:okT n (.arc u v)):OX n u v=F4 n (.arc u v):=by
 simp only[okT]at h
 rw[OX,ApZ h];rfl
theorem Rn{n:Int}{a b:Tok}(ha:okT n a)(hb:okT n b)(h:F4 n a=F4 n b):a=b:=by
 have:=FO ha
 rw[h,FO hb]at this
 exact(AqP this).symm
theorem AU7(n t:Int)(ht:-9223372036854775808≤t∧t≤9223372036854775807):AAH (n,t,())=some (AVE (Eu n t)):=by
 rw[AHo,Qi]
 simp only[KM]
 by_cases hs:Sz n
 ·obtain⟨a1,a2⟩:=hs
  have hb:=Ke (u:=n) a1 a2 (by omega) (by omega)
  have e3:n*(n+1)=n*n+n:=by rw[Int.mul_add,Int.mul_one]
  rw[Ah (n:=n+1) (by omega),Ah (n:=n*(n+1)) (by omega)]
  simp only[Sz,a1,a2,and_self,Apn,ApX,Af,An]
  by_cases h1:t<0
  ·have hni:¬ In n t:=fun h=>by have:=h.2.2.1;omega
   have h2:¬ n≤t:=by omega
   simp only[h1,Apn,Eu,hni,Apf,h2,AsI,and_false,AVE]
  ·simp only[h1,Ap8]
   by_cases h2:n*(n+1)≤t
   ·have hni:¬ In n t:=fun h=>by have:=h.2.2.2;omega
    have h3:¬ t<n*(n+1):=by omega
    simp only[h2,Apn,Eu,hni,Apf,h3,AsI,and_false,AVE]
   ·simp only[h2,Ap8]
    by_cases h3:t<n
    ·have hi:In n t:=⟨a1,a2,by omega,h3⟩
     simp only[h3,Apn,Eu,hi,Ap6,AVE]
    ·have hni:¬ In n t:=fun h=>h3 h.2.2.2
     have hq:t.tdiv n=t/n:=Ark (by omega)
     have hm:t.tmod n=t % n:=Int.tmod_eq_emod_of_nonneg (by omega)
     obtain⟨d1,d2,d3⟩:=Abd (t:=t) ⟨a1,a2⟩ (by omega) (by omega)
     have q1:=d1.2.2.1
     have q2:=d1.2.2.2
     simp only[h3,Ap8,Pb,Q9,AWN,AGi]
     rw[ApV (by omega),ApV (by omega),hq,hm,Ah (n:=t/n) (by omega)]
     simp only[]
     rw[Ah (n:=t/n-1) (by omega),Ad,Eu,ApV hni]
     by_cases h4:t/n-1=t % n
     ·rw[ApV (by intro h;exact h.2.2.2 h4),ApM h4];rfl
     ·rw[ApZ ⟨⟨a1,a2⟩,by omega,by omega,h4⟩,ApL h4];rfl
 ·have hni:¬ In n t:=fun h=>hs ⟨h.1,h.2.1⟩
  simp only[hs,Ap8,Ap5,Eu,hni,Apf,AsI,AVE]
def B6(n:Nat):List (List Int):=(List.range n).map fun(v:Nat)=>[(v:Int)]
theorem ALD(n:Nat):B6 (n+1)=B6 n++[[(n:Int)]]:=by simp[B6,AqG]
theorem AP8(n:Nat):(B6 n).length=n:=by simp[B6]
theorem AVG(N:Nat)(hN:N≤64)(c:Int):∀ (k i n:Nat),i+k=N→k<n→Aj HU n (c,(N:Int),B6 i,(N:Int),(i:Int),())=some (.inl (c,(N:Int),B6 N,())):=by
 intro k
 induction k with
 |zero=>
  intro i n hi hn
  obtain⟨n,rfl⟩:∃ k,n=k+1:=⟨n-1,by omega⟩
  have:i=N:=by omega
  subst this
  rw[Aj,HU,AL,ApL (by omega)]
 |succ k ih=>
  intro i n hi hn
  obtain⟨n,rfl⟩:∃ k,n=k+1:=⟨n-1,by omega⟩
  rw[Aj,HU,AL,ApM (by omega)]
  simp only[AR,AP8,ApW,Apk]
  rw[Bm (by omega),AP (by omega)]
  simp only[ES,← ALD]
  exact ih (i+1) n (by omega) (by omega)
def ZZ(n:Int):Int×List (List Int)×Int×Unit:=if Sz n then(n,B6 n.toNat,0,())else(0,[],1,())
theorem AcI(n:Int):APo (n,())=some (ZZ n):=by
 have hm:4294967296<many:=by simp only[many];omega
 rw[APn,ZO,ZZ]
 simp only[KM]
 by_cases h:Sz n
 ·obtain⟨h1,h2⟩:=h
  obtain⟨N,rfl⟩:=Apa (show 0≤n by omega)
  have hS:Sz (N:Int):=⟨by omega,by omega⟩
  have e:=AVG N (by omega) 0 N 0 many (by omega) (by omega)
  have e':Aj HU many (0,(N:Int),[],(N:Int),(0:Int),())=_:=e
  simp[hS,A3,e']
 ·simp[h]
end Go.Pev.Pl
end
section
namespace Go.Pev.Pl
theorem Pu(xs:List Int)(t:Int)(hs:xs.length<9223372036854775808):Pv (xs,t,())=some (pos xs t,()):=by
 rw[AI0,RR]
 have e:=Hr (step:=Fj) (fun i=>(xs,t,AM xs,(i:Int),())) xs (fun x=>decide (x=t)) (fun i=>.inl ((i:Int),())) (.inr (.inl ())) hs
  (fun i x hi hx=>by
   rw[Fj,AR,AL,ApM hi]
   simp only[AU hx,Ad]
   by_cases h:x=t
   ·simp[h]
   ·simp only[h,AqH h,Ap8];rw[AP (by omega)];simp)
  (by rw[Fj,AR,AL,ApL (by omega)])
 have e':AX Fj many (xs,t,AM xs,(0:Int),())=_:=e
 rw[e',Anc,pos]
 by_cases h:t∈xs<;>simp[h]
theorem JD(xs:List Int)(t:Int)(hs:xs.length<9223372036854775808):F9 (xs,t,())=some (decide (t∈xs),()):=by
 rw[Ry,Im]
 simp only[Pu xs t hs,An]
 by_cases h:t∈xs
 ·obtain⟨k,e,_⟩:=AiA h
  rw[e];simp[h]
 ·rw[Aai h];simp[h]
def Rt(xs:List Int):Prop:=xs.length≤1000∧(∀ x∈xs,0≤x∧x≤10000)∧xs.Nodup
instance (xs:List Int):Decidable (Rt xs):=inferInstanceAs (Decidable (_∧_∧_))
theorem ATq(xs:List Int)(hs:xs.length<9223372036854775808):D4 (xs,())=some (xs.any (fun x=>decide (x<0)||decide (10000<x)),()):=by
 rw[J4,EB,L0,E3]
 have e:=Hr (step:=By) (fun i=>(xs,AM xs,(i:Int),())) xs (fun x=>decide (x<0)||decide (10000<x)) (fun i=>.inl ((i:Int),())) (.inr (.inl ())) hs
  (fun i x hi hx=>by
   rw[By,AR,AL,ApM hi]
   simp only[AU hx,Af]
   rw[AP (by omega)]
   by_cases h:x<0
   ·simp[h]
   ·by_cases h2:10000<x
    ·simp[h,h2]
    ·simp[h,h2])
  (by rw[By,AR,AL,ApL (by omega)])
 have e':AX By many (xs,AM xs,(0:Int),())=_:=e
 rw[e']
 generalize (xs.any fun x=>decide (x<0)||decide (10000<x))=b
 cases b<;>simp[An]
theorem Aiz(xs:List Int)(hs:xs.length<9223372036854775808):once (xs,())=some (decide xs.Nodup,()):=by
 rw[Aaw,AML]
 have e:=Er (step:=KZ) (fun i m=>(xs,m,xs,AM xs,(i:Int),())) xs (fun x m=>.inl (Ae m x (IntKind.wrap .i64 (((AS m x).getD (0:Int))+(1:Int))))) (fun m=>.inl (xs,m,())) (fun _ _=>True) hs
  (fun i x m hi hx _=>by
   refine⟨fun m' h' => ?_,fun r h'=>by cases h'⟩
   cases h'
   rw[KZ,AR,AL,ApM hi]
   simp only[AU hx]
   rw[AP (by omega)]
   exact⟨rfl,trivial⟩)
  (fun m _=>by rw[KZ,AR,AL,ApL (by omega)]) [] trivial
 have e':AX KZ many (xs,([]:List (Int×Int)),xs,AM xs,(0:Int),())=_:=e
 rw[e',CP]
 have key:∀ (l:List Int) (m:List (Int×Int)),BC (l.foldl (fun m x=>Ae m x (IntKind.wrap .i64 (((AS m x).getD (0:Int))+(1:Int)))) m)=dd (BC m) l:=by
  intro l
  induction l with
  |nil=>intro m;rfl
  |cons x l ih=>intro m;rw[AqT,ih,Pr,dd]
 have hk:=key xs []
 generalize xs.foldl (fun m x=>Ae m x (IntKind.wrap .i64 (((AS m x).getD (0:Int))+(1:Int)))) []=m at *
 simp only[AjX]
 have:m.length=(dd [] xs).length:=by rw[← VI,hk];rfl
 rw[this]
 simp only[AkU]
theorem PT(xs:List Int):PU (xs,())=some (decide (Rt xs),()):=by
 rw[AIL,Q3,AR,Af]
 by_cases hl:xs.length≤1000
 ·rw[ApL (by omega)]
  simp only[ATq xs (by omega),Aiz xs (by omega)]
  have hany:(xs.any fun x=>decide (x<0)||decide (10000<x)) = !decide (∀ x∈xs,0≤x∧x≤10000):=by
   rw[Aqo]
   simp only[ArU,Aq5,ApQ,Aq8,AqQ]
   constructor
   ·rintro⟨x,hx,h⟩ hh
    have:=hh x hx
    omega
   ·intro h
    refine Aql fun hc=>h fun x hx => ?_
    refine Aql fun hn=>hc ⟨x,hx,by omega⟩
  rw[hany]
  by_cases h1:∀ x∈xs,0≤x∧x≤10000
  ·rw[ApM h1]
   by_cases h2:xs.Nodup
   ·rw[ApM h2,ApM (show Rt xs from⟨hl,h1,h2⟩)];rfl
   ·rw[ApL h2,ApL (show ¬ Rt xs from fun h=>h2 h.2.2)];rfl
  ·rw[ApL h1,ApL (show ¬ Rt xs from fun h=>h1 h.2.1)];rfl
 ·rw[ApM (by omega),ApL (show ¬ Rt xs from fun h=>hl h.1)]
def rot(xs:List Int)(k:Nat):List Int:=xs.drop k++xs.take k
theorem Aej(n:Nat)(hn:n<4294967296):AS1 ((n:Int),())=some ([],()):=by
 have e0:IntKind.wrap .i64 ((n:Int)-IntKind.wrap .i64 ((0:Int)-0))=(n:Int):=by rw[Ah (n:=(0:Int)-0) (by omega),Ah (by omega)];omega
 rw[AS0,Zd]
 simp only[e0,Af]
 rw[ApL (by omega)]
 simp only[]
 by_cases h:0<n
 ·rw[ApM (by omega)]
  have s1:EF ([]:List Unit) (0:Int) (0:Int)=some []:=by rw[ZP];rfl
  have s2:EF (D3 (AN (n:Int)) (0:Int)) (0:Int) (0:Int)=some []:=by
   rw[ZP,Oa,ApZ (by omega)]
   simp
  have s3:CM (n:Int)=true:=(N5 _).2 (by omega)
  simp only[s1,s2,s3]
  rfl
 ·rw[ApL (by omega)]
theorem Ii{α:Type}{xss:List (List α)}{i:Nat}{x:List α}(h:xss[i]? = some x):(xss.take (i+1)).flatten=(xss.take i).flatten++x:=by
 rw[Aro,h];simp
theorem L3{α:Type}(xss:List (List α))(i:Nat):(xss.take i).flatten.length≤xss.flatten.length:=by
 conv=>rhs;rw[← AqX i xss,Ary,ApS]
 omega
theorem YG(xss:List (List Int))(hs:xss.length<4294967296)(h:xss.flatten.length<4294967296):LN (xss,())=some (xss.flatten,()):=by
 rw[AEz,OA]
 have e:=Er (step:=EU) (fun i (a:Nat)=>(xss,(a:Int),xss,AM xss,(i:Int),())) xss (fun x a=>.inl (a+x.length)) (fun a=>.inl (xss,(a:Int),())) (fun i a=>a=(xss.take i).flatten.length) (by omega)
  (fun i x a hi hx ha=>by
   refine⟨fun m' h' => ?_,fun r h'=>by cases h'⟩
   cases h'
   have h1:=Ii hx
   have h2:=L3 xss (i+1)
   rw[h1,ApS]at h2
   rw[EU]
   simp only[AR]
   rw[AL,ApM hi]
   simp only[AU hx]
   rw[wrap_add (by omega),AP (by omega),Af,ApL (by omega)]
   exact⟨rfl,by rw[h1,ApS,ha]⟩)
  (fun a _=>by rw[EU,AR,AL,ApL (by omega)]) 0 rfl
 have e':AX EU many (xss,(0:Int),xss,AM xss,(0:Int),())=_:=e
 rw[e',CP]
 have hsum:∀ (l:List (List Int)) (a:Nat),l.foldl (fun a x=>a+x.length) a=a+l.flatten.length:=by
  intro l
  induction l with
  |nil=>intro a;rfl
  |cons x l ih=>intro a;rw[AqT,ih,Aqt,ApS];omega
 rw[hsum,Aqe]
 simp only[Aej _ h]
 have g:=Er (step:=ET) (fun i (a:List Int)=>(a,xss,AM xss,(i:Int),())) xss (fun x a=>.inl (a++x)) (fun a=>.inl (a,())) (fun i a=>a=(xss.take i).flatten) (by omega)
  (fun i x a hi hx ha=>by
   refine⟨fun m' h' => ?_,fun r h'=>by cases h'⟩
   cases h'
   have h1:=Ii hx
   have h2:=L3 xss (i+1)
   rw[h1,ApS]at h2
   rw[ET]
   simp only[AR]
   rw[AL,ApM hi]
   simp only[AU hx]
   rw[AP (by omega),Bm (by rw[ha];omega)]
   exact⟨rfl,by rw[h1,ha]⟩)
  (fun a _=>by rw[ET,AR,AL,ApL (by omega)]) [] rfl
 have g':AX ET many ([],xss,AM xss,(0:Int),())=_:=g
 rw[g',CP]
 have hcat:∀ (l:List (List Int)) (a:List Int),l.foldl (fun a x=>a++x) a=a++l.flatten:=by
  intro l
  induction l with
  |nil=>intro a;simp
  |cons x l ih=>intro a;rw[AqT,ih,Aqt,Ap1]
 rw[hcat]
 rfl
theorem AAA(xs:List Int)(k:Nat)(hk:k≤xs.length)(hs:xs.length<2147483648):TH (xs,(k:Int),())=some (rot xs k,()):=by
 rw[AHn,Qh]
 simp only[Qq hk,AAm hk]
 rw[YG _ (by simp) (by simp;omega)]
 simp[rot]
def Bz(xs:List Int)(t:Int):List Int:=rot xs (xs.findIdx (fun x=>decide (x=t)))
def ANG(xs:List Int)(t:Int):List Int×Bool×Unit:=if Rt xs∧t∈xs then(Bz xs t,true,())else([],false,())
theorem ABa{xs:List Int}{t:Int}(h:t∈xs):∃ a b,xs=a++t::b∧t∉a∧Bz xs t=t::b++a:=by
 obtain⟨k,e,hk,hg,h1,h2⟩:=AiA h
 rw[pos,ApZ h]at e
 have e':xs.findIdx (fun x=>decide (x=t))=k:=by omega
 refine⟨_,_,h1,h2,?_⟩
 rw[Bz,e',rot]
 congr 1
 rw[AqF hk]
 congr 1
 simpa [hk]using hg
theorem AdA(xs:List Int)(t:Int):AIN (xs,t,())=some (ANG xs t):=by
 rw[AQr,ZU,AIa,RD,ANG]
 simp only[PT]
 by_cases hr:Rt xs
 ·have hl:=hr.1
  simp only[hr,Apn,ApX,Ar8]
  have e:AX Ed many (xs,[],[t],AM [t],(0:Int),())=some (.inl ([pos xs t],())):=by
   have g:=Er (step:=Ed) (fun i (a:List Int)=>(xs,a,[t],AM [t],(i:Int),())) [t] (fun x a=>.inl (a++[pos xs x])) (fun a=>.inl (a,())) (fun i a=>a.length=i) (by simp)
    (fun i x a hi hx ha=>by
     refine⟨fun m' h' => ?_,fun r h'=>by cases h'⟩
     cases h'
     rw[Ed,AR,AL,ApM hi]
     simp only[AU hx,Pu xs x (by omega)]
     simp only[ApW,Apk]at hi
     rw[AP (by omega),Bm (by simp only[AR,ApW,Apk];omega)]
     exact⟨rfl,by simp[ha]⟩)
    (fun a _=>by rw[Ed,AR,AL,ApL (by omega)]) [] rfl
   have g':AX Ed many (xs,[],[t],AM [t],(0:Int),())=_:=g
   rw[g'];rfl
  rw[e]
  simp only[JD [pos xs t] (-1) (by simp)]
  by_cases h:t∈xs
  ·have hk:xs.findIdx (fun x=>decide (x=t))<xs.length:=ArP.2 ⟨t,h,by simp⟩
   rw[pos,ApZ h,ApZ h,Bz]
   generalize xs.findIdx (fun x=>decide (x=t))=k at *
   rw[ApL (by simp)]
   have i0:idx [(k:Int)] (0:Int)=some (k:Int):=by rw[Js];rfl
   have d0:AY [(k:Int)] 0 (0:Int)=(k:Int):=rfl
   simp only[Ap5,ApX,i0,d0,AAA xs k (by omega) (by omega)]
  ·rw[Aai h,ApV h]
   simp
 ·simp[hr]
def II:List Int→Int
 |[]=>0
 |x::xs=>xs.foldl (fun a y=>B4 a y) x
theorem AYg:∀ (xs:List Int) (a:Int),(xs.foldl (fun a y=>B4 a y) a)≤a∧(∀ x∈xs,xs.foldl (fun a y=>B4 a y) a≤x)∧(xs.foldl (fun a y=>B4 a y) a=a∨xs.foldl (fun a y=>B4 a y) a∈xs):=by
 intro xs
 induction xs with
 |nil=>intro a;simp
 |cons x xs ih=>
  intro a
  rw[AqT]
  obtain⟨h1,h2,h3⟩:=ih (B4 a x)
  have hm:B4 a x≤a∧B4 a x≤x∧(B4 a x=a∨B4 a x=x):=by
   rw[B4];split<;>omega
  refine⟨by omega,fun y hy => ?_,?_⟩
  ·rcases ApT.1 hy with rfl|hy
   ·omega
   ·exact h2 y hy
  ·rcases h3 with h|h
   ·rcases hm.2.2 with e|e
    ·exact .inl (by rw[h,e])
    ·exact .inr (by rw[h,e];simp)
   ·exact .inr (Apv _ h)
theorem Fe{xs:List Int}(h:xs≠[]):II xs∈xs∧∀ x∈xs,II xs≤x:=by
 cases xs with
 |nil=>exact absurd rfl h
 |cons x xs=>
  obtain⟨h1,h2,h3⟩:=AYg xs x
  refine⟨?_,fun y hy => ?_⟩
  ·rcases h3 with h|h
   ·rw[II,h];simp
   ·exact Apv _ h
  ·rcases ApT.1 hy with rfl|hy
   ·exact h1
   ·exact h2 y hy
theorem AmP{xs:List Int}{m:Int}(h1:m∈xs)(h2:∀ x∈xs,m≤x):II xs=m:=by
 obtain⟨g1,g2⟩:=Fe (List.ne_nil_of_mem h1)
 have:=g2 m h1
 have:=h2 _ g1
 omega
theorem ASN(xs:List Int)(h:xs≠[])(hs:xs.length<9223372036854775808):Ad1 (xs,())=some (II xs,()):=by
 cases xs with
 |nil=>exact absurd rfl h
 |cons x xs=>
  rw[Aa4,AMU,AR,Af,ApL (by simp only[ApW];omega)]
  have i0:idx (x::xs) (0:Int)=some x:=by rw[Js];rfl
  simp only[i0]
  simp only[ApW]at hs
  have e:=Er (step:=Kf) (fun i (a:Int)=>(x::xs,a,((i+1:Nat):Int),())) xs (fun y a=>.inl (B4 a y)) (fun a=>.inl (a,())) (fun _ _=>True) (by omega)
   (fun i y a hi hy _=>by
    refine⟨fun m' h' => ?_,fun r h'=>by cases h'⟩
    cases h'
    rw[Kf,AR,AL,ApM (by simp only[ApW];omega)]
    simp only[AU (xs:=x::xs) (n:=i+1) (by simpa using hy)]
    rw[AP (by omega)]
    exact⟨rfl,trivial⟩)
   (fun a _=>by rw[Kf,AR,AL,ApL (by simp)]) x trivial
  have e':AX Kf many (x::xs,x,(1:Int),())=_:=e
  rw[e',CP]
  rfl
def plain(xs:List Int):List Int:=if Rt xs∧xs≠[]then Bz xs (II xs)else []
theorem AV4(xs:List Int):ABX (xs,())=some (plain xs,()):=by
 rw[AIM,Q4,plain]
 simp only[PT]
 by_cases hr:Rt xs
 ·have hl:=hr.1
  simp only[hr,Apn,ApX,Ar8]
  by_cases h:xs=[]
  ·subst h;simp[AR,CN]
  ·have hp:0<xs.length:=List.length_pos_iff.2 h
   rw[AR,Ad,ApL (by omega)]
   have hm:=(Fe h).1
   have hk:xs.findIdx (fun x=>decide (x=II xs))<xs.length:=ArP.2 ⟨_,hm,by simp⟩
   simp only[ASN xs h (by omega),Pu xs _ (show xs.length<9223372036854775808 by omega)]
   rw[pos,ApZ hm,ApZ (by simpa using h),Bz]
   simp only[AAA xs _ (AsG hk) (by omega)]
 ·simp[hr]
theorem MW{xs:List Int}(hr:Rt xs)(h:xs≠[]):∃ a b,xs=a++II xs::b∧plain xs=II xs::b++a:=by
 obtain⟨a,b,h1,_,h2⟩:=ABa (Fe h).1
 exact⟨a,b,h1,by rw[plain,ApZ ⟨hr,h⟩,h2]⟩
end Go.Pev.Pl
end
section
namespace Go.Pev.Pl
open Tok
def TI(n:Int)(xs:List Int):Prop:=∃ L,xs=L.map (F4 n)∧(∀ t∈L,okT n t)∧T L
noncomputable instance (n:Int) (xs:List Int):Decidable (TI n xs):=Classical.propDecidable _
abbrev AZ5:=List Int×List (Int×Int)×List (Int×Int)
abbrev Anw:=(Bool×Unit)⊕(List Int×List (Int×Int)×List (Int×Int)×Unit)⊕Unit
def goF(n x:Int)(s:AZ5):AZ5⊕Anw:=
 match Eu n x with
 |none=>.inr (.inl (false,()))
 |some t=>match Tok.step (s.1,BC s.2.1) t with
  |none=>.inr (.inl (false,()))
  |some s'=>match t with
   |.ver v=>.inl (s'.1,s.2.1,Ae s.2.2 v (IntKind.wrap .i64 (((AS s.2.2 v).getD (0:Int))+(1:Int))))
   |.arc _ v=>.inl (s'.1,if v∈BC s.2.1 then s.2.1 else Ae s.2.1 v 1,s.2.2)
def one(came:List (Int×Int)):Prop:=∀ k,(0<(AS came k).getD (0:Int))↔k∈BC came
theorem Ado{came:List (Int×Int)}(h:one came)(v:Int):one (Ae came v 1):=by
 intro k
 rw[Dk,E0]
 by_cases e:k=v
 ·simp[e]
 ·simp only[e,Apf,false_or];exact h k
theorem Aeq(n:Int)(xs:List Int)(i:Nat)(x:Int)(hx:xs[i]? = some x)(hi:i<xs.length)(hl:xs.length<4294967296)(hxr:-9223372036854775808≤x∧x≤9223372036854775807)
  (w:Int) (r:List Int) (came met:List (Int×Int)) (hr:r.length<4294967295) (hc:one came) (hsub:∀ y∈w::r,y∈BC came) :
  Ie (n,(w::r).reverse,came,met,xs,AM xs,(i:Int),())=match goF n x (w::r,came,met)with
   |.inl s=>some (.inl (n,s.1.reverse,s.2.1,s.2.2,xs,AM xs,((i+1:Nat):Int),()))
   |.inr y=>some (.inr y):=by
 have hd:AM ((w::r).reverse)=((r.length+1:Nat):Int):=by simp[AR]
 have e1:IntKind.wrap .i64 (((r.length+1:Nat):Int)-1)=(r.length:Int):=by rw[BA (by omega)];rfl
 have i1:idx ((w::r).reverse) (r.length:Int)=some w:=by rw[AMv];simp
 have g1:AY ((w::r).reverse) (AN (r.length:Int)) (0:Int)=w:=by rw[QD];simp
 have f1:∀ v:Int,fits (AM ((w::r).reverse)+AM [v])=true:=fun v=>Bm (by rw[hd,AR];simp only[ApW,Apk];omega)
 have ap:∀ v:Int,BX ((w::r).reverse) [v]=(v::w::r).reverse:=fun v=>by simp[ES]
 rw[Ie,AR,AL,ApM hi]
 rw[AR]at hd
 simp only[AU hx,AU7 n x hxr,goF]
 cases ht:Eu n x with
 |none=>rfl
 |some t=>
  cases t with
  |ver v=>
   simp only[AVE,ApX,Ap5,AR,hd,e1,i1,g1,Ad,Tok.step]
   rw[AP (by omega)]
   by_cases h:w=v
   ·simp[h]
   ·simp[h]
  |arc u v=>
   simp only[AVE,ApX,AR,hd,e1,i1,g1,Ad,Tok.step]
   rw[AP (by omega)]
   by_cases h:w=u
   ·subst h
    rw[ApM rfl]
    simp only[ApX]
    cases r with
    |nil=>
     have z:ilt (0:Int) ((([]:List Int).length:Nat):Int)=false:=by rw[Af];rfl
     simp only[z]
     rw[Af]
     have hcv:=hc v
     by_cases hv:v∈BC came
     ·rw[ApM (hcv.2 hv)]
      simp[hv]
     ·rw[ApL (fun h=>hv (hcv.1 h))]
      have f2:=f1 v
      rw[AR,hd]at f2
      have hz:(AS came v).getD (0:Int)=0:=by rw[(Xy came v).2 hv];rfl
      have w1:IntKind.wrap .i64 ((0:Int)+1)=1:=by rw[Ah (by omega)];rfl
      rw[AR]at f2
      simp only[f2,ap v,hz,w1,hv,Apf,Ap6]
    |cons p r=>
     have z:ilt (0:Int) (((p::r).length:Nat):Int)=true:=by rw[Af,ApM (by simp only[ApW];omega)]
     have e2:IntKind.wrap .i64 ((((p::r).length:Nat):Int)-1)=(r.length:Int):=by
      rw[BA (by simp only[ApW]at hr ⊢;omega)];rfl
     have i2:idx ((w::p::r).reverse) (r.length:Int)=some p:=by rw[AMv];simp
     have g2:AY ((w::p::r).reverse) (AN (r.length:Int)) (0:Int)=p:=by rw[QD];simp
     simp only[z,e2,i2,g2]
     by_cases hp:p=v
     ·subst hp
      rw[ApM rfl]
      have hmem:p∈BC came:=hsub p (by simp)
      have s1:EF ((w::p::r).reverse) (0:Int) (((p::r).length:Nat):Int)=some ((p::r).reverse):=by
       rw[AAm (by simp)]
       rw[List.reverse_cons,List.take_left' (by simp)]
      have t1:Bu (AN (((p::r).reverse.length:Nat):Int)) ((w::p::r).reverse)=(p::r).reverse:=by
       rw[Bu,AEY,List.reverse_cons (a:=w),List.take_left' rfl]
      simp only[s1,t1,hmem,Ap6]
     ·rw[ApL hp]
      simp only[hp,Apf]
      rw[Af]
      have hcv:=hc v
      by_cases hv:v∈BC came
      ·rw[ApM (hcv.2 hv)]
       simp[hv]
      ·rw[ApL (fun h=>hv (hcv.1 h))]
       have f2:=f1 v
       rw[AR,hd]at f2
       have hz:(AS came v).getD (0:Int)=0:=by rw[(Xy came v).2 hv];rfl
       have w1:IntKind.wrap .i64 ((0:Int)+1)=1:=by rw[Ah (by omega)];rfl
       rw[AR]at f2
       simp only[f2,ap v,hz,w1,hv,Apf,Ap6]
   ·rw[ApL h]
    simp[h]
end Go.Pev.Pl
end
section
namespace Go.Pev.Pl
open Tok
theorem GQ{a b:List Int}(ha:a.Nodup)(h:∀ x∈a,x∈b):a.length≤b.length:=by
 induction a generalizing b with
 |nil=>simp
 |cons x a ih=>
  obtain⟨b1,b2,rfl⟩:=Ar4 (h x (by simp))
  rw[Apw]at ha
  have:=ih (b:=b1++b2) ha.2 fun y hy=>by
   have:=h y (Apv _ hy)
   simp only[ApR,ApT]at this ⊢
   rcases this with h|rfl|h
   ·exact .inl h
   ·exact absurd hy ha.1
   ·exact .inr h
  simp only[ApS,ApW]at this ⊢
  omega
theorem AMP{a b:List Int}(ha:a.Nodup)(h:∀ x∈a,x∈b)(hl:b.length≤a.length):∀ x∈b,x∈a:=by
 intro x hx
 refine Aql fun hn => ?_
 have:=GQ (a:=x::a) (b:=b) (Apw.2 ⟨hn,ha⟩) fun y hy=>by
  rcases ApT.1 hy with rfl|hy
  ·exact hx
  ·exact h y hy
 simp only[ApW]at this
 omega
theorem AAp{way c c2:List Int}(h:∀ x,x∈c↔x∈c2)(t:Tok):
  (Tok.step (way,c) t=none↔Tok.step (way,c2) t=none)∧∀ w1 c1,Tok.step (way,c) t=some (w1,c1)→∃ c1',Tok.step (way,c2) t=some (w1,c1')∧∀ x,x∈c1↔x∈c1':=by
 cases t with
 |ver v=>
  cases way with
  |nil=>simp[Tok.step]
  |cons w r=>
   by_cases e:w=v
   ·simp only[Tok.step,e,Ap6]
    exact⟨by simp,fun w1 c1 hh=>by cases hh;exact⟨c2,rfl,h⟩⟩
   ·simp[Tok.step,e]
 |arc u v=>
  cases way with
  |nil=>simp[Tok.step]
  |cons w r=>
   by_cases e:w=u
   ·cases r with
    |nil=>
     by_cases hv:v∈c
     ·simp[Tok.step,e,hv,(h v).1 hv]
     ·have hv2:v∉c2:=fun q=>hv ((h v).2 q)
      simp only[Tok.step,e,Ap6,hv,hv2,Apf]
      exact⟨by simp,fun w1 c1 hh=>by cases hh;exact⟨v::c2,rfl,fun x=>by simp[h]⟩⟩
    |cons p r=>
     by_cases e2:p=v
     ·simp only[Tok.step,e,Ap6,e2]
      exact⟨by simp,fun w1 c1 hh=>by cases hh;exact⟨c2,rfl,h⟩⟩
     ·by_cases hv:v∈c
      ·simp[Tok.step,e,e2,hv,(h v).1 hv]
      ·have hv2:v∉c2:=fun q=>hv ((h v).2 q)
       simp only[Tok.step,e,Ap6,e2,hv,hv2,Apf]
       exact⟨by simp,fun w1 c1 hh=>by cases hh;exact⟨v::c2,rfl,fun x=>by simp[h]⟩⟩
   ·simp[Tok.step,e]
structure GI(s:AZ5):Prop where
 ne:s.1≠[]
 one:one s.2.1
 sub:∀ y∈s.1,y∈BC s.2.1
 nc:(BC s.2.1).Nodup
 nm:(BC s.2.2).Nodup
theorem AbP{n x:Int}{s s':AZ5}(hi:GI s)(h:goF n x s = .inl s'):
  GI s'∧s'.1.length≤s.1.length+1∧∃ t c1,Eu n x=some t∧Tok.step (s.1,BC s.2.1) t=some (s'.1,c1)∧(∀ x,x∈c1↔x∈BC s'.2.1)∧(∀ y,y∈BC s'.2.2↔y∈BC s.2.2∨Tok.ver y=t):=by
 rw[goF]at h
 cases ht:Eu n x with
 |none=>rw[ht]at h;cases h
 |some t=>
  rw[ht]at h
  simp only at h
  cases hs:Tok.step (s.1,BC s.2.1) t with
  |none=>rw[hs]at h;cases h
  |some q=>
   obtain⟨w1,c1⟩:=q
   rw[hs]at h
   rcases Bw hs with⟨v,r,rfl,hw,e⟩|⟨u,v,r,rfl,hw,e⟩|⟨u,v,r,rfl,hw,hh,hn,e⟩
   ·cases h
    cases e
    refine⟨⟨hi.ne,hi.one,hi.sub,hi.nc,Jj hi.nm _ _⟩,by simp,_,_,rfl,hs,fun x=>Iff.rfl,fun y => ?_⟩
    rw[E0]
    simp[or_comm]
   ·cases h
    cases e
    simp only at hw
    have hv:v∈BC s.2.1:=hi.sub v (by rw[hw];simp)
    simp only[hv,Ap6]
    refine⟨⟨by simp,hi.one,fun y hy=>hi.sub y (by rw[hw];exact Apv _ hy),hi.nc,hi.nm⟩,by rw[hw];simp,_,_,rfl,hs,fun x=>Iff.rfl,fun y=>by simp⟩
   ·cases h
    cases e
    simp only at hw hn
    simp only[hn,Apf]
    refine⟨⟨by simp,Ado hi.one v,fun y hy => ?_,Jj hi.nc _ _,hi.nm⟩,by rw[hw];simp,_,_,rfl,hs,fun x => ?_,fun y=>by simp⟩
    ·rw[E0]
     rcases ApT.1 hy with rfl|hy
     ·exact .inl rfl
     ·exact .inr (hi.sub y (by rw[hw];exact hy))
    ·rw[E0,ApT]
def AS4(s:AZ5):Anw:=.inr (.inl (s.1.reverse,s.2.1,s.2.2,()))
theorem Aeo(n:Int):∀ (xs:List Int) (s:AZ5) (c:List Int),GI s→(∀ x,x∈c↔x∈BC s.2.1) →
  (∃ L s' c',xs=L.map (F4 n)∧(∀ t∈L,okT n t)∧run (s.1,c) L=some (s'.1,c')∧walk (goF n) AS4 xs s=AS4 s'∧GI s'∧(∀ x,x∈c'↔x∈BC s'.2.1)∧(∀ x,x∈BC s'.2.2↔x∈BC s.2.2∨Tok.ver x∈L)) ∨
  (walk (goF n) AS4 xs s = .inl (false,())∧∀ L,xs=L.map (F4 n)→(∀ t∈L,okT n t)→run (s.1,c) L=none):=by
 intro xs
 induction xs with
 |nil=>intro s c hi hc;exact .inl ⟨[],s,c,rfl,by simp,rfl,rfl,hi,hc,by simp⟩
 |cons x xs ih=>
  intro s c hi hc
  rw[walk]
  have bad:∀ {t},Eu n x=some t→Tok.step (s.1,BC s.2.1) t=none→∀ L,x::xs=L.map (F4 n)→(∀ t∈L,okT n t)→run (s.1,c) L=none:=by
   intro t ht hs L hL hok
   cases L with
   |nil=>cases hL
   |cons t' L=>
    simp only[Ap2,Apo]at hL
    have h1:=FO (hok t' (by simp))
    rw[← hL.1,ht]at h1
    cases h1
    rw[A0,((AAp hc t).1).2 hs]
    rfl
  cases hg:goF n x s with
  |inr r=>
   simp only
   have hr:r = .inl (false,())∧∀ L,x::xs=L.map (F4 n)→(∀ t∈L,okT n t)→run (s.1,c) L=none:=by
    rw[goF]at hg
    cases ht:Eu n x with
    |none=>
     rw[ht]at hg
     cases hg
     refine⟨rfl,fun L hL hok => ?_⟩
     cases L with
     |nil=>cases hL
     |cons t' L=>
      simp only[Ap2,Apo]at hL
      have h1:=FO (hok t' (by simp))
      rw[← hL.1,ht]at h1
      cases h1
    |some t=>
     rw[ht]at hg
     simp only at hg
     cases hs:Tok.step (s.1,BC s.2.1) t with
     |none=>rw[hs]at hg;cases hg;exact⟨rfl,bad ht hs⟩
     |some q=>
      rw[hs]at hg
      cases t<;>cases hg
   rw[hr.1]
   exact .inr ⟨rfl,hr.2⟩
  |inl s'=>
   simp only
   obtain⟨hi',_,t,c1,ht,hs,hcc,hm⟩:=AbP hi hg
   obtain⟨c1',hs',hcc'⟩:=(AAp (c:=BC s.2.1) (c2:=c) (fun x=>(hc x).symm) t).2 _ _ hs
   obtain⟨g1,g2⟩:=AfI ht
   rcases ih s' c1' hi' (fun x=>(hcc' x).symm.trans (hcc x))with⟨L,s2,c2,a1,a2,a3,a4,a5,a6,a7⟩|⟨a1,a2⟩
   ·refine .inl ⟨t::L,s2,c2,by simp[g2,a1],?_,by rw[A0,hs'];exact a3,a4,a5,a6,fun y => ?_⟩
    ·intro y hy
     rcases ApT.1 hy with rfl|hy
     ·exact g1
     ·exact a2 y hy
    ·rw[a7,hm,ApT,or_assoc]
   ·refine .inr ⟨a1,fun L hL hok => ?_⟩
    cases L with
    |nil=>cases hL
    |cons t' L=>
     simp only[Ap2,Apo]at hL
     have h1:=FO (hok t' (by simp))
     rw[← hL.1,ht]at h1
     cases h1
     rw[A0,hs']
     exact a2 L hL.2 fun y hy=>hok y (Apv _ hy)
theorem AVx:∀ {l:List Tok} {s s':List Int×List Int},run s l=some s'→s'.1.getLast? = s.1.getLast? := by
 intro l
 induction l with
 |nil=>intro s s' h;cases h;rfl
 |cons t l ih=>
  intro s s' h
  rw[A0,AqA]at h
  obtain⟨s1,h1,h2⟩:=h
  rw[ih h2]
  rcases Bw h1 with⟨v,r,rfl,hw,rfl⟩|⟨u,v,r,rfl,hw,rfl⟩|⟨u,v,r,rfl,hw,hh,hn,rfl⟩
  ·rfl
  ·rw[hw,Asc]
  ·rw[hw,Asc]
theorem AhS:∀ {l:List Tok} {s s':List Int×List Int},run s l=some s'→Tok.Inv s→∀ x,Tok.ver x∈l→x∈s'.2:=by
 intro l
 induction l with
 |nil=>intro s s' _ _ x hx;cases hx
 |cons t l ih=>
  intro s s' h hi x hx
  rw[A0,AqA]at h
  obtain⟨s1,h1,h2⟩:=h
  obtain⟨i1,i2,i3⟩:=AAo h1 hi
  rcases ApT.1 hx with rfl|hx
  ·have:=(IS h2 i1).2.1
   refine this x (i1.2 x ?_)
   simp only[st]at i3
   exact List.mem_of_head? i3
  ·exact ih h2 i1 x hx
theorem AeB{n:Int}{L:List Tok}(h:(L.map (F4 n)).Nodup):L.Nodup:=by
 rw[List.Nodup,ArJ]at h
 exact h.imp fun h e=>h (by rw[e])
theorem Abl{n x:Int}{xs:List Int}(h:TI n (x::xs))(hm:II (x::xs)=x):In n x:=by
 obtain⟨L,h1,h2,h3⟩:=h
 obtain⟨v,r,hr⟩:=h3.ATr
 have hv:Tok.ver v∈L:=(hr.mem _).2 (by simp)
 have hvx:v∈x::xs:=by rw[h1];exact Aph.2 ⟨_,hv,rfl⟩
 have h4:=(Fe (xs:=x::xs) (by simp)).2 v hvx
 rw[hm]at h4
 have h5:=(h2 _ hv).2.2.2
 cases L with
 |nil=>cases h1
 |cons t L=>
  simp only[Ap2,Apo]at h1
  have h6:=h2 t (by simp)
  cases t with
  |ver w=>rw[h1.1];exact h6
  |arc p q=>
   have:=(Zg h6.1 h6.2.1).1
   have e:x=n*(p+1)+q:=h1.1
   omega
theorem Ajn(n:Int)(xs:List Int)(h0:xs≠[])(hs:xs.length<2147483648)(hr:∀ x∈xs, -9223372036854775808≤x∧x≤9223372036854775807)(hn:xs.Nodup)(hm:∀ x,xs.head? = some x→II xs=x):
  Ajq (n,xs,())=some (decide (TI n xs),()):=by
 cases xs with
 |nil=>exact absurd rfl h0
 |cons x0 tl=>
  rw[AbO,AND]
  have i0:idx (x0::tl) (0:Int)=some x0:=by rw[Js];rfl
  simp only[i0,AKv]
  by_cases hin:In n x0
  ·rw[ApM hin]
   simp only[ApX]
   have hS:GI ([x0],Ae [] x0 1,[]):=by
    refine⟨by simp,fun k => ?_,fun y hy => ?_,?_,by simp[BC]⟩
    ·have:AS (Ae ([]:List (Int×Int)) x0 1) k=if k=x0 then some 1 else none:=by rw[Dk];rfl
     rw[this]
     by_cases e:k=x0<;>simp[e,Ae,BC]
    ·simp at hy;subst hy;simp[Ae,BC]
    ·simp[Ae,BC]
   have e:=Er (step:=Ie) (fun i (s:AZ5)=>(n,s.1.reverse,s.2.1,s.2.2,x0::tl,AM (x0::tl),(i:Int),())) (x0::tl) (goF n) AS4 (fun i s=>GI s∧s.1.length≤i+1) (by omega)
    (fun i x s hi hx ⟨hI,hlen⟩=>by
     obtain⟨way,came,met⟩:=s
     cases way with
     |nil=>exact absurd rfl hI.ne
     |cons w r=>
      have hst:=Aeq n (x0::tl) i x hx hi (by omega) (hr x (Apb hx)) w r came met (by simp only[ApW]at hlen hi hs;omega) hI.one hI.sub
      refine⟨fun s' h' => ?_,fun y h' => ?_⟩
      ·rw[h']at hst
       obtain⟨g1,g2,_⟩:=AbP hI h'
       refine⟨hst,g1,?_⟩
       simp only at g2 hlen
       omega
      ·rw[h']at hst
       exact hst)
    (fun s _=>by rw[Ie,AR,AL,ApL (by omega)];rfl) ([x0],Ae [] x0 1,[]) ⟨hS,by simp⟩
   have e':AX Ie many (n,[x0],Ae [] x0 1,[],x0::tl,AM (x0::tl),(0:Int),())=_:=e
   rw[e']
   have hk0:BC (Ae ([]:List (Int×Int)) x0 1)=[x0]:=rfl
   rcases Aeo n (x0::tl) ([x0],Ae [] x0 1,[]) [x0] hS (fun x=>by rw[hk0])with⟨L,s',c',a1,a2,a3,a4,a5,a6,a7⟩|⟨a1,a2⟩
   ·rw[a4]
    obtain⟨t,L',rfl⟩:∃ t L',L=t::L':=by cases L with
     |nil=>cases a1
     |cons t L'=>exact⟨t,L',rfl⟩
    have ht:t = .ver x0:=by
     have h1:=FO (a2 t (by simp))
     simp only[Ap2,Apo]at a1
     rw[← a1.1,Eu,ApZ hin]at h1
     exact(AqP h1).symm
    subst ht
    have hLn:(Tok.ver x0::L').Nodup:=AeB (n:=n) (by rw[← a1];exact hn)
    have hbot:=AVx a3
    have hvs:=AhS a3 (OI x0)
    have hk:(BC s'.2.2).length≤(BC s'.2.1).length:=GQ a5.nm fun x hx=>by
     have:=(a7 x).1 hx
     simp only[BC,ArB,Arh,false_or]at this
     exact(a6 x).1 (hvs x this)
    have hiff:(s'.1.length=1∧(BC s'.2.2).length=(BC s'.2.1).length)↔TI n (x0::tl):=by
     constructor
     ·rintro⟨l1,l2⟩
      obtain⟨w,hw⟩:=List.length_eq_one_iff.1 l1
      rw[hw]at hbot a3
      simp at hbot
      subst hbot
      refine⟨_,a1,a2,Tok.Av.toT ⟨w,L',c',rfl,a3,fun x hx => ?_⟩ hLn⟩
      have h1:=AMP a5.nm (fun x hx=>by
       have:=(a7 x).1 hx
       simp only[BC,ArB,Arh,false_or]at this
       exact(a6 x).1 (hvs x this)) (by omega) x ((a6 x).1 hx)
      have:=(a7 x).1 h1
      simpa [BC]using this
     ·rintro⟨K,k1,k2,k3⟩
      have hKL:K=Tok.ver x0::L':=by
       have:∀ (A B:List Tok),A.map (F4 n)=B.map (F4 n)→(∀ t∈A,okT n t)→(∀ t∈B,okT n t)→A=B:=by
        intro A
        induction A with
        |nil=>intro B h _ _;cases B with
         |nil=>rfl
         |cons b B=>cases h
        |cons a A ih=>
         intro B h hA hB
         cases B with
         |nil=>cases h
         |cons b B=>
          simp only[Ap2,Apo]at h
          rw[Rn (hA a (by simp)) (hB b (by simp)) h.1,ih B h.2 (fun t ht=>hA t (by simp[ht])) fun t ht=>hB t (by simp[ht])]
       exact this _ _ (by rw[← k1,a1]) k2 a2
      subst hKL
      obtain⟨r,l',c,q1,q2,q3⟩:=k3.AKf
      cases q1
      rw[a3]at q2
      cases hs':s'.1 with
      |nil=>rw[hs']at q2;cases q2
      |cons w r'=>
       rw[hs']at q2
       cases q2
       refine⟨rfl,?_⟩
       have:=GQ a5.nc (b:=BC s'.2.2) fun x hx=>(a7 x).2 (.inr (q3 x ((a6 x).2 hx)))
       omega
    simp only[AS4,Ad,AR,List.length_reverse]
    rw[VI,VI]at hiff
    by_cases l1:s'.1.length=1
    ·rw[ApM (show(s'.1.length:Int)=1 by omega)]
     simp only[l1,Ar8]at hiff
     by_cases l2:s'.2.2.length=s'.2.1.length
     ·rw[ApM (show(s'.2.2.length:Int)=(s'.2.1.length:Int) by omega),ApM (hiff.1 l2)]
     ·rw[ApL (show ¬ (s'.2.2.length:Int)=(s'.2.1.length:Int) by omega),ApL (fun h=>l2 (hiff.2 h))]
    ·rw[ApL (show ¬ (s'.1.length:Int)=1 by omega),ApL (fun h=>l1 (hiff.2 h).1)]
   ·rw[a1]
    have:¬ TI n (x0::tl):=by
     rintro⟨K,k1,k2,k3⟩
     obtain⟨r,l',c,q1,q2,q3⟩:Tok.Av K:=by
      obtain⟨t,L',rfl⟩:∃ t L',K=t::L':=by cases K with
       |nil=>cases k1
       |cons t L'=>exact⟨t,L',rfl⟩
      have h1:=FO (k2 t (by simp))
      simp only[Ap2,Apo]at k1
      rw[← k1.1,Eu,ApZ hin]at h1
      cases h1
      exact k3.AKf
     have hr0:r=x0:=by
      subst q1
      simp only[Ap2,Apo]at k1
      exact k1.1.symm
     subst hr0
     have:=a2 K k1 k2
     simp only at this
     rw[q2]at this
     cases this
    simp[this]
  ·rw[ApL hin]
   have:¬ TI n (x0::tl):=fun h=>hin (Abl h (hm x0 rfl))
   simp[this]
end Go.Pev.Pl
end
end
section
namespace Go.Pev.Pl.Tok
theorem Amv{v:Int}{p:List Tok}{c:List Int}(h:run ([v],[v]) p=some ([v],c))(hc:∀ x∈c,Tok.ver x∈p)(hn:p.Nodup):T p:=by
 cases p with
 |nil=>
  cases h
  have:=hc v (by simp)
  cases this
 |cons t p=>
  have h':=h
  rw[A0,AqA]at h'
  obtain⟨s1,h1,h2⟩:=h'
  rcases Bw h1 with⟨y,r,rfl,hw,rfl⟩|⟨a,b,r,rfl,hw,rfl⟩|⟨a,b,r,rfl,hw,hh,hnc,rfl⟩
  ·simp only[Apo]at hw
   obtain⟨rfl,rfl⟩:=hw
   exact Av.toT ⟨_,p,c,rfl,h,hc⟩ hn
  ·simp at hw
  ·simp only[Apo]at hw
   obtain⟨rfl,rfl⟩:=hw
   simp only at hnc
   have hne:v≠b:=by rintro rfl;exact hnc (by simp)
   have hT:T ([Tok.arc v b]++comp [Tok.arc v b] [b,v]):=by
    have:comp [Tok.arc v b] [b,v]=[.ver b,.arc b v,.ver v]:=by simp[comp]
    rw[this]
    have h3:=T.add (.ver v) [] b (T.one v) hne (by simp;exact AqH hne)
    exact T.rot [.ver v] [.arc v b,.ver b,.arc b v] h3
   have:=Ajp p [.arc v b] [b,v] [b,v] c v (.arc v b) h2 ⟨by simp;exact AqH hne,by simp⟩ (by simp) rfl hT (by
    intro x hx
    have e:comp [Tok.arc v b] [b,v]=[.ver b,.arc b v,.ver v]:=by simp[comp]
    rw[e]at hx
    simp at hx
    simp[hx]) hc hn
   exact this
theorem T.join{u v:Int}{a b:List Tok}(hA:T (.ver u::a))(hB:T (.ver v::b))(hd:∀ x,Tok.ver x∈Tok.ver u::a→Tok.ver x∉Tok.ver v::b):
  T (.ver u :: .arc u v::(.ver v::b ++ .arc v u::a)):=by
 obtain⟨_,fA2,fA3⟩:=hA.facts
 obtain⟨_,fB2,fB3⟩:=hB.facts
 have nA:=hA.nodup
 have nB:=hB.nodup
 obtain⟨_,_,c1,e1,h1,m1⟩:=hA.AKf
 cases e1
 obtain⟨_,_,c2,e2,h2,m2⟩:=hB.AKf
 cases e2
 have huv:u≠v:=by rintro rfl;exact hd u (by simp) (by simp)
 have nAB:∀ t,t∈Tok.ver u::a→t∉Tok.ver v::b:=fun t ht hb=>hd _ (fA2 t ht) (fB2 t hb)
 have n1:Tok.arc u v∉Tok.ver u::a:=fun h=>hd v (fA3 _ _ h).2.1 (by simp)
 have n2:Tok.arc u v∉Tok.ver v::b:=fun h=>hd u (by simp) (fB3 _ _ h).1
 have n3:Tok.arc v u∉Tok.ver u::a:=fun h=>hd v (fA3 _ _ h).1 (by simp)
 have n4:Tok.arc v u∉Tok.ver v::b:=fun h=>hd u (by simp) (fB3 _ _ h).2.1
 have hnd:(Tok.ver u :: .arc u v::(.ver v::b ++ .arc v u::a)).Nodup:=by
  rw[Apw]at nA
  have q1:Tok.ver u∉Tok.ver v::b:=nAB _ (by simp)
  rw[Apw,Apw,Aq1,Apw (a:=Tok.arc v u)]
  refine⟨?_,?_,nB,⟨fun h=>n3 (Apv _ h),nA.2⟩,fun x hx y hy => ?_⟩
  ·intro h
   rcases ApT.1 h with h|h
   ·cases h
   ·rcases ApR.1 h with h|h
    ·exact q1 h
    ·rcases ApT.1 h with h|h
     ·cases h
     ·exact nA.1 h
  ·intro h
   rcases ApR.1 h with h|h
   ·exact n2 h
   ·rcases ApT.1 h with h|h
    ·cases h;exact huv rfl
    ·exact n1 (Apv _ h)
  ·rintro rfl
   rcases ApT.1 hy with h|h
   ·subst h;exact n4 hx
   ·exact nAB x (Apv _ h) hx
 rw[A0,DO,AqB]at h1
 obtain⟨d2,k1,k2⟩:=HK (Z:=(· = u)) (c2:=[v,u]) (low:=[u]) h2 (by simp) (fun y=>by simp) (fun p w hm=>by rintro rfl;exact hd w (by simp) (fB3 _ _ hm).2.1) (by simp)
 obtain⟨d3,g1,g2⟩:=HK (Z:=(·∈c2)) (c2:=d2) (low:=[]) h1 (by simp) (fun y=>by rw[k2];simp[or_comm]) (fun p w hm hz=>hd w (fA3 _ _ (Apv _ hm)).2.1 (m2 w hz)) (by simp)
 refine Av.toT ⟨u,_,d3,rfl,?_,fun x hx => ?_⟩ hnd
 ·rw[A0,DO,AqB,A0,FP _ _ _ _ (by simp) (by simp;exact AqH huv),AqB,DQ]
  rw[show([v]++[u]:List Int)=[v,u]from rfl]at k1
  rw[k1,AqB,A0,Ga,AqB]
  simpa using g1
 ·rcases(g2 x).1 hx with h|h
  ·have:=m1 x h
   simp only[ApT,ApR]at this ⊢
   rcases this with h|h<;>simp[h]
  ·have:=m2 x h
   simp only[ApT,ApR]at this ⊢
   rcases this with h|h<;>simp[h]
theorem An4{u v:Int}(huv:u≠v):∀ {l:List Tok} {x w1 c c1 c0:List Int},run (x++[v,u],c) l=some (w1,c1)→Tok.arc v u∉l→(∀ y,y∈c↔y∈c0∨y=u)→u∉c0 →
  ∃ x' d,w1=x'++[v,u]∧run (x++[v],c0) l=some (x'++[v],d)∧(∀ y,y∈c1↔y∈d∨y=u)∧u∉d:=by
 intro l
 induction l with
 |nil=>intro x w1 c c1 c0 h _ hc hu;cases h;exact⟨x,c0,rfl,rfl,hc,hu⟩
 |cons t l ih=>
  intro x w1 c c1 c0 h hna hc hu
  rw[A0,AqA]at h
  obtain⟨s1,h1,h2⟩:=h
  have hna':Tok.arc v u∉l:=fun h=>hna (Apv _ h)
  rcases Bw h1 with⟨y,r,rfl,hw,rfl⟩|⟨a,b,r,rfl,hw,rfl⟩|⟨a,b,r,rfl,hw,hh,hnc,rfl⟩
  ·obtain⟨x',d,g1,g2,g3⟩:=ih h2 hna' hc hu
   refine⟨x',d,g1,?_,g3⟩
   simp only at hw
   have:∃ r',x++[v]=y::r':=by
    cases x with
    |nil=>simp at hw;exact⟨[],by simp[hw.1]⟩
    |cons z x=>simp at hw;exact⟨x++[v],by simp[hw.1]⟩
   obtain⟨r',e⟩:=this
   rw[A0,e,DO,AqB,← e]
   exact g2
  ·simp only at hw
   cases x with
   |nil=>
    simp only[Ap9,Apo]at hw
    obtain⟨rfl,rfl,_⟩:=hw
    exact absurd (by simp) hna
   |cons z x=>
    simp only[Aps,Apo]at hw
    obtain⟨rfl,hw⟩:=hw
    simp only[← hw]at h2
    obtain⟨x',d,g1,g2,g3⟩:=ih h2 hna' hc hu
    refine⟨x',d,g1,?_,g3⟩
    have:∃ r',x++[v]=b::r':=by
     cases x with
     |nil=>simp at hw;exact⟨[],by simp[hw.1]⟩
     |cons y x=>simp at hw;exact⟨x++[v],by simp[hw.1]⟩
    obtain⟨r',e⟩:=this
    rw[A0,Aps,e,Ga,AqB,← e]
    exact g2
  ·simp only at hw hnc
   have hub:u≠b:=by rintro rfl;exact hnc ((hc u).2 (.inr rfl))
   have hbc:b∉c0:=fun h=>hnc ((hc b).2 (.inl h))
   have h2':run ((b::x)++[v,u],b::c) l=some (w1,c1):=by
    rw[← hw]at h2
    exact h2
   obtain⟨x',d,g1,g2,g3⟩:=ih (c0:=b::c0) h2' hna' (fun y=>by simp only[ApT,hc,or_assoc]) (by
    intro hm
    rcases ApT.1 hm with h|h
    ·exact hub h
    ·exact hu h)
   refine⟨x',d,g1,?_,g3⟩
   have:∃ r',x++[v]=a::r'∧r'.head?≠some b:=by
    cases x with
    |nil=>
     simp at hw
     exact⟨[],by simp[hw.1],by simp⟩
    |cons z x=>
     simp only[Aps,Apo]at hw
     refine⟨x++[v],by simp[hw.1],?_⟩
     rw[← hw.2]at hh
     cases x with
     |nil=>simpa using hh
     |cons y x=>simpa using hh
   obtain⟨r',e,e2⟩:=this
   rw[A0,e,FP _ _ _ _ e2 hbc,AqB,← e]
   exact g2
theorem T.split{u v:Int}{p q:List Tok}(h:T (.arc u v::(p ++ .arc v u::q))):T p∧Tok.ver v∈p:=by
 have hn:=h.nodup
 obtain⟨_,f2,f3⟩:=h.facts
 have huv:u≠v:=(f3 u v (by simp)).2.2.2
 obtain⟨t,ht⟩:∃ t,(Tok.arc u v::(p ++ .arc v u::q)).getLast? = some t:=⟨_,Ar9 (by simp)⟩
 obtain⟨c,h1,h2⟩:=h.toC _ (Rot.refl _) t ht
 rw[A0,AqA]at h1
 obtain⟨s1,k1,k2⟩:=h1
 rcases Bw k1 with⟨y,r,e,hw,_⟩|⟨a,b,r,e,hw,_⟩|⟨a,b,r,e,hw,hh,hnc,rfl⟩
 ·cases e
 ·cases e;simp at hw
 ·cases e
  simp only[Apo]at hw
  obtain⟨htu,rfl⟩:=hw
  rw[htu]at k2
  simp only at k2
  rw[DQ,AqA]at k2
  obtain⟨⟨w1,c1⟩,g1,g2⟩:=k2
  have hi:Inv ([v,u],[v,u]):=⟨by simp;exact AqH huv,by simp⟩
  obtain⟨i1,i2,_⟩:=IS g1 hi
  rw[Apw,Aq1,Apw (a:=Tok.arc v u)]at hn
  have hnp:Tok.arc v u∉p:=fun hm=>hn.2.2.2 _ hm _ (by simp) rfl
  obtain⟨x',d,e1,e2,e3,e4⟩:=An4 (x:=[]) (c0:=[v]) huv g1 hnp (fun y=>by simp) (by simp;exact huv)
  rw[A0,AqA]at g2
  obtain⟨s2,j1,j2⟩:=g2
  have hx':x'=[]∧s2=([u],c1):=by
   rcases Bw j1 with⟨y,r,e,hw,_⟩|⟨a,b,r,e,hw,hs⟩|⟨a,b,r,e,hw,hh,hnc,_⟩
   ·cases e
   ·cases e
    simp only at hw
    rw[e1]at hw
    cases x' with
    |nil=>
     simp only[Ap9,Apo,Ar8]at hw
     rw[hs,← hw]
     exact⟨rfl,rfl⟩
    |cons z x'=>
     exfalso
     have hnd:=i1.1
     simp only at hnd
     rw[e1,hw]at hnd
     simp only[Aps,Apo]at hw
     have:v∈u::r:=by rw[← hw.2];simp
     rw[Apw]at hnd
     exact hnd.1 this
   ·cases e
    exact absurd (i2 u (by simp)) hnc
  obtain⟨rfl,rfl⟩:=hx'
  have hmet:∀ x∈d,Tok.ver x∈p:=by
   intro x hx
   have hxu:x≠u:=by rintro rfl;exact e4 hx
   have hx1:x∈c1:=(e3 x).2 (.inl hx)
   have hi2:Inv ([u],c1):=⟨by simp,fun y hy=>by simp at hy;subst hy;exact i2 y (by simp)⟩
   have hx2:=(IS j2 hi2).2.1 x hx1
   have hx3:=(h2 x).1 hx2
   obtain⟨g,_⟩:=ABG (z:=x) (c:=c1.filter (·≠x)) j2 (by simp;exact hxu) (fun y=>by
    simp only[Apg,ApQ]
    constructor
    ·intro hh
     by_cases e:y=x
     ·exact .inr e
     ·exact .inl ⟨hh,by simpa using e⟩
    ·rintro (hh|rfl)
     ·exact hh.1
     ·exact hx1) (by simp)
   simp only[ApT,reduceCtorEq,ApR,false_or]at hx3
   rcases hx3 with hh|hh
   ·exact hh
   ·exact absurd hh g
  have e2':run ([v],[v]) p=some ([v],d):=e2
  have hvd:v∈d:=(IS e2' (OI v)).2.1 v (by simp)
  exact⟨Amv e2' hmet hn.2.1,hmet v hvd⟩
end Go.Pev.Pl.Tok
end
section
namespace Go.Pev
open Go.RowKit
def AH0{R:Type}(slot:Nat)(H:List Ob)(fz:List Bool)(k:AV→Eff→Option R)(v:AV)(e:Eff):Option R:=
 match e.heap with
 |none=>match v with
  |.win id 0 n=>match(Ck e H)[id]? with
   |some (.arr T t xs)=>match Ap (GC e fz) id&&Au (Ck e H) (GC e fz) (slot+3)&&(e.objs.any fun p=>Nat.beq p.1 id)with
    |true=>k (.own (slot+3)) { objs:=e.objs++[(id,.dead),(slot+3,.arr T t (Bu n xs))],frz:=e.frz }
    |false=>none
   |_=>none
  |_=>none
 |some _=>none
def MN(s:Spec):Spec:=fun R args H fz slot k=>s R args H fz slot (AH0 slot H fz k)
section
variable {P:Program} {g:FuncId}
theorem Aep{w:World}{F:Nat→Prop}{m:Mp}{H:List Ob}{fz:List Bool}(hi:HI w F m H fz){id n slot:Nat}{T:TypeId}{t:Ty}{xs:List t.den}(ho:H[id]? = some (.arr T t xs))(hf:Ap fz id=true)
  (hs:Au H fz slot=true) {u:Value} (hr:Rep w F m H (.win id 0 n) u) :
  ∃ m',Av w F m H fz w F m' ((H.set id .dead).set slot (.arr T t (Bu n xs))) fz∧Rep w F m' ((H.set id .dead).set slot (.arr T t (Bu n xs))) (.own slot) u:=by
 have hob:=hi.obj id _ ho
 obtain⟨h0,hob⟩:=hob
 unfold Rep at hr
 rw[ho]at hr
 obtain⟨hle,hr⟩:=hr
 rw[Aqe]at hle
 have hsn:slot≠id:=ANH hs ho
 have hkill:=Av.kill hi (CF ho hf)
 have zero:∀ a,n=0→u = .slice a 0 0→∃ m',Av w F m H fz w F m' ((H.set id .dead).set slot (.arr T t (Bu n xs))) fz∧Rep w F m' ((H.set id .dead).set slot (.arr T t (Bu n xs))) (.own slot) u:=by
  intro a hn hu
  subst hn;subst hu
  obtain⟨m',hg,hrep⟩:=DW (w:=w) hkill.2 (Kk hs hsn) T h0 a
  exact⟨m',hkill.trans hg,hrep⟩
 cases hm:m id with
 |none=>
  rw[hm]at hr hob
  obtain⟨a,e1⟩:=hr
  simp only at hob
  subst hob
  have hn:n=0:=by simpa using hle
  exact zero a hn (by rw[e1,hn])
 |some p=>
  obtain⟨b,cap⟩:=p
  rw[hm]at hr hob
  obtain⟨vs,row,e1,e2,e3,e4,e7,e8⟩:=hob
  obtain⟨a,rfl,ha⟩:=hr
  rcases AqL cap with hc|hc
  ·have:n=0:=by omega
   exact zero a this (by rw[this,hc])
  ·have:=ha hc
   rw[Ara]at this
   subst this
   have hk:=fun(x:t.den) cs (h:Dat w F t x cs)=>Dat.length t h
   have hlen:(xs.take n).length=n:=by rw[Api];omega
   have hrw:=Df hk n e7
   have hrl:=A7 hk hrw
   rw[hlen]at hrl
   have hg:=Av.move (w':=w) hi (CF ho hf) hm hs (ob:=.arr T t (Bu n xs)) trivial (b':=b) (c':=cap) (.inl rfl) rfl rfl rfl (ApY _) (fun _ _ _=>rfl) (fun _=>⟨h0,vs,row.take (n*t.size),e1,by
    show(xs.take n).length≤cap
    rw[hlen];omega,e3,e4,hrw,by
    rw[hrl,← e8,Arf,Aqn]
    rw[A7 hk e7]
    exact AqC _ hle⟩)
   refine⟨_,hg,?_⟩
   have hlts:=At (BW hs).1
   unfold Rep
   rw[BM (by simpa using hlts),Ar]
   show Value.slice _ n (cap-0)=Value.slice _ (xs.take n).length cap
   rw[hlen,Nat.sub_zero]
theorem AP0{s:Spec}(hs:AO P g s):AO P g (MN s):=by
 intro R args H fz slot k r hk
 obtain⟨v,e,h1,h2,h3,h4⟩:=hs R args H fz slot _ r hk
 unfold AH0 at h1
 split at h1
 ·rename_i he
  split at h1
  ·rename_i id n
   split at h1
   ·rename_i T t xs ho
    split at h1
    ·rename_i hc
     refine⟨_,_,h1,fun R' k' => ?_,h3,fun w F m vals hi hr => ?_⟩
     ·unfold MN
      rw[h2]
      simp only[AH0,he,ho,hc]
     ·refine(h4 w F m vals hi hr).mono ?_
      rintro en w' ⟨u,rfl,F',m',hg,hrep⟩
      simp only[ApU]at hc
      obtain⟨m2,hg2,hr2⟩:=Aep hg.2 ho hc.1.1 hc.1.2 hrep
      have eH:Ck { objs:=e.objs++[(id,.dead),(slot+3,.arr T t (Bu n xs))],frz:=e.frz } H=((Ck e H).set id .dead).set (slot+3) (.arr T t (Bu n xs)):=by
       rw[CH rfl,CH he,XS]
       rfl
      have eF:GC { objs:=e.objs++[(id,.dead),(slot+3,.arr T t (Bu n xs))],frz:=e.frz } fz=GC e fz:=by
       rw[CS rfl,CS he]
      refine⟨u,rfl,F',m2,?_,?_⟩
      ·rw[eH,eF];exact hg.trans hg2
      ·rw[eH];exact hr2
    ·cases h1
   ·cases h1
  ·cases h1
 ·cases h1
theorem Xx{np na:Nat}{its outs:AE}{rs:List RS}{f:Ci (leaves its)→Option (Ci (leaves outs))}(hf:∀ x,f x=none):AO P g (AF np na its outs rs f):=by
 intro R args H fz slot k r hk
 unfold AF at hk
 split at hk
 ·cases hk
 ·split at hk
  ·cases hk
  ·rw[hf]at hk;cases hk
end
section
variable {S:List Nat} {H H':List Ob}
theorem GF.AlU{s:Spec}(h:GF s):OH s:=
 fun R args H H' fz fz' slot k S hS _ ha=>h R args H H' fz fz' slot k ⟨fun id hid=>ha.heap id (hS id hid),ha.slotH,ha.slotF,ha.len,fun id hid=>by cases hid⟩
def AC3:AE→Bool
 |[]=>true
 |(.obj _,_)::_=>false
 |_::r=>AC3 r
def An9(S:List Nat)(v:AV):Prop:=∀ id∈Ay v,id∈S
def AFM(S:List Nat)(bs:List Bnd):Prop:=∀ b∈bs,∀ id,b.id? = some id→id∈S
theorem AFM.get{bs:List Bnd}(h:AFM S bs){j:Nat}{b:Bnd}{id:Nat}(hj:bs[j]? = some b)(hi:b.id? = some id):id∈S:=h b (Apb hj) id hi
theorem AFM.snoc{bs:List Bnd}(h:AFM S bs){b:Bnd}(hb:∀ id,b.id? = some id→id∈S):AFM S (bs++[b]):=by
 intro x hx id hi
 rcases ApR.1 hx with hx|hx
 ·exact h x hx id hi
 ·simp only[Ap4]at hx;subst hx;exact hb id hi
theorem Aa5{tm:List AV}{bs:List Bnd}{l:Loc}(hS:∀ id∈BF tm,id∈S)(hc:Zy S H)(hH:∀ id∈S,H[id]? = H'[id]?)(hb:AFM S bs)(hl:∀ j,l≠.obj j):
  look tm H bs l=look tm H' bs l∧∀ v,look tm H bs l=some v→An9 S v:=by
 cases l with
 |tmp t=>
  refine⟨rfl,fun v hv id hid=>hS id ?_⟩
  exact CT (Apb hv) hid
 |cell j c=>
  simp only[look]
  cases hj:bs[j]? with
  |none=>exact⟨rfl,fun v hv=>by cases hv⟩
  |some b=>
   cases b with
   |none=>exact⟨rfl,fun v hv=>by cases hv⟩
   |cut id=>exact⟨rfl,fun v hv=>by cases hv⟩
   |whole id=>
    have hid:=hb.get hj (id:=id) rfl
    simp only
    rw[hH id hid]
    refine⟨rfl,fun v hv => ?_⟩
    cases ho:H'[id]? with
    |none=>rw[ho]at hv;cases hv
    |some o=>
     rw[ho]at hv
     cases o<;>simp only at hv<;>first|(cases hv;done)|skip
     rename_i cs
     intro i hi
     exact hc id hid cs (by rw[hH id hid,ho]) i (CT (Apb hv) hi)
 |cap t i=>
  refine⟨rfl,fun v hv => ?_⟩
  simp only[look]at hv
  cases ht:tm[t]? with
  |none=>rw[ht]at hv;cases hv
  |some a=>
   rw[ht]at hv
   cases a<;>simp only at hv<;>first|(cases hv;done)|skip
   ·rename_i f cs
    intro id hid
    refine hS id (CT (Apb ht) ?_)
    simp only[Ay]
    exact CT (Apb hv) hid
   ·rename_i f cs
    intro id hid
    refine hS id (CT (Apb ht) ?_)
    simp only[Ay]
    exact CT (Apb hv) hid
 |obj j=>exact absurd rfl (hl j)
theorem KS{f:List Nat}{fz fz':List Bool}(hl:fz.length=fz'.length){id:Nat}(h:fz.getD id false=fz'.getD id false):(Al f fz).getD id false=(Al f fz').getD id false:=by
 rw[A2,A2,h,hl]
theorem AkT{tm:List AV}(hS:∀ id∈BF tm,id∈S)(hc:Zy S H)(hH:∀ id∈S,H[id]? = H'[id]?):∀ (its:AE) (fz fz':List Bool) (bs:List Bnd),AC3 its=true→AFM S bs→fz.length=fz'.length→(∀ id∈S,fz.getD id false=fz'.getD id false) →
  dec tm H its fz bs=dec tm H' its fz' bs:=by
 intro its
 induction its with
 |nil=>intro fz fz' bs _ _ _ _;rfl
 |cons p r ih=>
  intro fz fz' bs hn hb hlen hz
  obtain⟨l,c⟩:=p
  have hno:(∀ j,l≠.obj j)∧AC3 r=true:=by
   cases l with
   |obj j=>cases hn
   |tmp t=>exact⟨fun j h=>(by cases h),hn⟩
   |cell a b=>exact⟨fun j h=>(by cases h),hn⟩
   |cap a b=>exact⟨fun j h=>(by cases h),hn⟩
  obtain⟨e1,e2⟩:=Aa5 hS hc hH hb hno.1
  have ihr:=fun bs hb=>ih fz fz' bs hno.2 hb hlen hz
  have unf:∀ id∈S,Ap fz id=Ap fz' id:=fun id hid=>by unfold Ap;rw[hz id hid]
  cases c with
  |dat t=>
   simp only[dec,← e1]
   cases hv:look tm H bs l with
   |none=>rfl
   |some v=>
    simp only
    rw[Bg t v fun id hid=>hH id (e2 v hv id hid)]
    cases FE H' t v with
    |none=>rfl
    |some q=>
     obtain⟨x,f⟩:=q
     simp only
     rw[ih (Al f fz) (Al f fz') bs hno.2 hb (by rw[Ct,Ct,hlen]) (fun id hid=>KS hlen (hz id hid))]
  |own T e=>
   simp only[dec,← e1]
   cases hv:look tm H bs l with
   |none=>rfl
   |some v=>
    cases v with
    |nils e'=>simp only;rw[ihr _ (hb.snoc fun id h=>by cases h)]
    |own id=>
     have hid:id∈S:=e2 _ hv id (by simp[Ay])
     simp only
     rw[← hH id hid,unf id hid,ihr _ (hb.snoc fun id' h=>by simp only[Bnd.id?,ApN]at h;subst h;exact hid)]
    |win id off n=>
     have hid:id∈S:=e2 _ hv id (by simp[Ay])
     cases off with
     |succ off=>rfl
     |zero=>
      simp only
      rw[← hH id hid,unf id hid,ihr _ (hb.snoc fun id' h=>by simp only[Bnd.id?,ApN]at h;subst h;exact hid)]
    |_=>rfl
  |box n=>
   simp only[dec,← e1]
   cases hv:look tm H bs l with
   |none=>rfl
   |some v=>
    cases v with
    |ptr id off=>
     have hid:id∈S:=e2 _ hv id (by simp[Ay])
     cases off with
     |succ off=>rfl
     |zero=>
      simp only
      rw[← hH id hid,ihr _ (hb.snoc fun id' h=>by simp only[Bnd.id?,ApN]at h;subst h;exact hid)]
    |_=>rfl
  |map k v=>
   simp only[dec,← e1]
   cases hv:look tm H bs l with
   |none=>rfl
   |some u=>
    cases u with
    |mp id=>
     have hid:id∈S:=e2 _ hv id (by simp[Ay])
     simp only
     rw[← hH id hid,ihr _ (hb.snoc fun id' h=>by simp only[Bnd.id?,ApN]at h;subst h;exact hid)]
    |_=>rfl
  |own' j=>simp only[dec,← e1,ihr bs hb]
  |ptr' j off=>simp only[dec,← e1,ihr bs hb]
  |map' j=>simp only[dec,← e1,ihr bs hb]
  |sub' j=>simp only[dec,← e1,ihr bs hb]
  |win' j=>
   simp only[dec,← e1]
   rw[ihr bs hb]
   cases hv:look tm H bs l with
   |none=>rfl
   |some v=>
    cases v with
    |own id=>
     have hid:id∈S:=e2 _ hv id (by simp[Ay])
     cases bs[j]? with
     |none=>rfl
     |some b=>
      cases b with
      |whole id'=>
       refine Eq.trans (b:=match decide (id=id'),H[id]? with
        |true,some (.arr _ _ ys)=>(match dec tm H' r fz' bs with
         |some (xs,bs',g)=>some ((AM ys,xs),bs',g)
         |none=>none)
        |_,_=>none) rfl ?_
       rw[hH id hid]
       rfl
      |_=>rfl
    |win id off n=>
     cases off with
     |succ off=>cases bs[j]?<;>rfl
     |zero=>
      cases bs[j]? with
      |none=>rfl
      |some b=>cases b<;>rfl
    |_=>cases bs[j]?<;>rfl
  |clo f ps=>simp only[dec,← e1,ihr bs hb]
  |bnd f j=>simp only[dec,← e1,ihr bs hb]
  |prs T j=>
   simp only[dec,← e1]
   cases hv:look tm H bs l with
   |none=>rfl
   |some v=>
    cases v with
    |nils e'=>simp only;rw[ihr _ (hb.snoc fun id h=>by cases h)]
    |own id=>
     have hid:id∈S:=e2 _ hv id (by simp[Ay])
     simp only
     rw[← hH id hid,ihr _ (hb.snoc fun id' h=>by simp only[Bnd.id?,ApN]at h;subst h;exact hid)]
    |_=>rfl
  |nil e=>simp only[dec,← e1,ihr bs hb]
theorem Ra{fz fz':List Bool}:∀ (n:Nat) (bs:List Bnd) (slot:Nat),(∀ s,slot≤s→s<slot+n→Au H fz s=Au H' fz' s)→FN H fz (Cr n bs slot) bs=FN H' fz' (Cr n bs slot) bs:=by
 intro n
 induction n with
 |zero=>intro bs slot _;cases bs<;>rfl
 |succ n ih=>
  intro bs slot h
  cases bs with
  |nil=>
   simp only[Cr,FN,List.tail_nil]
   rw[h slot (ApY _) (by omega),ih [] (slot+1) fun s h1 h2=>h s (by omega) (by omega)]
  |cons b bs=>
   cases b with
   |whole id=>
    simp only[Cr,FN,ArX]
    rw[ih bs slot fun s h1 h2=>h s h1 (by omega)]
   |none=>
    simp only[Cr,FN,ArX]
    rw[h slot (ApY _) (by omega),ih bs (slot+1) fun s h1 h2=>h s (by omega) (by omega)]
   |cut id=>
    simp only[Cr,FN,ArX]
    rw[h slot (ApY _) (by omega),ih bs (slot+1) fun s h1 h2=>h s (by omega) (by omega)]
theorem AG{np na:Nat}{its outs:AE}{rs:List RS}{f:Ci (leaves its)→Option (Ci (leaves outs))}(hno:AC3 its=true)(hn:Nat.ble (Ep outs) 4=true):OH (AF np na its outs rs f):=by
 intro R args H H' fz fz' slot k S hS hc ha
 have hn4:=AsF hn
 have hd:dec args H its fz []=dec args H' its fz' []:=AkT hS hc ha.heap its fz fz' [] hno (fun b hb=>by cases hb) ha.len ha.wrF
 unfold AF
 rw[hd]
 split
 ·rfl
 ·rename_i x bs fr _
  split
  ·rfl
  ·split
   ·rfl
   ·have hf:∀ (g:List Nat) s,slot≤s→s<slot+Ep outs→Au H (Al g fz) s=Au H' (Al g fz') s:=fun g s h1 h2=>Dm ha h1 (by omega) g
    unfold NH
    rw[Ra (fz:=fz) (fz':=fz') (Ep outs) (bs.take np) slot (hf []),Ra (fz:=Al fr fz) (fz':=Al fr fz') (Ep outs) (bs.take np) slot (hf fr)]
theorem Aea:∀ (n:Nat) (bs:List Bnd) (slot i:Nat),i∈Cr n bs slot→(∃ b∈bs,b.id? = some i)∨(slot≤i∧i<slot+n):=by
 intro n
 induction n with
 |zero=>intro bs slot i h;cases bs<;>cases h
 |succ n ih=>
  intro bs slot i h
  have next:∀ bs',i∈slot::Cr n bs' (slot+1)→(∃ b∈bs',b.id? = some i)∨(slot≤i∧i<slot+(n+1)):=by
   intro bs' h
   rcases ApT.1 h with rfl|h
   ·exact .inr ⟨ApY _,by omega⟩
   ·rcases ih bs' (slot+1) i h with h|h
    ·exact .inl h
    ·exact .inr ⟨by omega,by omega⟩
  cases bs with
  |nil=>exact next [] h
  |cons b bs=>
   cases b with
   |whole id=>
    simp only[Cr]at h
    rcases ApT.1 h with rfl|h
    ·exact .inl ⟨.whole i,by simp,rfl⟩
    ·rcases ih bs slot i h with⟨b,hb,e⟩|h
     ·exact .inl ⟨b,by simp[hb],e⟩
     ·exact .inr ⟨h.1,by omega⟩
   |none=>rcases next bs h with⟨b,hb,e⟩|h;exact .inl ⟨b,by simp[hb],e⟩;exact .inr h
   |cut id=>rcases next bs h with⟨b,hb,e⟩|h;exact .inl ⟨b,by simp[hb],e⟩;exact .inr h
theorem Afd{tm:List AV}(hS:∀ id∈BF tm,id∈S)(hc:Zy S H):∀ (its:AE) (fz:List Bool) (bs:List Bnd) (x:Ci (leaves its)) (bs':List Bnd) (fr:List Nat),AC3 its=true→AFM S bs →
  dec tm H its fz bs=some (x,bs',fr)→AFM S bs':=by
 intro its
 induction its with
 |nil=>intro fz bs x bs' fr _ hb h;simp only[dec,ApN]at h;cases h;exact hb
 |cons p r ih=>
  intro fz bs x bs' fr hn hb h
  obtain⟨l,c⟩:=p
  have hno:(∀ j,l≠.obj j)∧AC3 r=true:=by
   cases l with
   |obj j=>cases hn
   |tmp t=>exact⟨fun j h=>(by cases h),hn⟩
   |cell a b=>exact⟨fun j h=>(by cases h),hn⟩
   |cap a b=>exact⟨fun j h=>(by cases h),hn⟩
  have e2:=(Aa5 (H':=H) hS hc (fun _ _=>rfl) hb hno.1 (l:=l)).2
  have one:∀ {id:Nat} {b:Bnd},id∈S→b.id? = some id→AFM S (bs++[b]):=fun hid hbid=>hb.snoc fun id' h'=>by rw[hbid]at h';cases h';exact hid
  cases c<;>simp only[dec]at h
  case dat t=>
   split at h
   ·split at h
    ·split at h
     ·split at h
      ·rename_i hd;cases h;exact ih _ _ _ _ _ hno.2 hb hd
      ·cases h
     ·cases h
    ·cases h
   ·cases h
  case own T e=>
   split at h
   ·split at h
    ·split at h
     ·rename_i hd;cases h;exact ih _ _ _ _ _ hno.2 (hb.snoc fun id h=>by cases h) hd
     ·cases h
    ·cases h
   ·rename_i id hl
    split at h
    ·split at h
     ·split at h
      ·rename_i hd;cases h;exact ih _ _ _ _ _ hno.2 (one (e2 _ hl id (by simp[Ay])) rfl) hd
      ·cases h
     ·cases h
    ·cases h
   ·rename_i id n hl
    split at h
    ·split at h
     ·split at h
      ·rename_i hd;cases h;exact ih _ _ _ _ _ hno.2 (one (e2 _ hl id (by simp[Ay])) rfl) hd
      ·cases h
     ·cases h
    ·cases h
   ·cases h
  case prs T j=>
   split at h
   ·split at h
    ·rename_i hd;cases h;exact ih _ _ _ _ _ hno.2 (hb.snoc fun id h=>by cases h) hd
    ·cases h
   ·rename_i id hl
    split at h
    ·split at h
     ·split at h
      ·rename_i hd;cases h;exact ih _ _ _ _ _ hno.2 (one (e2 _ hl id (by simp[Ay])) rfl) hd
      ·cases h
     ·cases h
    ·cases h
   ·cases h
  case box n=>
   split at h
   ·rename_i id hl
    split at h
    ·split at h
     ·exact ih _ _ _ _ _ hno.2 (one (e2 _ hl id (by simp[Ay])) rfl) h
     ·cases h
    ·cases h
   ·cases h
  case map k v=>
   split at h
   ·rename_i id hl
    split at h
    ·split at h
     ·split at h
      ·rename_i hd;cases h;exact ih _ _ _ _ _ hno.2 (one (e2 _ hl id (by simp[Ay])) rfl) hd
      ·cases h
     ·cases h
    ·cases h
   ·cases h
  case own' j=>
   split at h
   ·split at h
    ·exact ih _ _ _ _ _ hno.2 hb h
    ·cases h
   ·cases h
  case ptr' j off=>
   split at h
   ·split at h
    ·exact ih _ _ _ _ _ hno.2 hb h
    ·cases h
   ·cases h
  case map' j=>
   split at h
   ·split at h
    ·exact ih _ _ _ _ _ hno.2 hb h
    ·cases h
   ·cases h
  case win' j=>
   split at h
   ·split at h
    ·split at h
     ·rename_i hd;cases h;exact ih _ _ _ _ _ hno.2 hb hd
     ·cases h
    ·cases h
   ·split at h
    ·split at h
     ·rename_i hd;cases h;exact ih _ _ _ _ _ hno.2 hb hd
     ·cases h
    ·cases h
   ·cases h
  case sub' j=>
   split at h
   ·split at h
    ·split at h
     ·rename_i hd;cases h;exact ih _ _ _ _ _ hno.2 hb hd
     ·cases h
    ·cases h
   ·cases h
  case clo f ps=>
   split at h
   ·split at h
    ·exact ih _ _ _ _ _ hno.2 hb h
    ·cases h
   ·cases h
  case bnd f j=>
   split at h
   ·split at h
    ·exact ih _ _ _ _ _ hno.2 hb h
    ·cases h
   ·cases h
  case nil e=>
   cases hv:look tm H bs l with
   |none=>rw[hv]at h;cases h
   |some v=>
    rw[hv]at h
    cases v<;>simp only at h<;>first|exact ih _ _ _ _ _ hno.2 hb h|cases h
theorem Alb{np na:Nat}{its outs:AE}{rs:List RS}{f:Ci (leaves its)→Option (Ci (leaves outs))}(hno:AC3 its=true)(hn:Nat.ble (Ep outs) 4=true):OH (MN (AF np na its outs rs f)):=by
 intro R args H H' fz fz' slot k hS0 hS hc ha
 have hn4:=AsF hn
 have hd:dec args H its fz []=dec args H' its fz' []:=AkT hS hc ha.heap its fz fz' [] hno (fun b hb=>by cases hb) ha.len ha.wrF
 have hbs:∀ x bs fr,dec args H its fz []=some (x,bs,fr)→AFM hS0 bs:=fun x bs fr h=>Afd hS hc its fz [] x bs fr hno (fun b hb=>by cases hb) h
 unfold MN AF
 rw[hd]at hbs ⊢
 split
 ·rfl
 ·rename_i x bs fr hdec
  have hb:=hbs x bs fr hdec
  split
  ·rfl
  ·split
   ·rfl
   ·rename_i y _
    have hf:∀ (g:List Nat) s,slot≤s→s<slot+Ep outs→Au H (Al g fz) s=Au H' (Al g fz') s:=fun g s h1 h2=>Dm ha h1 (by omega) g
    have key:∀ (e:Eff) (v:AV),e.heap=none→(∀ p∈e.objs,p.1∈given (bs.drop np)∨p.1∈Cr (Ep outs) (bs.take np) slot)→AH0 slot H fz k v e=AH0 slot H' fz' k v e:=by
     intro e v he ho
     unfold AH0
     rw[he]
     simp only
     have hfree:Au (Ck e H) (GC e fz) (slot+3)=Au (Ck e H') (GC e fz') (slot+3):=by
      rw[CH he,CH he,CS he,CS he]
      unfold Au
      rw[GN e.objs H H' (ha.slotH (slot+3) (by omega) (by omega)),KS ha.len (ha.slotF (slot+3) (by omega) (by omega))]
     cases v with
     |win id off n=>
      cases off with
      |succ off=>rfl
      |zero=>
       simp only
       cases hany:(e.objs.any fun p=>Nat.beq p.1 id)with
       |false=>
        simp only[Bool.and_false]
        cases (Ck e H)[id]? with
        |none=>cases (Ck e H')[id]? with
         |none=>rfl
         |some o=>cases o<;>rfl
        |some o=>cases (Ck e H')[id]? with
         |none=>cases o<;>rfl
         |some o'=>cases o<;>cases o'<;>rfl
       |true=>
        rw[ArU]at hany
        obtain⟨p,hp,hpi⟩:=hany
        have hpi:=Aqi hpi
        subst hpi
        have hin:(∃ b∈bs,b.id? = some p.1)∨(slot≤p.1∧p.1<slot+Ep outs):=by
         rcases ho p hp with h|h
         ·obtain⟨j,hj⟩:=VU.1 h
          exact .inl ⟨_,Aqv (Apb hj),rfl⟩
         ·rcases Aea _ _ _ _ h with⟨b,h1,h2⟩|h
          ·exact .inl ⟨b,Arq h1,h2⟩
          ·exact .inr h
        have h1:H[p.1]? = H'[p.1]? := by
         rcases hin with⟨b,hbm,hbi⟩|⟨h1,h2⟩
         ·exact ha.heap _ (hb b hbm _ hbi)
         ·exact ha.slotH _ h1 (by omega)
        have h2:fz.getD p.1 false=fz'.getD p.1 false:=by
         rcases hin with⟨b,hbm,hbi⟩|⟨h1,h2⟩
         ·exact ha.wrF _ (hb b hbm _ hbi)
         ·exact ha.slotF _ h1 (by omega)
        have h3:(Ck e H)[p.1]? = (Ck e H')[p.1]? := by
         rw[CH he,CH he]
         exact GN e.objs H H' h1
        have h4:Ap (GC e fz) p.1=Ap (GC e fz') p.1:=by
         rw[CS he,CS he]
         unfold Ap
         rw[KS ha.len h2]
        rw[h3,h4,hfree]
     |_=>rfl
    have mem:∀ p∈(given (bs.drop np)).map (fun i=>(i,Ob.dead))++(Cr (Ep outs) (bs.take np) slot).zip ((encode (cellsOf rs) outs y).heap.map (D0 (Cr (Ep outs) (bs.take np) slot))),p.1∈given (bs.drop np)∨p.1∈Cr (Ep outs) (bs.take np) slot:=by
     intro p hp
     rcases ApR.1 hp with h|h
     ·obtain⟨i,hi,rfl⟩:=Aph.1 h;exact .inl hi
     ·exact .inr (List.of_mem_zip h).1
    unfold NH
    rw[Ra (fz:=fz) (fz':=fz') (Ep outs) (bs.take np) slot (hf []),Ra (fz:=Al fr fz) (fz':=Al fr fz') (Ep outs) (bs.take np) slot (hf fr)]
    split
    ·split
     ·exact key { objs:=_ } _ rfl mem
     ·rfl
    ·split
     ·exact key { objs:=_,frz:=_ } _ rfl mem
     ·rfl
end
def Ao5(i:Nat)(args:List AV):Option FuncId:=
 match args[i]? with
 |some (.clo f _)=>some f
 |some (.bnd f _)=>some f
 |_=>none
def Env.CG(E:Env)(g:FuncId)(i:Nat)(c:FuncId)(s:Spec):Env where
 spec x:=match Nat.beq x g with
  |true=>fun R args H fz slot k=>match Ao5 i args with
   |some c'=>match Nat.beq c' c with
    |true=>s R args H fz slot k
    |false=>E.spec x R args H fz slot k
   |.none=>Option.none
  |false=>E.spec x
 loc x:=match Nat.beq x g with
  |true=>false
  |false=>E.loc x
 loc2 x:=match Nat.beq x g with
  |true=>E.loc2 g
  |false=>E.loc2 x
theorem Env.Aw{P:Program}{E:Env}{g:FuncId}{i:Nat}{c:FuncId}{s:Spec}(h:AW P E)(hs:AO P g s)(hl2:OH s):AW P (E.CG g i c s):=by
 refine⟨?_,?_,?_⟩
 ·intro x
  simp only[Env.CG]
  cases hx:Nat.beq x g with
  |false=>exact h.1 x
  |true=>
   have:=Aqi hx
   subst this
   intro R args H fz slot k r hk
   simp only at hk
   split at hk
   ·rename_i c' hc'
    split at hk
    ·rename_i hb
     obtain⟨v,e,h1,h2,h3,h4⟩:=hs R args H fz slot k r hk
     exact⟨v,e,h1,fun R' k'=>by simp only[hc',hb];exact h2 R' k',h3,h4⟩
    ·rename_i hb
     obtain⟨v,e,h1,h2,h3,h4⟩:=h.1 x R args H fz slot k r hk
     exact⟨v,e,h1,fun R' k'=>by simp only[hc',hb];exact h2 R' k',h3,h4⟩
   ·cases hk
 ·intro x hx
  simp only[Env.CG]at hx ⊢
  cases hb:Nat.beq x g with
  |true=>rw[hb]at hx;cases hx
  |false=>rw[hb]at hx;exact h.2.1 x hx
 ·intro x hx
  simp only[Env.CG]at hx ⊢
  cases hb:Nat.beq x g with
  |true=>
   rw[hb]at hx
   have:=Aqi hb
   subst this
   have h2:=h.2.2 x hx
   intro R args H H' fz fz' slot k S a1 a2 a3
   simp only
   split
   ·split
    ·exact hl2 R args H H' fz fz' slot k S a1 a2 a3
    ·exact h2 R args H H' fz fz' slot k S a1 a2 a3
   ·rfl
  |false=>rw[hb]at hx;exact h.2.2 x hx
end Go.Pev
end
section
namespace Go.Pev
open Go.RowKit Go.ChangeShapes Go.WideShapes Go.ChangeAt
def PW(P:Program)(rd:TypeId→Option Ty):List Field→Nat→Option Ty
 |[],_=>some .unit
 |f::r,off=>match rd f.type,PW P rd r (off+P.cellsOf f.type)with
  |some a,some b=>match Nat.beq f.offset off&&Nat.beq (P.cellsOf f.type) a.size with
   |true=>some (.prod a b)
   |false=>none
  |_,_=>none
def FX(P:Program):Nat→TypeId→Option Ty
 |0,_=>none
 |n+1,t=>match P.underlying t with
  |some .bool=>some .bool
  |some (.int k)=>some (.int k)
  |some (.slice e)=>match FX P n e with
   |some a=>match Nat.beq (P.cellsOf e) a.size && !(Nat.beq a.size 0)with
    |true=>some (.slice a)
    |false=>none
   |none=>none
  |some (.array c e)=>match FX P n e with
   |some a=>match Nat.beq (P.cellsOf e) a.size&&Nat.beq (P.cellsOf t) (c*a.size)with
    |true=>some (.arr c a)
    |false=>none
   |none=>none
  |some (.struct fs)=>match PW P (FX P n) fs.toList 0 with
   |some a=>match Nat.beq (P.cellsOf t) a.size with
    |true=>some a
    |false=>none
   |none=>none
  |_=>none
def wfD:(t:Ty)→t.den→Prop
 |.unit,_=>True
 |.bool,_=>True
 |.int k,n=>k.min≤n∧n≤k.max
 |.slice e,xs=>List.length (α:=e.den) xs≤maxLen∧∀ x∈(xs:List e.den),wfD e x
 |.prod a b,d=>wfD a d.1∧wfD b d.2
 |.arr n e,xs=>List.length (α:=e.den) xs=n∧∀ x∈(xs:List e.den),wfD e x
 |.nul _,_=>True
section
variable {H:Type} {enc:TypeId×Value→H} {P:Program} {w:World} {spare:Nat→Bool} {held:Bool}
abbrev below(w:World):Nat→Prop:=fun b=>b<w.heap.size
theorem Anx{k:IntKind}{n:Int}(h:(Lit.int k n).wf=true):k.min≤n∧n≤k.max:=by
 simpa [Lit.wf]using h
theorem AaZ{α:Type}{R:α→List Value→Prop}{k:Nat}:∀ (m:Nat) (f:Nat→List Value),(∀ i,i<m→(f i).length=k∧∃ x,R x (f i))→∃ xs:List α,xs.length=m∧rows R xs ((List.range m).flatMap f)∧∀ x∈xs,∃ i,i<m∧R x (f i):=by
 intro m
 induction m with
 |zero=>intro f _;exact⟨[],rfl,rfl,fun x hx=>by cases hx⟩
 |succ m ih=>
  intro f h
  obtain⟨xs,h1,h2,h3⟩:=ih f fun i hi=>h i (by omega)
  obtain⟨_,x,hx⟩:=h m (by omega)
  refine⟨xs++[x],by simp[h1],?_,fun y hy => ?_⟩
  ·rw[AqG,Aqj]
   exact Jc h2 (by simp;exact⟨f m,[],by simp,hx,rfl⟩)
  ·rcases ApR.1 hy with hy|hy
   ·obtain⟨i,hi,hr⟩:=h3 y hy;exact⟨i,by omega,hr⟩
   ·simp only[Ap4]at hy;subst hy;exact⟨m,by omega,hx⟩
theorem Aj8{f:Nat→List Value}{k:Nat}:∀ (m:Nat),(∀ i,i<m→(f i).length=k)→∀ (j:Nat) (u:Value),((List.range m).flatMap f)[j]? = some u→∃ i r,i<m∧r<k∧j=i*k+r∧(f i)[r]? = some u:=by
 intro m
 induction m with
 |zero=>intro _ j u h;simp at h
 |succ m ih=>
  intro hl j u h
  rw[AqG,Aqj]at h
  have hlen:∀ m',m'≤m→((List.range m').flatMap f).length=m'*k:=by
   intro m' hm'
   induction m' with
   |zero=>simp
   |succ m' ih'=>
    rw[AqG,Aqj,ApS,ih' (by omega)]
    simp[hl m' (by omega),AqW]
  rcases AqV j (m*k)with hj|hj
  ·rw[Apu (by rw[hlen m (ApY _)];exact hj)]at h
   obtain⟨i,r,h1,h2,h3,h4⟩:=ih (fun i hi=>hl i (by omega)) j u h
   exact⟨i,r,by omega,h2,h3,h4⟩
  ·rw[Apx (by rw[hlen m (ApY _)];exact hj),hlen m (ApY _)]at h
   simp only[Ap7,Ash,Aqa]at h
   have hr:j-m*k<k:=by
    have:=Bd h
    rwa [hl m (by omega)]at this
   exact⟨m,j-m*k,by omega,hr,by omega,h⟩
theorem Ak1(a:Addr)(i j:Nat):(a.add i).add j=a.add (i+j):=by
 unfold Addr.add
 by_cases hi:i=0
 ·subst hi;simp
 ·by_cases hj:j=0
  ·subst hj;simp
  ·have:¬ (i+j=0):=by omega
   simp[hi,hj,ArQ]
theorem AZg{α:Type}[Inhabited α]{n:Nat}{p:Nat→α→Prop}(h:∀ i,i<n→∃ x,p i x):∃ f:Nat→α,∀ i,i<n→p i (f i):=by
 classical
 refine⟨fun i=>if hi:i<n then Classical.choose (h i hi)else default,fun i hi => ?_⟩
 simp only[dif_pos hi]
 exact Classical.choose_spec (h i hi)
theorem AWS{rd:TypeId→Option Ty}{cs:List Value}(hrd:∀ (f:Field) (a:Ty),rd f.type=some a→(P.cellsOf f.type=a.size)→(∃ y:Nat×(DataW H×List MemPlace),DataW.trod enc P w 0 spare held y.1 f.type ((cs.drop f.offset).take (P.cellsOf f.type))=some y.2)→∃ d:a.den,Dat w (below w) a d ((cs.drop f.offset).take (P.cellsOf f.type))∧wfD a d):
  ∀ (fs:List Field) (off:Nat) (t:Ty),PW P rd fs off=some t→off+t.size=cs.length→(∀ f∈fs,∃ y:Nat×(DataW H×List MemPlace),DataW.trod enc P w 0 spare held y.1 f.type ((cs.drop f.offset).take (P.cellsOf f.type))=some y.2) →
   ∃ d:t.den,Dat w (below w) t d (cs.drop off)∧wfD t d:=by
 intro fs
 induction fs with
 |nil=>
  intro off t h hl _
  simp only[PW,ApN]at h
  subst h
  refine⟨(),?_,trivial⟩
  show cs.drop off=[]
  simp[Ty.size]at hl
  exact List.drop_eq_nil_of_le (by omega)
 |cons f r ih=>
  intro off t h hl hf
  simp only[PW]at h
  split at h
  ·rename_i a b ha hb
   split at h
   ·rename_i hc
    simp only[ApN]at h
    subst h
    simp only[ApU]at hc
    have h1:=Aqi hc.1
    have h2:=Aqi hc.2
    obtain⟨d,hd,hw⟩:=hrd f a ha h2 (hf f (by simp))
    simp only[Ty.size]at hl
    obtain⟨e,he,hw'⟩:=ih (off+P.cellsOf f.type) b hb (by omega) fun g hg=>hf g (by simp[hg])
    refine⟨(d,e),⟨(cs.drop off).take (P.cellsOf f.type),cs.drop (off+P.cellsOf f.type),?_,?_,he⟩,hw,hw'⟩
    ·rw[← ArF,AqX]
    ·rw[h1]at hd;exact hd
   ·cases h
  ·cases h
theorem Agg:∀ (n:Nat) (t:TypeId) (ty:Ty) (fuel:Nat) (cs:List Value) (x:DataW H×List MemPlace),FX P n t=some ty→DataW.trod enc P w 0 spare held fuel t cs=some x→∃ d:ty.den,Dat w (below w) ty d cs∧wfD ty d:=by
 intro n
 induction n with
 |zero=>intro t ty fuel cs x h;cases h
 |succ n ih=>
  intro t ty fuel cs x h hx
  simp only[FX]at h
  split at h
  ·rename_i hu
   simp only[ApN]at h;subst h
   obtain⟨b,rfl,_⟩:=DataW.trod_bool hu hx
   exact⟨b,rfl,trivial⟩
  ·rename_i k hu
   simp only[ApN]at h;subst h
   obtain⟨m,rfl,_,hw⟩:=DataW.trod_int hu hx
   exact⟨m,rfl,Anx hw⟩
  ·rename_i e hu
   split at h
   ·rename_i a ha
    split at h
    ·rename_i hc
     simp only[ApN]at h;subst h
     rw[ApU]at hc
     have hpos:a.size≠0:=fun h0=>by rw[h0]at hc;simp at hc
     have hc:=Aqi hc.1
     rcases DataW.trod_slice hu hx with⟨rfl,_⟩|⟨ad,len,cap,elems,rest,m,rfl,rfl,_,_,hle,hmax,hlen,hel,_⟩
     ·exact⟨[],⟨none,0,rfl,ApY _,fun hne=>absurd rfl hne⟩,ArN _,fun x hx=>by cases hx⟩
     ·-- each element
      have each:∀ i,i<len→∃ cs',w.cells? 0 (ad.add (i*P.cellsOf e)) (P.cellsOf e)=some cs'∧∃ d:a.den,Dat w (below w) a d cs'∧wfD a d:=by
       intro i hi
       have h1:=hel i hi
       rw[ApO (by omega),AqA]at h1
       obtain⟨cs',h2,h3⟩:=h1
       exact⟨cs',h2,ih e a m cs' _ ha h3⟩
      obtain⟨f,hf⟩:=AZg (α:=List Value) (p:=fun i cs'=>w.cells? 0 (ad.add (i*P.cellsOf e)) (P.cellsOf e)=some cs'∧∃ d:a.den,Dat w (below w) a d cs'∧wfD a d) each
      have hfl:∀ i,i<len→(f i).length=a.size:=by
       intro i hi
       obtain⟨_,hl,_⟩:=World.cells?_some (hf i hi).1
       rw[hl,hc]
      obtain⟨xs,h1,h2,h3⟩:=AaZ (R:=fun(d:a.den) cs=>Dat w (below w) a d cs∧wfD a d) (k:=a.size) len f fun i hi=>⟨hfl i hi,(hf i hi).2⟩
      refine⟨xs,⟨some ad,cap,by rw[h1],by rw[h1];exact hle,fun hne=>⟨ad,(List.range len).flatMap f,rfl,?_,BN (fun x _ cs hx=>hx.1) h2,fun j u hu => ?_⟩⟩,by rw[h1];exact AqN hle hmax,fun x hx => ?_⟩
      ·-- the block is there
       have hl0:0<len:=by
        rcases AqL len with h0|h0
        ·exact absurd (Apq (by rw[h1,h0])) hne
        ·exact h0
       have hb:=World.cells?_block (hf 0 hl0).1 (by omega)
       rw[Ara]at hb
       have e0:ad.add 0=ad:=by simp[Addr.add]
       rw[e0]at hb
       exact hb
      ·obtain⟨i,r,hi,hr,rfl,hur⟩:=Aj8 len hfl j u hu
       obtain⟨_,_,hcell⟩:=World.cells?_some (hf i hi).1
       have:=hcell r (by rw[hc];exact hr)
       rw[hur]at this
       rw[← this,hc,Ak1]
      ·obtain⟨i,_,hr⟩:=h3 x hx
       exact hr.2
    ·cases h
   ·cases h
  ·rename_i c e hu
   split at h
   ·rename_i a ha
    split at h
    ·rename_i hc
     simp only[ApN]at h;subst h
     rw[ApU]at hc
     have hc1:=Aqi hc.1
     have hc2:=Aqi hc.2
     obtain⟨xs,m,rfl,_,hl,hxs,hfs⟩:=DataW.trod_array hu hx
     rw[hc2]at hl
     obtain⟨ys,h1,h2,h3⟩:=AaZ (R:=fun(d:a.den) cs=>Dat w (below w) a d cs∧wfD a d) (k:=a.size) c (fun i=>(cs.drop (i*a.size)).take a.size) fun i hi=>by
      have hi1:i*a.size+a.size≤c*a.size:=by
       have:=AqC a.size (show i+1≤c from hi)
       rwa [AqW,Aq4]at this
      have h1:=hfs i hi
      rw[ApO (by omega),hc1]at h1
      exact⟨by rw[Api,AqS,hl];omega,ih e a m _ _ ha h1⟩
     have hjoin:∀ k,k≤c→(List.range k).flatMap (fun i=>(cs.drop (i*a.size)).take a.size)=cs.take (k*a.size):=by
      intro k
      induction k with
      |zero=>intro _;simp
      |succ k ihk=>
       intro hk
       rw[AqG,Aqj,ihk (by omega),AqW,Aq4,List.take_add]
       simp
     rw[hjoin c (ApY _),← hl,Ap3]at h2
     exact⟨ys,⟨h1,BN (fun x _ cs hx=>hx.1) h2⟩,h1,fun x hx=>by obtain⟨i,_,hr⟩:=h3 x hx;exact hr.2⟩
    ·cases h
   ·cases h
  ·rename_i fs hu
   split at h
   ·rename_i a ha
    split at h
    ·rename_i hc
     simp only[ApN]at h;subst h
     have hc:=Aqi hc
     obtain⟨xs,m,rfl,_,hl,hxs,hfs⟩:=DataW.trod_struct hu hx
     obtain⟨d,hd,hw⟩:=AWS (enc:=enc) (w:=w) (spare:=spare) (held:=held) (cs:=cs) (fun f b hb _ ⟨y,hy⟩=>ih f.type b y.1 _ y.2 hb hy) fs.toList 0 _ ha (by rw[hl,hc];omega) (fun f hf=>by
      obtain⟨i,hi⟩:=Ard hf
      have h1:=hfs i f (by simpa using hi)
      have hlt:i<xs.length:=by rw[hxs];simpa using Bd hi
      rw[ApO hlt]at h1
      exact⟨(m,xs[i]),h1⟩)
     rw[AsD]at hd
     exact⟨d,hd,hw⟩
    ·cases h
   ·cases h
  ·cases h
theorem AXR{r:Reach}{b0:Nat}{t:TypeId}{v:Value}(hval:Value.okWide P w r b0 t v)(hn:∀ d,P.underlying t=some d→(match d with|.bool|.int _|.slice _=>true|_=>false)=true){ty:Ty}{n:Nat}(h:FX P (n+1) t=some ty):v.cells.toList=[v]:=by
 simp only[Value.okWide]at hval
 have hu:∃ d,P.underlying t=some d:=by
  cases hu:P.underlying t with
  |none=>simp only[FX,hu]at h;cases h
  |some d=>exact⟨d,rfl⟩
 obtain⟨d,hu⟩:=hu
 have:=hn d hu
 rw[hu]at hval
 cases d<;>simp only[Apc]at this<;>simp only[Cell.okWide,hu]at hval<;>cases v<;>first|rfl|(simp_all [Cell.ok])
theorem AAM{r:Reach}{b0:Nat}{t:TypeId}{v:Value}{ps:List MemPlace}{dd:DataW H}(hval:Value.okWide P w r b0 t v)(hd:DataW.Trod enc P w 0 spare held t v dd ps){ty:Ty}{n:Nat}(h:FX P (n+1) t=some ty):
  ∃ d:ty.den,Bj w (below w) ty d v∧wfD ty d:=by
 obtain⟨fuel,hf⟩:=hd
 obtain⟨d,h1,h2⟩:=Agg (n+1) t ty fuel _ _ h hf
 refine⟨d,?_,h2⟩
 have one:(∀ d,P.underlying t=some d→(match d with|.bool|.int _|.slice _=>true|_=>false)=true)→ty.isAgg=false→Bj w (below w) ty d v:=by
  intro hn hg
  unfold Bj
  rw[hg]
  rw[AXR hval hn h]at h1
  exact h1
 have agg:(∃ cs,v = .agg cs)→ty.isAgg=true→Bj w (below w) ty d v:=by
  rintro⟨cs,rfl⟩ hg
  unfold Bj
  rw[hg]
  exact⟨cs,rfl,h1⟩
 have hu:∃ d,P.underlying t=some d:=by
  cases hu:P.underlying t with
  |none=>simp only[FX,hu]at h;cases h
  |some d=>exact⟨d,rfl⟩
 obtain⟨td,hu⟩:=hu
 simp only[FX,hu]at h
 split at h
 ·rename_i hq;cases hq;simp only[ApN]at h;subst h
  exact one (fun d hd=>by rw[hu]at hd;cases hd;rfl) rfl
 ·rename_i k hq;cases hq;simp only[ApN]at h;subst h
  exact one (fun d hd=>by rw[hu]at hd;cases hd;rfl) rfl
 ·rename_i e hq;cases hq
  split at h
  ·split at h
   ·simp only[ApN]at h;subst h
    exact one (fun d hd=>by rw[hu]at hd;cases hd;rfl) rfl
   ·cases h
  ·cases h
 ·rename_i c e hq;cases hq
  have hv:∃ cs,v = .agg cs:=by
   simp only[Value.okWide,hu]at hval
   obtain⟨cs,rfl,_⟩:=hval
   exact⟨cs,rfl⟩
  split at h
  ·split at h
   ·simp only[ApN]at h;subst h
    exact agg hv rfl
   ·cases h
  ·cases h
 ·rename_i fs hq;cases hq
  have hv:∃ cs,v = .agg cs:=by
   simp only[Value.okWide,hu]at hval
   obtain⟨cs,rfl,_⟩:=hval
   exact⟨cs,rfl⟩
  split at h
  ·rename_i a ha
   split at h
   ·simp only[ApN]at h;subst h
    refine agg hv ?_
    cases hfs:fs.toList with
    |nil=>rw[hfs]at ha;simp only[PW,ApN]at ha;subst ha;rfl
    |cons f r=>
     rw[hfs]at ha
     simp only[PW]at ha
     split at ha
     ·split at ha
      ·simp only[ApN]at ha;subst ha;rfl
      ·cases ha
     ·cases ha
   ·cases h
  ·cases h
 ·cases h
theorem AHf{g:FuncId}{s:Spec}(hs:AO P g s){args:List AV}{b:Bool}{e:Eff}(hrun:s (AV×Eff) args [] [] 0 (fun v e=>some (v,e))=some (.data .bool b,e)){vals:List Value}
  (hr:Ag w (below w) (fun _=>none) [] args vals):Calls P g vals.toArray w fun en w'=>en = .returned (.bool b)∧Below w.heap.size w w':=by
 obtain⟨v,e',h1,_,_,h4⟩:=hs _ args [] [] 0 _ _ hrun
 simp only[ApN,Apj]at h1
 obtain⟨rfl,rfl⟩:=h1
 have hi:HI w (below w) (fun _=>none) [] []:=⟨fun id o h=>by simp at h,fun i j b c b' c' h=>by simp[owned]at h,fun i b c h=>by simp[owned]at h,fun i T t xs b c h=>by simp at h,fun b h=>h,rfl⟩
 refine(h4 w _ _ vals hi hr).mono ?_
 rintro en w' ⟨u,rfl,F',m',⟨hx,_⟩,hu⟩
 have hb:u = .bool b:=Cn hu
 subst hb
 exact⟨rfl,hx.os,hx.tape,hx.output,hx.size,fun i hi=>hx.keep i hi fun j c ho _=>by simp[owned]at ho⟩
end
section
variable {H:Type} {enc:TypeId×Value→H} {P:Program}
theorem AGk{f:Func}{s:ChangeSpec}{apart fresh handsOn again:Bool}{W W':World}{args:Array Value}{v:Value}{ds gs:List (DataW H)}{before pa pv:List MemPlace}
  (hW:DataW.Whole enc P f.params.toList s.vars apart W args.toList ds gs before)
  (hres:∀ (b:Nat) (sp:Nat→Bool) (hd:Bool),DataW.TrodAll enc P W' b sp hd f.resultTypes.toList (v.resultList f.resultTypes.size) (s.fn H (ds++gs)).results [])
  (hargs:∀ sp:Nat→Bool,(∀ p∈before,sp p.block=true)→DataW.TrodAll enc P W' 0 sp true f.params.toList args.toList (s.fn H (ds++gs)).args pa)
  (hvars:∀ sp:Nat→Bool,(∀ p∈before,sp p.block=true)→DataW.TrodVars enc P W' sp s.vars (s.fn H (ds++gs)).vars pv)
  (hps:before=pa++pv) (hb:Below W.heap.size W W')
  (hok:∀ (j:Nat) (t:TypeId) (r:Value),f.resultTypes[j]? = some t→(v.resultList f.resultTypes.size)[j]? = some r→Value.okWide P W' .any 0 t r) :
  s.post enc P f apart fresh handsOn again W args v W':=by
 have hlt:∀ p∈before,p.block<W.heap.size:=fun p hp=>hW.lt p hp
 have hold:∀ p∈before,(fun b=>decide (b<W.heap.size)) p.block=true:=fun p hp=>by simpa using hlt p hp
 refine⟨ds,gs,before,[],pa,pv,hW,hres _ _ _,hargs _ hold,hvars _ hold,World.keptBut_mono (fun p hp=>⟨hp,?_⟩) (hb.frame (·∈before)),fun _ => ?_⟩
 ·rw[hps,ApR]at hp
  exact Or.inr hp
 ·obtain⟨_,_,_,_,_,hz,hn⟩:=hW
  refine⟨hok,_,_,([]++pa)++pv,⟨[]++pa,pv,trodAll_append (hargs _ (fun _ _=>rfl)) (hres _ _ _),hvars _ (fun _ _=>rfl),rfl,?_,?_⟩,?_⟩
  ·intro b off hp
   have hin:MemPlace.cell b off∈before:=by rw[hps];simpa using hp
   rw[hb.frozen (hlt _ hin)]
   exact hz b off hin
  ·intro ha
   have:=hn ha
   rw[hps]at this
   simpa using this
  ·intro p hp _
   rw[hps]
   simpa using hp
theorem PE{t:TypeId}(hl:laidOutB P=true)(hr:P.readableRec t=true)(hrow:t<P.types.size){W W':World}{v:Value}{d:DataW H}{ps:List MemPlace}
  (h:DataW.Trod enc P W 0 (fun _=>true) true t v d ps) (hb:Below W.heap.size W W') (hlt:∀ x∈ps,x.block<W.heap.size) {sp:Nat→Bool} (hs:∀ x∈ps,sp x.block=true) :
  DataW.Trod enc P W' 0 sp true t v d ps:=
 WideElems.Trod_stays hl hr hrow h (fun x hx=>hb.same (hlt x hx)) hs
end
end Go.Pev
end
section
section
namespace Go.Pev.Pl
open Tok
theorem Mh{n u v:Int}(h:okT n (.arc u v)):okT n (.arc v u):=⟨h.2.1,h.1,AqH h.2.2⟩
end Go.Pev.Pl
end
section
namespace Go.Pev.Pl
open Tok
theorem Aop(n t:Int):TI n [t]↔In n t:=by
 constructor
 ·rintro⟨L,h1,h2,h3⟩
  rcases h3.leaf with⟨v,e⟩|⟨x,v,r,hr⟩
  ·subst e
   simp only[Ap2,ArB,Apo,ArS]at h1
   rw[h1]
   exact h2 (.ver v) (by simp)
  ·have h4:=hr.length
   have h5:=Aqy List.length h1
   simp only[ApW,Apk,Apr]at h4 h5
   omega
 ·intro h
  exact⟨[.ver t],rfl,fun x hx=>by simp at hx;subst hx;exact h,T.one t⟩
theorem Aoq(n:Int):¬ TI n []:=by
 rintro⟨L,h1,h2,h3⟩
 have:=h3.facts.1
 cases L with
 |nil=>exact this rfl
 |cons t L=>cases h1
end Go.Pev.Pl
end
section
namespace Go.Pev.Pl
open Tok
def RG(n:Int)(xs:List Int):Prop:=Rt xs∧xs≠[]∧II xs=xs.headD 0∧TI n xs
def okR(n:Int):List Int→Int→List (List Int)→Prop
 |_,_,[]=>True
 |seen,last,l::ls=>RG n l∧last<l.headD 0∧(∀ t∈l,t<n→t∉seen)∧okR n (seen++l.filter (fun t=>decide (t<n))) (l.headD 0) ls
def RF(n:Int)(rings:List (List Int)):Prop:=Sz n∧okR n [] (-1) rings∧∀ v,0≤v→v<n→v∈rings.flatten
noncomputable instance (n:Int) (rings:List (List Int)):Decidable (RF n rings):=Classical.propDecidable _
noncomputable instance (n:Int) (xs:List Int):Decidable (RG n xs):=Classical.propDecidable _
def MI(n:Int)(met:List (Int×Int))(seen:List Int):Prop:=∀ t,t<n→(AS met t).getD (0:Int)=if t∈seen then 1 else 0
theorem AKY(n:Int)(l:List Int)(hl:l.length<1073741824)(d1:List (List Int))(d3:Int)(d4:List (List Int))(d5 d6:Int)(d7:List Int)(d8 d9:Int)(d10:Bool)(d11:List Int)(d12 d13:Bool)(d14:List Int)(d15:Int)(d16:List Int)(d17:Int)(d18:Bool)(d19:Int)(d20:List Int)(d21 d22:Bool):
  ∀ (m k cnt:Nat) (met:List (Int×Int)) (seen:List Int),k+m=l.length→MI n met seen→(l.drop k).Nodup→m<cnt →
  ((∀ t∈l.drop k,t<n→t∉seen)∧∃ met',Aj Dd cnt (n,d1,met,d3,d4,d5,d6,d7,d8,d9,d10,d11,d12,d13,d14,d15,d16,d17,d18,d19,d20,d21,d22,l,(l.length:Int),(k:Int),()) =
    some (.inr (.inl (n,d1,met',d3,d4,d5,d6,d7,d8,d9,d10,d11,d12,d13,d14,d15,d16,d17,d18,d19,d20,d21,d22,())))∧MI n met' (seen++(l.drop k).filter (fun t=>decide (t<n)))) ∨
  (¬ (∀ t∈l.drop k,t<n→t∉seen)∧Aj Dd cnt (n,d1,met,d3,d4,d5,d6,d7,d8,d9,d10,d11,d12,d13,d14,d15,d16,d17,d18,d19,d20,d21,d22,l,(l.length:Int),(k:Int),())=some (.inl (false,()))):=by
 intro m
 induction m with
 |zero=>
  intro k cnt met seen hk hm hn hc
  obtain⟨cnt,rfl⟩:∃ c,cnt=c+1:=⟨cnt-1,by omega⟩
  have e:l.drop k=[]:=Aqx (by omega)
  rw[e]
  refine .inl ⟨by simp,met,?_,by simpa using hm⟩
  rw[Aj,Dd,AL,ApL (by omega)]
 |succ m ih=>
  intro k cnt met seen hk hm hn hc
  obtain⟨cnt,rfl⟩:∃ c,cnt=c+1:=⟨cnt-1,by omega⟩
  have hk':k<l.length:=by omega
  have e:l.drop k=l.getD k 0::l.drop (k+1):=by
   rw[AqF hk',ApP,ApO hk',AqI]
  rw[Aj,Dd,AL,ApM hk']
  simp only[Lx (0:Int) hk']
  rw[e]at hn ⊢
  generalize l.getD k 0=t at *
  rw[Apw]at hn
  rw[AP (by omega),Af]
  by_cases ht:t<n
  ·rw[ApM ht]
   have hmt:=hm t ht
   simp only[hmt,Af]
   by_cases hs:t∈seen
   ·rw[ApZ hs,ApM (by omega)]
    exact .inr ⟨fun h=>h t (by simp) ht hs,rfl⟩
   ·rw[ApV hs,ApL (by omega)]
    simp only[]
    have w1:IntKind.wrap .i64 ((0:Int)+1)=1:=by rw[Ah (by omega)];rfl
    rw[w1]
    have hm':MI n (Ae met t 1) (seen++[t]):=by
     intro y hy
     rw[Dk]
     by_cases e2:y=t
     ·simp[e2]
     ·simp only[e2,Apf,ApR,Ap4,AsX];exact hm y hy
    have hiff:(∀ y∈t::l.drop (k+1),y<n→y∉seen)↔∀ y∈l.drop (k+1),y<n→y∉seen++[t]:=by
     constructor
     ·intro h y hy hyn hm2
      simp only[ApR,Ap4]at hm2
      rcases hm2 with h2|rfl
      ·exact h y (Apv _ hy) hyn h2
      ·exact hn.1 hy
     ·intro h y hy hyn hm2
      rcases ApT.1 hy with rfl|hy
      ·exact hs hm2
      ·exact h y hy hyn (by simp[hm2])
    rcases ih (k+1) cnt _ _ (by omega) hm' hn.2 (by omega)with⟨q1,met',q2,q3⟩|⟨q1,q2⟩
    ·refine .inl ⟨hiff.2 q1,met',q2,?_⟩
     rw[List.filter_cons_of_pos (by simpa using ht)]
     simpa using q3
    ·exact .inr ⟨fun h=>q1 (hiff.1 h),q2⟩
  ·rw[ApL ht]
   simp only[]
   have hm':MI n (Ae met t (IntKind.wrap .i64 (((AS met t).getD (0:Int))+(1:Int)))) seen:=by
    intro y hy
    rw[Dk,ApV (by omega)]
    exact hm y hy
   have hiff:(∀ y∈t::l.drop (k+1),y<n→y∉seen)↔∀ y∈l.drop (k+1),y<n→y∉seen:=by
    constructor
    ·intro h y hy;exact h y (Apv _ hy)
    ·intro h y hy hyn
     rcases ApT.1 hy with rfl|hy
     ·exact absurd hyn ht
     ·exact h y hy hyn
   rcases ih (k+1) cnt _ _ (by omega) hm' hn.2 (by omega)with⟨q1,met',q2,q3⟩|⟨q1,q2⟩
   ·refine .inl ⟨hiff.2 q1,met',q2,?_⟩
    rw[List.filter_cons_of_neg (by simpa using ht)]
    exact q3
   ·exact .inr ⟨fun h=>q1 (hiff.1 h),q2⟩
theorem AAO(n:Int)(rings:List (List Int))(hlen:rings.length<1073741824)(hr:∀ l∈rings,l.length<9223372036854775808∧∀ x∈l, -9223372036854775808≤x∧x≤9223372036854775807):
  ∀ (ls:List (List Int)) (i cnt:Nat) (met:List (Int×Int)) (last:Int) (seen:List Int),rings.drop i=ls→i≤rings.length→MI n met seen→ls.length<cnt →
  (okR n seen last ls∧∃ met' seen',Aj De cnt (n,rings,met,last,rings,(rings.length:Int),(i:Int),())=some (.inr (.inl (n,rings,met',())))∧MI n met' seen'∧∀ v,v∈seen'↔v∈seen∨(v<n∧v∈ls.flatten)) ∨
  (¬ okR n seen last ls∧Aj De cnt (n,rings,met,last,rings,(rings.length:Int),(i:Int),())=some (.inl (false,()))):=by
 have hmany:4294967296<many:=by simp only[many];omega
 intro ls
 induction ls with
 |nil=>
  intro i cnt met last seen hd hi hm hc
  obtain⟨cnt,rfl⟩:∃ c,cnt=c+1:=⟨cnt-1,by simp at hc;omega⟩
  have:rings.length≤i:=by simpa using hd
  refine .inl ⟨trivial,met,seen,?_,hm,by simp⟩
  rw[Aj,De,AL,ApL (by omega)]
 |cons l ls ih=>
  intro i cnt met last seen hd hi hm hc
  simp only[ApW]at hc
  obtain⟨cnt,rfl⟩:∃ c,cnt=c+1:=⟨cnt-1,by omega⟩
  have hi':i<rings.length:=by
   refine Aql fun h => ?_
   rw[Aqx (by omega)]at hd
   cases hd
  rw[AqF hi']at hd
  simp only[Apo]at hd
  obtain⟨hd1,hd2⟩:=hd
  have hx:rings[i]? = some l:=by rw[ApO hi',hd1]
  have hmem:l∈rings:=Apb hx
  obtain⟨hl,hlr⟩:=hr l hmem
  rw[Aj,De,AL,ApM hi',okR]
  simp only[AU hx,Ad]
  cases l with
  |nil=>
   rw[AR,ApM (by simp)]
   exact .inr ⟨fun h=>h.1.2.1 rfl,rfl⟩
  |cons x tl=>
   rw[AR,ApL (by simp only[ApW];omega)]
   have i0:idx (x::tl) (0:Int)=some x:=by rw[Js];rfl
   simp only[i0,List.headD_cons,An]
   by_cases c1:x≤last
   ·rw[ApM c1]
    exact .inr ⟨fun h=>by omega,rfl⟩
   ·rw[ApL c1]
    simp only[PT]
    by_cases c2:Rt (x::tl)
    ·rw[ApM c2]
     have hl:(x::tl).length<1073741824:=by have:=c2.1;omega
     simp only[ApX,ASN (x::tl) (by simp) (by omega)]
     by_cases c3:II (x::tl)=x
     ·rw[ApM c3]
      simp only[ApX]
      rw[Ajn n (x::tl) (by simp) (by omega) hlr c2.2.2 (fun y hy=>by simp at hy;rw[← hy];exact c3)]
      by_cases c4:TI n (x::tl)
      ·rw[ApM c4]
       simp only[ApX,A3]
       have hRG:RG n (x::tl):=⟨c2,by simp,c3,c4⟩
       rcases AKY n (x::tl) hl rings x rings (rings.length:Int) (i:Int) (x::tl) x last false (x::tl) true false (x::tl) (II (x::tl)) (x::tl) x false n (x::tl) true false (x::tl).length 0 many met seen (by omega) hm (by rw[AsD];exact c2.2.2) (by omega)with⟨q1,met',q2,q3⟩|⟨q1,q2⟩
       ·rw[AsD]at q1 q3
        have q2':Aj Dd many (n,rings,met,x,rings,(rings.length:Int),(i:Int),x::tl,x,last,false,x::tl,true,false,x::tl,II (x::tl),x::tl,x,false,n,x::tl,true,false,x::tl,((x::tl).length:Int),(0:Int),())=_:=q2
        simp only[q2',AP (show i+1<9223372036854775808 by omega)]
        rcases ih (i+1) cnt met' x (seen++(x::tl).filter (fun t=>decide (t<n))) hd2 (by omega) q3 (by omega)with⟨p1,met2,seen2,p2,p3,p4⟩|⟨p1,p2⟩
        ·refine .inl ⟨⟨hRG,by omega,q1,p1⟩,met2,seen2,p2,p3,fun v => ?_⟩
         rw[p4,ApR,Apg,Aqt,ApR]
         simp only[ApQ]
         constructor
         ·rintro ((h|h)|h)
          ·exact .inl h
          ·exact .inr ⟨h.2,.inl h.1⟩
          ·exact .inr ⟨h.1,.inr h.2⟩
         ·rintro (h|⟨h,h2|h2⟩)
          ·exact .inl (.inl h)
          ·exact .inl (.inr ⟨h2,h⟩)
          ·exact .inr ⟨h,h2⟩
        ·exact .inr ⟨fun h=>p1 h.2.2.2,p2⟩
       ·rw[AsD]at q1
        have q2':Aj Dd many (n,rings,met,x,rings,(rings.length:Int),(i:Int),x::tl,x,last,false,x::tl,true,false,x::tl,II (x::tl),x::tl,x,false,n,x::tl,true,false,x::tl,((x::tl).length:Int),(0:Int),())=_:=q2
        simp only[q2']
        exact .inr ⟨fun h=>q1 h.2.2.1,by trivial⟩
      ·rw[ApL c4]
       exact .inr ⟨fun h=>c4 h.1.2.2.2,rfl⟩
     ·rw[ApL c3]
      exact .inr ⟨fun h=>c3 h.1.2.2.1,rfl⟩
    ·rw[ApL c2]
     exact .inr ⟨fun h=>c2 h.1.1,rfl⟩
theorem AAN(n:Int)(rings:List (List Int))(hlen:rings.length<1073741824)(hr:∀ l∈rings,l.length<9223372036854775808∧∀ x∈l, -9223372036854775808≤x∧x≤9223372036854775807):
  TK ((n,(rings,())),())=some (decide (RF n rings),()):=by
 have hmany:4294967296<many:=by simp only[many];omega
 rw[AHw,Qk]
 simp only[KM]
 by_cases hS:Sz n
 ·rw[ApM hS]
  simp only[ApX,A3,AR]
  rcases AAO n rings hlen hr rings 0 many [] (-1) [] (by simp) (by omega) (fun t _=>by simp[AS]) (by omega)with⟨p1,met,seen,p2,p3,p4⟩|⟨p1,p2⟩
  ·have p2':Aj De many (n,rings,[], -1,rings,(rings.length:Int),(0:Int),())=_:=p2
   simp only[p2']
   obtain⟨s1,s2⟩:=hS
   obtain⟨N,rfl⟩:=Apa (show 0≤n by omega)
   have e:=Anm (step:=Eb) (fun i=>(met,(N:Int),(i:Int),())) N (fun i=>decide ((i:Int)∉seen)) (fun _=>.inl (false,())) (.inr (.inl ())) (by omega)
    (fun i hi=>by
     have:=p3 (i:Int) (by omega)
     rw[Eb,AL,ApM hi]
     simp only[this,Ad]
     by_cases h:(i:Int)∈seen
     ·simp only[h,Ap6,not_true]
      rw[AP (by omega)];simp
     ·simp[h])
    (by rw[Eb,AL,ApL (by omega)])
   rw[A3]at e
   have hv:∀ v,v∈seen↔(v<(N:Int)∧v∈rings.flatten):=fun v=>by rw[p4];simp
   rcases e with⟨k,k1,k2,_,k4⟩|⟨k1,k4⟩
   ·have k4':Aj Eb many (met,(N:Int),(0:Int),())=_:=k4
    rw[k4',ApL]
    rintro⟨_,_,h⟩
    simp only[ApQ]at k2
    exact k2 ((hv _).2 ⟨by omega,h (k:Int) (by omega) (by omega)⟩)
   ·have k4':Aj Eb many (met,(N:Int),(0:Int),())=_:=k4
    rw[k4',ApM]
    refine⟨⟨s1,s2⟩,p1,fun v v1 v2 => ?_⟩
    obtain⟨k,rfl⟩:=Apa v1
    have:=k1 k (by omega)
    simp only[AqQ,Arp]at this
    exact((hv _).1 this).2
  ·have p2':Aj De many (n,rings,[], -1,rings,(rings.length:Int),(0:Int),())=_:=p2
   simp only[p2']
   rw[ApL (fun h=>p1 h.2.1)]
 ·rw[ApL hS,ApL (fun h=>hS h.1)];rfl
end Go.Pev.Pl
end
section
namespace Go.Pev.Pl
open Tok
theorem AWf{xs:List Int}(hr:Rt xs)(h:xs≠[]):plain xs=xs↔II xs=xs.headD 0:=by
 obtain⟨a,b,h1,h2⟩:=MW hr h
 constructor
 ·intro e
  rw[e]at h2
  rw[h2]
  have:II xs=II xs:=rfl
  conv=>lhs;rw[← h2]
  rfl
 ·intro e
  cases a with
  |nil=>rw[h2,Aqa];exact h1.symm
  |cons y a=>
   exfalso
   have hn:=hr.2.2
   have hy:y=II xs:=by rw[e,h1];rfl
   rw[h1,Aps,Apw]at hn
   exact hn.1 (by rw[← hy];simp)
theorem SM{n:Int}{l:List Int}(h:RG n l):In n (l.headD 0):=by
 obtain⟨h1,h2,h3,h4⟩:=h
 cases l with
 |nil=>exact absurd rfl h2
 |cons x l=>exact Abl h4 h3
theorem AmN{n:Int}(hn:1≤n):∀ {ls:List (List Int)} {seen:List Int} {last:Int},okR n seen last ls→-1≤last→last<n→(ls.length:Int)≤n-1-last:=by
 intro ls
 induction ls with
 |nil=>intro seen last _ _ h;simp;omega
 |cons l ls ih=>
  intro seen last ⟨h1,h2,h3,h4⟩ hl hl2
  have hh:=(SM h1).2.2
  have:=ih h4 (by omega) hh.2
  simp only[ApW]
  omega
end Go.Pev.Pl
end
section
namespace Go.Pev.Pl
open Tok
def hd(l:List Int):Int:=l.headD 0
def Dis(n:Int)(a b:List Int):Prop:=∀ t∈a,t<n→t∉b
structure FR(n:Int)(rings:List (List Int)):Prop where
 sz:Sz n
 rg:∀ l∈rings,RG n l
 up:rings.Pairwise (fun a b=>hd a<hd b)
 dis:rings.Pairwise (Dis n)
 cov:∀ v,In n v→∃ l∈rings,v∈l
theorem Dis.symm{n:Int}{a b:List Int}(h:Dis n a b):Dis n b a:=fun t ht hn ha=>h t ha hn ht
theorem Aax{n:Int}:∀ {ls:List (List Int)} {seen:List Int} {last:Int},okR n seen last ls↔(∀ l∈ls,RG n l∧last<hd l∧∀ t∈l,t<n→t∉seen)∧ls.Pairwise (fun a b=>hd a<hd b)∧ls.Pairwise (Dis n):=by
 intro ls
 induction ls with
 |nil=>intro seen last;simp[okR]
 |cons l ls ih=>
  intro seen last
  rw[okR,ih,AqZ,AqZ]
  constructor
  ·rintro⟨h1,h2,h3,h4,h5,h6⟩
   refine⟨fun k hk => ?_,⟨fun k hk=>(h4 k hk).2.1,h5⟩,⟨fun k hk t ht htn htk => ?_,h6⟩⟩
   ·rcases ApT.1 hk with rfl|hk
    ·exact⟨h1,h2,h3⟩
    ·obtain⟨q1,q2,q3⟩:=h4 k hk
     exact⟨q1,Int.lt_trans h2 q2,fun t ht htn hts=>q3 t ht htn (by simp[hts])⟩
   ·exact(h4 k hk).2.2 t htk htn (by simp[ht,htn])
  ·rintro⟨h1,⟨h2,h3⟩,⟨h4,h5⟩⟩
   obtain⟨q1,q2,q3⟩:=h1 l (by simp)
   refine⟨q1,q2,q3,fun k hk => ?_,h3,h5⟩
   obtain⟨p1,p2,p3⟩:=h1 k (by simp[hk])
   refine⟨p1,h2 k hk,fun t ht htn hts => ?_⟩
   simp only[ApR,Apg]at hts
   rcases hts with h|h
   ·exact p3 t ht htn h
   ·exact h4 k hk t h.1 htn ht
theorem AOo{n:Int}{rings:List (List Int)}:RF n rings↔FR n rings:=by
 constructor
 ·rintro⟨h1,h2,h3⟩
  obtain⟨q1,q2,q3⟩:=Aax.1 h2
  refine⟨h1,fun l hl=>(q1 l hl).1,q2,q3,fun v hv => ?_⟩
  obtain⟨l,hl,h⟩:=List.mem_flatten.1 (h3 v hv.2.2.1 hv.2.2.2)
  exact⟨l,hl,h⟩
 ·rintro⟨h1,h2,h3,h4,h5⟩
  refine⟨h1,Aax.2 ⟨fun l hl=>⟨h2 l hl,?_,by simp⟩,h3,h4⟩,fun v v1 v2 => ?_⟩
  ·have:=(SM (h2 l hl)).2.2.1
   show(-1:Int)<l.headD 0
   omega
  ·obtain⟨l,hl,h⟩:=h5 v ⟨h1.1,h1.2,v1,v2⟩
   exact List.mem_flatten.2 ⟨l,hl,h⟩
theorem AP4{ys zs:List (List Int)}(hz:zs.Pairwise (fun a b=>hd a<hd b))(hp:ys.Perm zs)(hy:ys.Pairwise (fun a b=>¬ hd b<hd a)):ys=zs:=by
 have hinj:∀ a∈zs,∀ b∈zs,hd a=hd b→a=b:=by
  intro a ha b hb e
  refine Aql fun hne => ?_
  obtain⟨i,hi,rfl⟩:=Aq0 ha
  obtain⟨j,hj,rfl⟩:=Aq0 hb
  rw[Aqm]at hz
  rcases AsA i j with h|h|h
  ·have:=hz i j hi hj h;omega
  ·subst h;exact hne rfl
  ·have:=hz j i hj hi h;omega
 refine Arv (le:=fun a b=>¬ hd b<hd a) ?_ hy ?_ hp
 ·intro a b ha hb h1 h2
  exact hinj a (hp.mem_iff.1 ha) b hb (by omega)
 ·exact hz.imp fun h=>by omega
def plc(rings:List (List Int))(v:Int):Int:=if rings.any (fun l=>decide (v∈l))then((rings.findIdx (fun l=>decide (v∈l)):Nat):Int)else -1
theorem AAS(n:Int)(rings:List (List Int))(v:Int)(hlen:rings.length<1073741824)(hr:∀ l∈rings,l.length<9223372036854775808):TL ((n,(rings,())),v,())=some (plc rings v,()):=by
 rw[AHx,Ql,IZ,Dn]
 have e:=Hr (step:=Be) (fun i=>(v,rings,AM rings,(i:Int),())) rings (fun l=>decide (v∈l)) (fun i=>.inl (v,(i:Int),())) (.inr (.inl (v,()))) (by omega)
  (fun i l hi hx=>by
   have hl:=hr l (Apb hx)
   rw[Be,AR,AL,ApM hi]
   simp only[AU hx,JD l v (by omega)]
   rw[AP (by omega)]
   by_cases h:v∈l
   ·rw[ApM h];rfl
   ·rw[ApL h];rfl)
  (by rw[Be,AR,AL,ApL (by omega)])
 have e':AX Be many (v,rings,AM rings,(0:Int),())=_:=e
 simp only[e',plc]
 cases rings.any (fun l=>decide (v∈l))<;>rfl
theorem AB3{rings:List (List Int)}{v:Int}(h:∃ l∈rings,v∈l):∃ k l,plc rings v=((k:Nat):Int)∧rings[k]? = some l∧v∈l∧k<rings.length:=by
 obtain⟨l,hl,hv⟩:=h
 have hany:rings.any (fun l=>decide (v∈l))=true:=ArU.2 ⟨l,hl,by simpa using hv⟩
 have hk:rings.findIdx (fun l=>decide (v∈l))<rings.length:=ArP.2 ⟨l,hl,by simpa using hv⟩
 refine⟨_,rings[rings.findIdx (fun l=>decide (v∈l))],by rw[plc,ApZ hany],by rw[ApO hk],?_,hk⟩
 have:=AsL (xs:=rings) (p:=fun l=>decide (v∈l)) (w:=hk)
 simpa using this
theorem FR.uniq{n:Int}{rings:List (List Int)}(h:FR n rings){i j:Nat}{a b:List Int}{v:Int}(hi:rings[i]? = some a)(hj:rings[j]? = some b)(hn:v<n)(ha:v∈a)(hb:v∈b):i=j:=by
 obtain⟨hi1,rfl⟩:=Apd.1 hi
 obtain⟨hj1,rfl⟩:=Apd.1 hj
 have hd:=Aqm.1 h.dis
 rcases AsA i j with g|g|g
 ·exact absurd hb (hd i j hi1 hj1 g v ha hn)
 ·exact g
 ·exact absurd ha (hd j i hj1 hi1 g v hb hn)
theorem FR.AiC{n:Int}{rings:List (List Int)}(h:FR n rings){k:Nat}{a:List Int}{v:Int}(hk:rings[k]? = some a)(hn:v<n)(ha:v∈a):plc rings v=(k:Int):=by
 obtain⟨j,l,e,hj,hv,_⟩:=AB3 ⟨a,Apb hk,ha⟩
 rw[e,h.uniq hj hk hn hv ha]
theorem AD7{α:Type}{l:List α}{i:Nat}{a:α}(h:l[i]? = some a):l.Perm (a::l.eraseIdx i):=by
 obtain⟨hi,rfl⟩:=Apd.1 h
 rw[List.eraseIdx_eq_take_drop_succ]
 conv=>lhs;rw[← AqX i l,AqF hi]
 exact List.perm_middle
theorem X7{α:Type}{l:List α}{i j:Nat}{a b:α}(hij:i<j)(hi:l[i]? = some a)(hj:l[j]? = some b):l.Perm (a::b::(l.eraseIdx j).eraseIdx i):=by
 have h1:=AD7 hj
 have h2:(l.eraseIdx j)[i]? = some a:=by rw[List.getElem?_eraseIdx_of_lt hij,hi]
 exact h1.trans (((AD7 h2).cons b).trans (List.Perm.swap a b _))
theorem Adq{n:Int}{t:Tok}(h:okT n t):0≤F4 n t∧F4 n t≤4160∧F4 n t<n*(n+1):=by
 cases t with
 |ver v=>
  obtain⟨h1,h2,h3,h4⟩:=h
  have:n*1≤n*(n+1):=Int.mul_le_mul_of_nonneg_left (by omega) (by omega)
  simp only[F4];omega
 |arc u v=>
  obtain⟨h1,h2,_⟩:=h
  obtain⟨g1,g2,_⟩:=Zg h1 h2
  have hb:=Ke (u:=n+1-1) h1.1 h1.2.1 (by have:=h1.1;omega) (by have:=h1.2.1;omega)
  have e:n*(n+1)=n*(n+1-1)+n:=by rw[show n+1-1=n by omega,Int.mul_add,Int.mul_one]
  have:=h1.1
  have:=h1.2.1
  simp only[F4]
  omega
theorem AoP{n:Int}{t:Tok}(h:okT n t):Sz n:=by
 cases t with
 |ver v=>exact⟨h.1,h.2.1⟩
 |arc u v=>exact⟨h.1.1,h.1.2.1⟩
theorem PD:∀ {L:List Tok},L.Nodup→(MD L).Nodup
 |[],_=>by simp[MD]
 |.ver v::L,h=>by
  rw[Apw]at h
  rw[MD,Apw]
  exact⟨fun hm=>h.1 (RL.1 hm),PD h.2⟩
 |.arc _ _::L,h=>by
  rw[Apw]at h
  rw[MD]
  exact PD h.2
theorem Anv{n:Int}{xs:List Int}(h:TI n xs):Rt xs:=by
 obtain⟨L,rfl,h2,h3⟩:=h
 have hn:=h3.nodup
 refine⟨?_,fun x hx => ?_,?_⟩
 ·obtain⟨v,r,hr⟩:=h3.ATr
  have hS:Sz n:=AoP (h2 (.ver v) ((hr.mem _).2 (by simp)))
  have hl:=h3.len
  have hv:=GQ (a:=MD L) (b:=(List.range n.toNat).map (fun(k:Nat)=>(k:Int))) (PD hn) fun x hx=>by
   have:=h2 _ (RL.1 hx)
   have h5:=this.2.2
   rw[Aph]
   exact⟨x.toNat,by rw[Apz];omega,by omega⟩
  have h6:=hS.2
  simp only[Apr,Apy]at hv ⊢
  omega
 ·obtain⟨t,ht,rfl⟩:=Aph.1 hx
  have:=Adq (h2 t ht)
  omega
 ·rw[List.Nodup,ArJ]
  exact hn.imp_of_mem fun ha hb hne e=>hne (Rn (h2 _ ha) (h2 _ hb) e)
def AOs(a b:List Int):Prop:=∃ x y,a=x++y∧b=y++x
theorem AOs.perm{a b:List Int}(h:AOs a b):a.Perm b:=by
 obtain⟨x,y,rfl,rfl⟩:=h
 exact ArZ
theorem AOs.symm{a b:List Int}(h:AOs a b):AOs b a:=by obtain⟨x,y,h1,h2⟩:=h;exact⟨y,x,h2,h1⟩
theorem Ak8{n:Int}{a b:List Int}(h:TI n a)(r:AOs a b):TI n b:=by
 obtain⟨L,h1,h2,h3⟩:=h
 obtain⟨x,y,rfl,rfl⟩:=r
 obtain⟨L1,L2,rfl,e1,e2⟩:=List.map_eq_append_iff.1 h1.symm
 refine⟨L2++L1,by rw[AqO,e1,e2],fun t ht=>h2 t ?_,T.rot L1 L2 h3⟩
 simp only[ApR]at ht ⊢
 exact ht.symm
theorem DR{xs:List Int}{t:Int}(h:t∈xs):AOs xs (Bz xs t):=by
 obtain⟨a,b,e1,_,e3⟩:=ABa h
 exact⟨a,t::b,e1,by rw[e3]⟩
theorem Adz{xs ys:List Int}(h:xs.Perm ys)(hne:xs≠[]):II ys=II xs:=by
 obtain⟨h1,h2⟩:=Fe hne
 exact AmP (h.mem_iff.1 h1) fun x hx=>h2 x (h.mem_iff.2 hx)
theorem AWg{xs:List Int}(hr:Rt xs)(hne:xs≠[]):AOs xs (plain xs):=by
 rw[plain,ApZ ⟨hr,hne⟩]
 exact DR (Fe hne).1
theorem Anu{n:Int}{xs:List Int}(h:TI n xs):xs≠[]:=by rintro rfl;exact Aoq n h
theorem AUk{n:Int}{xs:List Int}(h:TI n xs):RG n (plain xs)∧AOs xs (plain xs):=by
 have hr:=Anv h
 have hne:=Anu h
 have h1:=AWg hr hne
 have h2:=Ak8 h h1
 refine⟨⟨Anv h2,Anu h2,?_,h2⟩,h1⟩
 rw[Adz h1.perm hne]
 obtain⟨a,b,_,e⟩:=MW hr hne
 rw[e];rfl
theorem RG.self{n:Int}{xs:List Int}(h:RG n xs):plain xs=xs:=(AWf h.1 h.2.1).2 h.2.2.1
theorem AUi{n:Int}{xs:List Int}(h:TI n xs){t:Tok}(ht:okT n t)(hx:F4 n t∈xs):∃ a,Bz xs (F4 n t)=(t::a).map (F4 n)∧T (t::a)∧(∀ y∈t::a,okT n y):=by
 have h1:=Ak8 h (DR hx)
 obtain⟨a,b,e1,e2,e3⟩:=ABa hx
 obtain⟨L,q1,q2,q3⟩:=h1
 rw[e3,Aps]at q1
 cases L with
 |nil=>cases q1
 |cons t' L=>
  simp only[Ap2,Apo]at q1
  have:=Rn ht (q2 t' (by simp)) q1.1
  subst this
  exact⟨L,by rw[e3,Aps,Ap2,q1.2],q3,q2⟩
end Go.Pev.Pl
end
section
namespace Go.Pev.Pl
open Go.RowKit Tok
theorem ASe(a:Int):ieq a a=true:=by rw[CN];simp
def Dom(rings:List (List Int)):Prop:=rings.length<1073741824∧∀ l∈rings,l.length<9223372036854775808∧∀ x∈l, -9223372036854775808≤x∧x≤9223372036854775807
theorem FR.dom{n:Int}{rings:List (List Int)}(h:FR n rings):Dom rings:=by
 have h1:=AOo.2 h
 have h2:=AmN h.sz.1 h1.2.1 (by omega) (by have:=h.sz.1;omega)
 have h3:=h.sz.2
 refine⟨by omega,fun l hl => ?_⟩
 have:=(h.rg l hl).1
 exact⟨by have:=this.1;omega,fun x hx=>by have:=this.2.1 x hx;omega⟩
theorem AM6{l:List Int}(h:l≠[]):hd l∈l:=by
 cases l with
 |nil=>exact absurd rfl h
 |cons x l=>simp[hd]
end Go.Pev.Pl
end
section
namespace Go.Pev.Pl
open Tok
noncomputable def Aon(n:Int)(rings:List (List Int))(ok:Bool):Int:=if RF n rings then if ok then 0 else 10 else 1
theorem AZP(n:Int)(rings:List (List Int))(xs:List Int)(hs:xs.length<9223372036854775808):C6 (xs,n,rings,())=some (n,rings,xs.any (fun x=>decide (x<0)||decide (n≤x)),()):=by
 rw[Hv,DH,Ic,Dp]
 have e:=Hr (step:=Bf) (fun i=>(n,rings,xs,AM xs,(i:Int),())) xs (fun x=>decide (x<0)||decide (n≤x)) (fun i=>.inl (n,rings,(i:Int),())) (.inr (.inl (n,rings,()))) hs
  (fun i x hi hx=>by
   rw[Bf,AR,AL,ApM hi]
   simp only[AU hx,Af,An]
   rw[AP (by omega)]
   by_cases h:x<0
   ·simp[h]
   ·by_cases h2:n≤x
    ·simp[h,h2]
    ·simp[h,h2])
  (by rw[Bf,AR,AL,ApL (by omega)])
 have e':AX Bf many (n,rings,xs,AM xs,(0:Int),())=_:=e
 rw[e']
 generalize (xs.any fun x=>decide (x<0)||decide (n≤x))=b
 cases b<;>simp[An]
theorem Aos{n v:Int}(hS:Sz n):(decide (v<0)||decide (n≤v)) = !decide (In n v):=by
 by_cases h:In n v
 ·obtain⟨_,_,h3,h4⟩:=h
  simp[In,hS.1,hS.2,h3,h4]
 ·have:v<0∨n≤v:=by
   refine Aql fun hc=>h ⟨hS.1,hS.2,by omega,by omega⟩
  rcases this with g|g<;>simp[h,g]
theorem AYY(n:Int)(rings:List (List Int))(xs:List Int)(hD:Dom rings)(hs:xs.length<9223372036854775808):VV ((n,(rings,())),xs,())=some (Aon n rings (xs.all fun v=>decide (In n v)),()):=by
 rw[AI5,Rg]
 simp only[AAN n rings hD.1 hD.2,AZP n rings xs hs,Aon]
 by_cases h:RF n rings
 ·have hb:(xs.any fun x=>decide (x<0)||decide (n≤x)) = !(xs.all fun v=>decide (In n v)):=by
   rw[List.not_all_eq_any_not]
   congr 1
   funext x
   exact Aos h.1
  simp only[h,Apn,ApX,hb,Ap6]
  cases xs.all fun v=>decide (In n v)<;>rfl
 ·simp[h]
end Go.Pev.Pl
end
section
namespace Go.Pev.Pl.SG
open Go.Sort
structure SP(α:Type)where
 z:α
 c:α×α×Unit→Option (Int×Unit)
 ok:α→Prop
 okz:α
 UL:ok okz
 lt:α→α→Bool
 swo:SWO lt
 WY:∀ {x y:α},ok x→ok y→∃ r,c (x,y,())=some (r,())∧ilt r (0:Int)=lt x y
variable {α:Type} {S:SP α}
abbrev EL{α:Type}(S:SP α):={x:α // S.ok x}
instance:Inhabited (EL S):=⟨⟨S.okz,S.UL⟩⟩
def rep(d:Array (EL S)):List α:=d.toList.map Subtype.val
theorem A4{d:Array (EL S)}{n:Nat}(h:n<d.size):idx (rep d) (n:Int)=some (d[n]!).val:=by
 rw[idx_eq,OR,ApV (by omega)]
 simp[rep,h]
theorem BZ{d:Array (EL S)}{n:Nat}{z:α}(h:n<d.size):AY (rep d) (AN (n:Int)) z=(d[n]!).val:=by
 simp[AY,AN,rep,h]
theorem Il{d:Array (EL S)}{n:Nat}{x:(EL S)}:Az (rep d) (AN (n:Int)) x.val=rep (d.setIfInBounds n x):=by
 simp[Az,AN,rep,List.map_set]
theorem Abb{d:Array (EL S)}:AM (rep d)=(d.size:Int):=by simp[AM,rep]
def ltX(x y:(EL S)):Bool:=S.lt x.val y.val
theorem Ag5:SWO (ltX (S:=S)):=⟨fun x=>S.swo.irrefl x.val,fun x y z=>S.swo.trans x.val y.val z.val,fun x y z=>S.swo.ntrans x.val y.val z.val⟩
noncomputable def AnJ(x y:(EL S)):Int:=match S.c (x.val,y.val,())with
 |some (c,_)=>c
 |none=>0
theorem CW(x y:(EL S)):S.c (x.val,y.val,())=some (AnJ x y,()):=by
 obtain⟨c,e,_⟩:=S.WY x.property y.property
 rw[AnJ,e]
theorem DF(x y:(EL S)):ilt (AnJ x y) (0:Int)=ltX x y:=by
 obtain⟨c,e,h⟩:=S.WY x.property y.property
 rw[AnJ,e]
 exact h
theorem Ame(a b i:Nat):∀ (j:Nat) (d:Array (EL S)) (n:Nat),j<d.size→d.size<4611686018427387904→j<n →
  Aj (Nz S.z S.c) n ((rep d),(a:Int),(b:Int),(i:Int),(j:Int),())=some (.inl ((rep (insInner ltX a j d)),(a:Int),(b:Int),(i:Int),())):=by
 intro j
 induction j with
 |zero=>
  intro d n hj hs hn
  obtain⟨n,rfl⟩:∃ k,n=k+1:=⟨n-1,by omega⟩
  have h0:ilt (a:Int) ((0:Nat):Int)=false:=by rw[AL];simp
  simp only[Aj,Nz,h0,insInner]
 |succ j ih=>
  intro d n hj hs hn
  obtain⟨n,rfl⟩:∃ k,n=k+1:=⟨n-1,by omega⟩
  have e1:IntKind.wrap .i64 (((j+1:Nat):Int)-1)=(j:Int):=by rw[Ah (by omega)];omega
  have hj':j<d.size:=by omega
  simp only[Aj,Nz,AL,e1,A4 hj,A4 hj',BZ hj,BZ hj',CW,DF,insInner,gt_iff_lt]
  by_cases h1:a<j+1
  ·cases h2:ltX d[j+1]! d[j]!
   ·simp only[h1,Apn,h2,Bool.and_false,Apc,Apf]
   ·simp only[h1,Apn,h2,Bool.and_true,Ap6,Il]
    rw[A4 (by simpa using hj')]
    simp only[JW]
    exact ih (swp d (j+1) j) n (by rw[size_swp];omega) (by rw[size_swp];omega) (by omega)
  ·simp only[h1,Ap8,Bool.false_and,Apc,Apf]
theorem GM(lt:(EL S)→(EL S)→Bool)(a j:Nat)(d:Array (EL S)):(insInner lt a j d).size=d.size:=by
 induction j generalizing d with
 |zero=>rfl
 |succ j ih=>
  rw[insInner]
  split
  ·rw[ih,size_swp]
  ·rfl
theorem AjQ(a b:Nat):∀ (k i:Nat) (d:Array (EL S)) (n:Nat),b-i=k→b≤d.size→d.size<4611686018427387904→d.size<many→k<n →
  Aj (N0 S.z S.c) n ((rep d),(a:Int),(b:Int),(i:Int),())=some (.inl ((rep (insOuter ltX a b i d)),())):=by
 intro k
 induction k with
 |zero=>
  intro i d n hk hb hs hm hn
  obtain⟨n,rfl⟩:∃ k,n=k+1:=⟨n-1,by omega⟩
  have h0:¬ i<b:=by omega
  rw[insOuter]
  simp only[Aj,N0,AL,h0,Ap8,Apf]
 |succ k ih=>
  intro i d n hk hb hs hm hn
  obtain⟨n,rfl⟩:∃ k,n=k+1:=⟨n-1,by omega⟩
  have h0:i<b:=by omega
  have e1:IntKind.wrap .i64 ((i:Int)+1)=((i+1:Nat):Int):=by rw[Ah (by omega)];omega
  rw[insOuter]
  simp only[Aj,N0,AL,h0,Apn,Ap6,A3]
  rw[Ame a b i i d many (by omega) hs (by omega)]
  simp only[e1]
  exact ih (i+1) _ n (by omega) (by rw[GM];omega) (by rw[GM];omega) (by rw[GM];omega) (by omega)
theorem AjP(d:Array (EL S))(a b:Nat)(hab:a≤b)(hb:b≤d.size)(hs:d.size<4294967296):(AjR S.z S.c) ((rep d),(a:Int),(b:Int),())=some ((rep (insertionSort ltX d a b)),()):=by
 have hm:d.size<many:=by simp only[many];omega
 have e1:IntKind.wrap .i64 ((a:Int)+1)=((a+1:Nat):Int):=by rw[Ah (by omega)];omega
 rw[Amf,ADW]
 simp only[e1,A3]
 rw[AjQ a b (b-(a+1)) (a+1) d many rfl hb (by omega) hm (by omega)]
 rfl
end Go.Pev.Pl.SG
end
end
section
section
namespace Go.Pev.Pl.SG
open Go.Sort
variable {α:Type} {S:SP α}
theorem AVq(hi first:Nat):∀ (k root:Nat) (d:Array (EL S)) (n:Nat),hi-root=k→root≤hi→first+hi≤d.size→d.size<4294967296→(hi=0∨root<hi)→k<n →
  Aj (Ja S.z S.c) n ((rep d),(hi:Int),(first:Int),(root:Int),())=some (.inl ((rep (siftDown ltX hi first root d)),())) ∨
  Aj (Ja S.z S.c) n ((rep d),(hi:Int),(first:Int),(root:Int),())=some (.inr (.inl ((rep (siftDown ltX hi first root d)),()))):=by
 intro k
 induction k using Nat.strongRecOn with
 |_ k ih=>
 intro root d n hk hr hf hs hz hn
 obtain⟨n,rfl⟩:∃ k,n=k+1:=⟨n-1,by omega⟩
 rw[siftDown]
 simp (disch:=omega) only[Aj,Ja,Ab1,AP,wrap_add,DG,AL]
 by_cases h1:hi≤2*root+1
 ·simp only[h1,Apn,ge_iff_le,dite_true,true_or]
 ·have i0:first+root<d.size:=by omega
  have i1:first+(2*root+1)<d.size:=by omega
  simp only[h1,Ap8,ge_iff_le,Apf,dite_false]
  simp (disch:=omega) only[A4,BZ,CW,DF]
  by_cases h2:2*root+1+1<hi
  ·have i2:first+(2*root+2)<d.size:=by omega
   have i3:2*root+1+1=2*root+2:=by omega
   have i4:first+(2*root+1)+1=first+(2*root+2):=by omega
   have h3:2*root+2<hi:=by omega
   simp only[i3,i4,h3,Apn]
   simp (disch:=omega) only[A4,BZ,CW,DF,Il]
   cases h4:ltX d[first+(2*root+1)]! d[first+(2*root+2)]!
   ·simp only[Bool.and_false,Apc,Apf]
    cases h5:ltX d[first+root]! d[first+(2*root+1)]!
    ·simp
    ·simp only[ApX,Apc,Apf]
     rw[A4 (by simpa using i1)]
     simp only[JW]
     exact ih (hi-(2*root+1)) (by omega) (2*root+1) _ n rfl (by omega) (by rw[size_swp];omega) (by rw[size_swp];omega) (by omega) (by omega)
   ·simp only[Bool.and_true,Ap6]
    cases h5:ltX d[first+root]! d[first+(2*root+2)]!
    ·simp
    ·simp only[ApX,Apc,Apf,dite_true]
     rw[A4 (by simpa using i2)]
     simp only[JW]
     exact ih (hi-(2*root+2)) (by omega) (2*root+2) _ n rfl (by omega) (by rw[size_swp];omega) (by rw[size_swp];omega) (by omega) (by omega)
  ·simp only[h2,Ap8,Bool.false_and,Apc,Apf,Il]
   cases h5:ltX d[first+root]! d[first+(2*root+1)]!
   ·simp
   ·simp only[ApX,Apc,Apf]
    rw[A4 (by simpa using i1)]
    simp only[JW]
    exact ih (hi-(2*root+1)) (by omega) (2*root+1) _ n rfl (by omega) (by rw[size_swp];omega) (by rw[size_swp];omega) (by omega) (by omega)
theorem AH7(d:Array (EL S))(root hi first:Nat)(hf:first+hi≤d.size)(hs:d.size<4294967296)(hz:hi=0∧root=0∨root<hi):(AH8 S.z S.c) ((rep d),(root:Int),(hi:Int),(first:Int),())=some ((rep (siftDown ltX hi first root d)),()):=by
 have hm:d.size<many:=by simp only[many];omega
 rw[AhJ,Qu]
 simp only[A3]
 rcases AVq hi first (hi-root) root d many rfl (by omega) hf hs (by omega) (by omega)with h|h<;>rw[h]
theorem Cb(lt:(EL S)→(EL S)→Bool)(hi first:Nat):∀ (k root:Nat) (d:Array (EL S)),hi-root=k→(siftDown lt hi first root d).size=d.size:=by
 intro k
 induction k using Nat.strongRecOn with
 |_ k ih=>
 intro root d hk
 rw[siftDown]
 split
 ·rfl
 ·split
  ·split
   ·rfl
   ·split
    ·rw[ih (hi-(2*root+2)) (by omega) _ _ rfl,size_swp]
    ·rfl
  ·split
   ·rfl
   ·rw[ih (hi-(2*root+1)) (by omega) _ _ rfl,size_swp]
theorem ASn(hi first:Nat):∀ (k:Nat) (d:Array (EL S)) (n:Nat),(hi=0∧k≤1∨k≤hi)→first+hi≤d.size→d.size<4294967296→k<n →
  Aj (Ju S.z S.c) n ((rep d),(first:Int),(0:Int),(hi:Int),(k:Int)-1,())=some (.inl ((rep (heapBuild ltX hi first k d)),(first:Int),(0:Int),(hi:Int),())):=by
 intro k
 induction k with
 |zero=>
  intro d n hk hf hs hn
  obtain⟨n,rfl⟩:∃ k,n=k+1:=⟨n-1,by omega⟩
  rw[Aj,Ju,An,ApL (by omega)]
  rfl
 |succ k ih=>
  intro d n hk hf hs hn
  obtain⟨n,rfl⟩:∃ k,n=k+1:=⟨n-1,by omega⟩
  have e0:((k+1:Nat):Int)-1=(k:Int):=by omega
  rw[Aj,Ju,e0,An,ApM (by omega)]
  simp only[AH7 d k hi first hf hs (by omega)]
  rw[Ah (by omega)]
  exact ih _ n (by omega) (by rw[Cb _ _ _ _ _ _ rfl];omega) (by rw[Cb _ _ _ _ _ _ rfl];omega) (by omega)
theorem HW(lt:(EL S)→(EL S)→Bool)(hi first:Nat):∀ (k:Nat) (d:Array (EL S)),(heapBuild lt hi first k d).size=d.size:=by
 intro k
 induction k with
 |zero=>intro d;rfl
 |succ k ih=>intro d;rw[heapBuild,ih,Cb _ _ _ _ _ _ rfl]
theorem Aee(first:Nat):∀ (k:Nat) (d:Array (EL S)) (n:Nat),first+k≤d.size→d.size<4294967296→k<n →
  Aj (Jt S.z S.c) n ((rep d),(first:Int),(0:Int),(k:Int)-1,())=some (.inl ((rep (heapPop ltX first k d)),())):=by
 intro k
 induction k with
 |zero=>
  intro d n hf hs hn
  obtain⟨n,rfl⟩:∃ k,n=k+1:=⟨n-1,by omega⟩
  rw[Aj,Jt,An,ApL (by omega)]
  rfl
 |succ k ih=>
  intro d n hf hs hn
  obtain⟨n,rfl⟩:∃ k,n=k+1:=⟨n-1,by omega⟩
  have e0:((k+1:Nat):Int)-1=(k:Int):=by omega
  have i0:first<d.size:=by omega
  have i1:first+k<d.size:=by omega
  rw[Aj,Jt,e0,An,ApM (by omega)]
  simp (disch:=omega) only[wrap_add,A4,BZ,Il]
  rw[A4 (by simpa using i1)]
  simp only[JW]
  have:=AH7 (swp d first (first+k)) 0 k first (by rw[size_swp];omega) (by rw[size_swp];omega) (by omega)
  simp only[Int.natCast_zero]at this
  simp only[this]
  rw[Ah (by omega)]
  exact ih _ n (by rw[Cb _ _ _ _ _ _ rfl,size_swp];omega) (by rw[Cb _ _ _ _ _ _ rfl,size_swp];omega) (by omega)
theorem Aed(d:Array (EL S))(a b:Nat)(hab:a<b)(hb:b≤d.size)(hs:d.size<4294967296):(ASo S.z S.c) ((rep d),(a:Int),(b:Int),())=some ((rep (heapSort ltX d a b)),()):=by
 have hm:4294967296<many:=by simp only[many];omega
 rw[Ajf,Rc]
 simp (disch:=omega) only[DK,BA,Anp,A3]
 have e:(((b-a-1)/2:Nat):Int)=(((b-a-1)/2+1:Nat):Int)-1:=by omega
 rw[e,ASn (b-a) a _ d many (by omega) (by omega) hs (by omega)]
 have e2:(((b-a-1:Nat)):Int)=((b-a:Nat):Int)-1:=by omega
 simp (disch:=omega) only[BA,e2]
 rw[Aee a (b-a) _ many (by rw[HW];omega) (by rw[HW];omega) (by omega)]
 rfl
end Go.Pev.Pl.SG
end
section
namespace Go.Pev.Pl.SG
open Go.Sort
variable {α:Type} {S:SP α}
theorem AdD:∀ (k i j:Nat) (d:Array (EL S)) (n:Nat),j-i=k→(j<d.size)→d.size<4294967296→k<n →
  Aj (Q6 S.z S.c) n ((rep d),(i:Int),(j:Int),())=some (.inl ((rep (reverseLoop i j d)),())):=by
 intro k
 induction k using Nat.strongRecOn with
 |_ k ih=>
 intro i j d n hk hj hs hn
 obtain⟨n,rfl⟩:∃ k,n=k+1:=⟨n-1,by omega⟩
 rw[reverseLoop,Aj,Q6]
 simp only[AL]
 by_cases h:i<j
 ·have hi:i<d.size:=by omega
  simp only[h,Apn,Ap6,A4 hj,A4 hi,BZ hi,BZ hj,Il]
  rw[A4 (by simpa using hj)]
  simp (disch:=omega) only[JW,AP,BA]
  exact ih (j-1-(i+1)) (by omega) (i+1) (j-1) _ n rfl (by rw[size_swp];omega) (by rw[size_swp];omega) (by omega)
 ·simp only[h,Ap8,Apf]
theorem Ahj(d:Array (EL S))(a b:Nat)(hab:a<b)(hb:b≤d.size)(hs:d.size<4294967296):(Ahk S.z S.c) ((rep d),(a:Int),(b:Int),())=some ((rep (reverseRange d a b)),()):=by
 have hm:4294967296<many:=by simp only[many];omega
 rw[Alx,ABg]
 simp (disch:=omega) only[BA,A3]
 rw[AdD (b-1-a) a (b-1) d many rfl (by omega) hs (by omega)]
 rfl
theorem Dv{d:Array (EL S)}{i j:Nat}(hi:i<d.size)(hj:j<d.size):idx (Az (rep d) (AN (i:Int)) (AY (rep d) (AN (j:Int)) S.z)) (j:Int)=some ((d.setIfInBounds i d[j]!)[j]!).val ∧
  Az (Az (rep d) (AN (i:Int)) (AY (rep d) (AN (j:Int)) S.z)) (AN (j:Int)) (AY (rep d) (AN (i:Int)) S.z)=(rep (swp d i j)):=by
 rw[BZ hi,BZ hj,Il,Il]
 exact⟨A4 (by simpa using hj),rfl⟩
theorem ALP(step:List α×Int×Int×Int×Unit→Option ((List α×Int×Int×Int×Unit)⊕(List α×Int×Int×Int×Unit)⊕Unit))(p:(EL S)→Bool)(d:Array (EL S))(a j:Nat)(hs:d.size<4294967296)(hj:j<d.size)
  (h:∀ i:Nat,i≤d.size→step ((rep d),(a:Int),(i:Int),(j:Int),())=if i≤j∧p d[i]! then some (.inl ((rep d),(a:Int),((i+1:Nat):Int),(j:Int),()))else some (.inr (.inl ((rep d),(a:Int),(i:Int),(j:Int),())))) :
  ∀ (k i n:Nat),j+1-i=k→i≤d.size→k<n→Aj step n ((rep d),(a:Int),(i:Int),(j:Int),())=some (.inl ((rep d),(a:Int),((scanUp p d j i:Nat):Int),(j:Int),())):=by
 intro k
 induction k using Nat.strongRecOn with
 |_ k ih=>
 intro i n hk hi hn
 obtain⟨n,rfl⟩:∃ k,n=k+1:=⟨n-1,by omega⟩
 rw[scanUp,Aj,h i hi]
 by_cases h1:i≤j∧p d[i]! = true
 ·rw[ApZ h1,ApZ (by simpa using h1)]
  exact ih (j+1-(i+1)) (by omega) (i+1) n rfl (by omega) (by omega)
 ·rw[ApV h1,ApV (by simpa using h1)]
theorem Ti(step:List α×Int×Int×Int×Unit→Option ((List α×Int×Int×Int×Unit)⊕(List α×Int×Int×Int×Unit)⊕Unit))(p:(EL S)→Bool)(d:Array (EL S))(a i:Nat)(hi:1≤i)
  (h:∀ j:Nat,j<d.size→step ((rep d),(a:Int),(i:Int),(j:Int),())=if i≤j∧p d[j]! then some (.inl ((rep d),(a:Int),(i:Int),((j-1:Nat):Int),()))else some (.inr (.inl ((rep d),(a:Int),(i:Int),(j:Int),())))) :
  ∀ (j n:Nat),j<d.size→j<n→Aj step n ((rep d),(a:Int),(i:Int),(j:Int),())=some (.inl ((rep d),(a:Int),(i:Int),((scanDown p d i j:Nat):Int),())):=by
 intro j
 induction j with
 |zero=>
  intro n hj hn
  obtain⟨n,rfl⟩:∃ k,n=k+1:=⟨n-1,by omega⟩
  rw[Aj,h 0 hj,ApV (by omega)]
  rfl
 |succ j ih=>
  intro n hj hn
  obtain⟨n,rfl⟩:∃ k,n=k+1:=⟨n-1,by omega⟩
  rw[scanDown,Aj,h (j+1) hj]
  by_cases h1:i≤j+1∧p d[j+1]! = true
  ·rw[ApZ h1,ApZ (by simpa using h1)]
   exact ih n (by omega) (by omega)
  ·rw[ApV h1,ApV (by simpa using h1)]
section
variable (d:Array (EL S)) (a i j:Nat) (hs:d.size<4294967296) (ha:a<d.size) (hj:j<d.size)
include hs ha hj
theorem ARt(hi:i≤d.size):(Me S.z S.c) ((rep d),(a:Int),(i:Int),(j:Int),())=if i≤j∧(fun x=>ltX x d[a]!) d[i]! = true then some (.inl ((rep d),(a:Int),((i+1:Nat):Int),(j:Int),()))else some (.inr (.inl ((rep d),(a:Int),(i:Int),(j:Int),()))):=by
 rw[Me]
 simp only[DG]
 by_cases h:i≤j
 ·have hi':i<d.size:=by omega
  simp (disch:=omega) only[h,Apn,A4,BZ,CW,DF,AP,Ar8]
  cases ltX d[i]! d[a]!<;>simp
 ·simp only[h,Ap8,AsI,Apf]
theorem ARr(hi:i≤d.size):(Mb S.z S.c) ((rep d),(a:Int),(i:Int),(j:Int),())=if i≤j∧(fun x=>ltX x d[a]!) d[i]! = true then some (.inl ((rep d),(a:Int),((i+1:Nat):Int),(j:Int),()))else some (.inr (.inl ((rep d),(a:Int),(i:Int),(j:Int),()))):=by
 rw[Mb]
 simp only[DG]
 by_cases h:i≤j
 ·have hi':i<d.size:=by omega
  simp (disch:=omega) only[h,Apn,A4,BZ,CW,DF,AP,Ar8]
  cases ltX d[i]! d[a]!<;>simp
 ·simp only[h,Ap8,AsI,Apf]
theorem ARs(hi:1≤i):(Md S.z S.c) ((rep d),(a:Int),(i:Int),(j:Int),())=if i≤j∧(fun x => !ltX x d[a]!) d[j]! = true then some (.inl ((rep d),(a:Int),(i:Int),((j-1:Nat):Int),()))else some (.inr (.inl ((rep d),(a:Int),(i:Int),(j:Int),()))):=by
 rw[Md]
 simp only[DG]
 by_cases h:i≤j
 ·simp (disch:=omega) only[h,Apn,A4,BZ,CW,DF,BA,Ar8]
  cases ltX d[j]! d[a]!<;>simp
 ·simp only[h,Ap8,AsI,Apf]
theorem ARq(hi:1≤i):(Ma S.z S.c) ((rep d),(a:Int),(i:Int),(j:Int),())=if i≤j∧(fun x => !ltX x d[a]!) d[j]! = true then some (.inl ((rep d),(a:Int),(i:Int),((j-1:Nat):Int),()))else some (.inr (.inl ((rep d),(a:Int),(i:Int),(j:Int),()))):=by
 rw[Ma]
 simp only[DG]
 by_cases h:i≤j
 ·simp (disch:=omega) only[h,Apn,A4,BZ,CW,DF,BA,Ar8]
  cases ltX d[j]! d[a]!<;>simp
 ·simp only[h,Ap8,AsI,Apf]
theorem AGw(hi:i≤d.size):(He S.z S.c) ((rep d),(a:Int),(i:Int),(j:Int),())=if i≤j∧(fun x => !ltX d[a]! x) d[i]! = true then some (.inl ((rep d),(a:Int),((i+1:Nat):Int),(j:Int),()))else some (.inr (.inl ((rep d),(a:Int),(i:Int),(j:Int),()))):=by
 rw[He]
 simp only[DG]
 by_cases h:i≤j
 ·have hi':i<d.size:=by omega
  simp (disch:=omega) only[h,Apn,A4,BZ,CW,DF,AP,Ar8]
  cases ltX d[a]! d[i]!<;>simp
 ·simp only[h,Ap8,AsI,Apf]
theorem AGv(hi:1≤i):(Hd S.z S.c) ((rep d),(a:Int),(i:Int),(j:Int),())=if i≤j∧(fun x=>ltX d[a]! x) d[j]! = true then some (.inl ((rep d),(a:Int),(i:Int),((j-1:Nat):Int),()))else some (.inr (.inl ((rep d),(a:Int),(i:Int),(j:Int),()))):=by
 rw[Hd]
 simp only[DG]
 by_cases h:i≤j
 ·simp (disch:=omega) only[h,Apn,A4,BZ,CW,DF,BA,Ar8]
  cases ltX d[a]! d[j]!<;>simp
 ·simp only[h,Ap8,AsI,Apf]
end
theorem IP(p:(EL S)→Bool)(d:Array (EL S))(j i:Nat)(hj:j<d.size)(hi:i≤d.size):scanUp p d j i≤d.size:=by
 suffices h:∀ (k i:Nat),j+1-i=k→i≤d.size→scanUp p d j i≤d.size from h _ i rfl hi
 intro k
 induction k using Nat.strongRecOn with
 |_ k ih=>
 intro i hk hi
 rw[scanUp]
 split
 ·rename_i h
  have:i≤j:=by simp at h;exact h.1
  exact ih (j+1-(i+1)) (by omega) (i+1) rfl (by omega)
 ·exact hi
theorem AW2(a:Nat):∀ (k i j:Nat) (d:Array (EL S)) (n:Nat),j+1-i=k→a<d.size→1≤i→i≤d.size→j<d.size→d.size<4294967296→k<n →
  Aj (Mc S.z S.c) n ((rep d),(a:Int),(i:Int),(j:Int),())=some (.inl ((rep (partLoop ltX a i j d).2),(a:Int),(((partLoop ltX a i j d).1:Nat):Int),()))∧(partLoop ltX a i j d).1≤j∧(partLoop ltX a i j d).2.size=d.size:=by
 intro k
 induction k using Nat.strongRecOn with
 |_ k ih=>
 intro i j d n hk ha hi hi' hj hs hn
 have hm:4294967296<many:=by simp only[many];omega
 obtain⟨n,rfl⟩:∃ k,n=k+1:=⟨n-1,by omega⟩
 rw[partLoop_eq,Aj,Mc]
 have u1:=scanUp_ge (fun x=>ltX x d[a]!) d j i
 have u2:=IP (fun x=>ltX x d[a]!) d j i hj hi'
 rw[A3,ALP _ (fun x=>ltX x d[a]!) d a j hs hj (fun i h=>ARr d a i j hs ha hj h) _ i many rfl hi' (by omega)]
 generalize scanUp (fun x=>ltX x d[a]!) d j i=i2 at *
 have v1:=scanDown_le (fun x => !ltX x d[a]!) d i2 j
 simp only[A3]
 rw[Ti _ (fun x => !ltX x d[a]!) d a i2 (by omega) (fun j h=>ARq d a i2 j hs ha h (by omega)) j many hj (by omega)]
 generalize scanDown (fun x => !ltX x d[a]!) d i2 j=j2 at *
 simp only[AL]
 by_cases h:j2<i2
 ·simp only[h,Apn,gt_iff_lt,Ap6]
  exact⟨trivial,v1,trivial⟩
 ·have hi2:i2<d.size:=by omega
  have hj2:j2<d.size:=by omega
  simp only[h,Ap8,gt_iff_lt,Apf,A4 hi2,A4 hj2,(Dv hi2 hj2).1,(Dv hi2 hj2).2]
  simp (disch:=omega) only[AP,BA]
  obtain⟨q1,q2,q3⟩:=ih (j2-1+1-(i2+1)) (by omega) (i2+1) (j2-1) (swp d i2 j2) n rfl (by rw[size_swp];omega) (by omega) (by rw[size_swp];omega) (by rw[size_swp];omega) (by rw[size_swp];omega) (by omega)
  exact⟨q1,by omega,by rw[q3,size_swp]⟩
theorem Ade(d:Array (EL S))(a b p:Nat)(ha:a≤p)(hp:p<b)(hb:b≤d.size)(hs:d.size<4294967296):
  (ACb S.z S.c) ((rep d),(a:Int),(b:Int),(p:Int),())=some ((rep (partition ltX d a b p).2.2),(((partition ltX d a b p).1:Nat):Int),(partition ltX d a b p).2.1,()):=by
 have hm:4294967296<many:=by simp only[many];omega
 have ha':a<d.size:=by omega
 have hp':p<d.size:=by omega
 rw[Aia,RH,partition]
 simp only[A4 ha',A4 hp',(Dv ha' hp').1,(Dv ha' hp').2]
 have hs':=hs
 rw[← size_swp d a p]at ha' hs' hb
 generalize swp d a p=d at *
 simp (disch:=omega) only[AP,BA,A3]
 have u1:=scanUp_ge (fun x=>ltX x d[a]!) d (b-1) (a+1)
 have u2:=IP (fun x=>ltX x d[a]!) d (b-1) (a+1) (by omega) (by omega)
 rw[ALP _ (fun x=>ltX x d[a]!) d a (b-1) hs' (by omega) (fun i h=>ARt d a i (b-1) hs' ha' (by omega) h) _ (a+1) many rfl (by omega) (by omega)]
 generalize scanUp (fun x=>ltX x d[a]!) d (b-1) (a+1)=i2 at *
 have v1:=scanDown_le (fun x => !ltX x d[a]!) d i2 (b-1)
 simp only[]
 rw[Ti _ (fun x => !ltX x d[a]!) d a i2 (by omega) (fun j h=>ARs d a i2 j hs' ha' h (by omega)) (b-1) many (by omega) (by omega)]
 generalize scanDown (fun x => !ltX x d[a]!) d i2 (b-1)=j2 at *
 simp only[AL]
 have hj2:j2<d.size:=by omega
 by_cases h:j2<i2
 ·simp only[h,Apn,gt_iff_lt,Ap6,A4 ha',A4 hj2,(Dv hj2 ha').1,(Dv hj2 ha').2]
 ·have hi2:i2<d.size:=by omega
  simp only[h,Ap8,gt_iff_lt,Apf,A4 hi2,A4 hj2,(Dv hi2 hj2).1,(Dv hi2 hj2).2]
  simp (disch:=omega) only[AP,BA]
  obtain⟨q1,q2,q3⟩:=AW2 a (j2-1+1-(i2+1)) (i2+1) (j2-1) (swp d i2 j2) many rfl (by rw[size_swp];omega) (by omega) (by rw[size_swp];omega) (by rw[size_swp];omega) (by rw[size_swp];omega) (by omega)
  simp only[q1]
  rw[size_swp]at q3
  generalize partLoop ltX a (i2+1) (j2-1) (swp d i2 j2)=r at *
  have h1:r.1<r.2.size:=by omega
  have h2:a<r.2.size:=by omega
  simp only[A4 h1,A4 h2,(Dv h1 h2).1,(Dv h1 h2).2]
theorem AMA(a:Nat):∀ (k i j:Nat) (d:Array (EL S)) (n:Nat),j+1-i=k→a<d.size→1≤i→i≤d.size→j<d.size→d.size<4294967296→k<n →
  Aj (Hf S.z S.c) n ((rep d),(a:Int),(i:Int),(j:Int),())=some (.inl ((rep (partEqLoop ltX a i j d).2),(((partEqLoop ltX a i j d).1:Nat):Int),())):=by
 intro k
 induction k using Nat.strongRecOn with
 |_ k ih=>
 intro i j d n hk ha hi hi' hj hs hn
 have hm:4294967296<many:=by simp only[many];omega
 obtain⟨n,rfl⟩:∃ k,n=k+1:=⟨n-1,by omega⟩
 rw[partEqLoop_eq,Aj,Hf]
 have u1:=scanUp_ge (fun x => !ltX d[a]! x) d j i
 have u2:=IP (fun x => !ltX d[a]! x) d j i hj hi'
 rw[A3,ALP _ (fun x => !ltX d[a]! x) d a j hs hj (fun i h=>AGw d a i j hs ha hj h) _ i many rfl hi' (by omega)]
 generalize scanUp (fun x => !ltX d[a]! x) d j i=i2 at *
 have v1:=scanDown_le (fun x=>ltX d[a]! x) d i2 j
 simp only[A3]
 rw[Ti _ (fun x=>ltX d[a]! x) d a i2 (by omega) (fun j h=>AGv d a i2 j hs ha h (by omega)) j many hj (by omega)]
 generalize scanDown (fun x=>ltX d[a]! x) d i2 j=j2 at *
 simp only[AL]
 by_cases h:j2<i2
 ·simp only[h,Apn,gt_iff_lt,Ap6]
 ·have hi2:i2<d.size:=by omega
  have hj2:j2<d.size:=by omega
  simp only[h,Ap8,gt_iff_lt,Apf,A4 hi2,A4 hj2,(Dv hi2 hj2).1,(Dv hi2 hj2).2]
  simp (disch:=omega) only[AP,BA]
  exact ih (j2-1+1-(i2+1)) (by omega) (i2+1) (j2-1) (swp d i2 j2) n rfl (by rw[size_swp];omega) (by omega) (by rw[size_swp];omega) (by rw[size_swp];omega) (by rw[size_swp];omega) (by omega)
theorem ARv(d:Array (EL S))(a b p:Nat)(ha:a≤p)(hp:p<b)(hb:b≤d.size)(hs:d.size<4294967296):
  (RI S.z S.c) ((rep d),(a:Int),(b:Int),(p:Int),())=some ((rep (partitionEqual ltX d a b p).2),(((partitionEqual ltX d a b p).1:Nat):Int),()):=by
 have hm:4294967296<many:=by simp only[many];omega
 have ha':a<d.size:=by omega
 have hp':p<d.size:=by omega
 rw[AXA,Jh,partitionEqual]
 simp only[A4 ha',A4 hp',(Dv ha' hp').1,(Dv ha' hp').2]
 have hs':=hs
 rw[← size_swp d a p]at ha' hs' hb
 generalize swp d a p=d at *
 simp (disch:=omega) only[AP,BA,A3]
 rw[AMA a _ (a+1) (b-1) d many rfl ha' (by omega) (by omega) (by omega) hs' (by omega)]
end Go.Pev.Pl.SG
end
section
namespace Go.Pev.Pl.SG
open Go.Sort
variable {α:Type} {S:SP α}
theorem IQ(d:Array (EL S))(b:Nat):∀ (k i:Nat),b-i=k→i≤b→i≤scanSorted ltX d b i∧scanSorted ltX d b i≤b:=by
 intro k
 induction k using Nat.strongRecOn with
 |_ k ih=>
 intro i hk hi
 rw[scanSorted]
 split
 ·rename_i h
  have:i<b:=by simp at h;exact h.1
  have:=ih (b-(i+1)) (by omega) (i+1) rfl (by omega)
  omega
 ·omega
theorem AGo(d:Array (EL S))(a b s:Nat)(hb:b≤d.size)(hs:d.size<4294967296):∀ (k i n:Nat),b-i=k→1≤i→i≤b→k<n →
  Aj (Gb S.z S.c) n ((rep d),(a:Int),(b:Int),(i:Int),(s:Int),())=some (.inl ((rep d),(a:Int),(b:Int),((scanSorted ltX d b i:Nat):Int),(s:Int),())):=by
 intro k
 induction k using Nat.strongRecOn with
 |_ k ih=>
 intro i n hk h1 hi hn
 obtain⟨n,rfl⟩:∃ k,n=k+1:=⟨n-1,by omega⟩
 rw[scanSorted,Aj,Gb]
 simp only[AL]
 by_cases h:i<b
 ·have i0:i<d.size:=by omega
  have i1:i-1<d.size:=by omega
  simp (disch:=omega) only[h,Apn,BA,AP,A4,BZ,CW,DF,Bool.true_and]
  cases h2:ltX d[i]! d[i-1]!
  ·simp only[Ap5,Ap6]
   exact ih (b-(i+1)) (by omega) (i+1) n rfl (by omega) (by omega) (by omega)
  ·simp only[ApX,Apc,Apf]
 ·simp only[h,Ap8,Bool.false_and,Apc,Apf]
theorem AGq(a b i s:Nat):∀ (j:Nat) (d:Array (EL S)) (n:Nat),j<d.size→d.size<4294967296→j<n →
  Aj (Ef S.z S.c) n ((rep d),(a:Int),(b:Int),(i:Int),(s:Int),(j:Int),())=some (.inl ((rep (shiftDown ltX j d)),(a:Int),(b:Int),(i:Int),(s:Int),())):=by
 intro j
 induction j with
 |zero=>
  intro d n hj hs hn
  obtain⟨n,rfl⟩:∃ k,n=k+1:=⟨n-1,by omega⟩
  rw[Aj,Ef,An,ApL (by omega)]
  rfl
 |succ j ih=>
  intro d n hj hs hn
  obtain⟨n,rfl⟩:∃ k,n=k+1:=⟨n-1,by omega⟩
  have hj':j<d.size:=by omega
  rw[shiftDown,Aj,Ef,An,ApM (by omega)]
  simp (disch:=omega) only[BA,Nat.add_sub_cancel,A4,BZ,CW,DF]
  cases h2:ltX d[j+1]! d[j]!
  ·simp only[Ap5,Ap6]
  ·have e1:=Dv hj hj'
   simp only[BZ hj,BZ hj']at e1
   simp only[ApX,Apc,Apf,e1]
   exact ih _ n (by rw[size_swp];omega) (by rw[size_swp];omega) (by omega)
theorem Xk(a b i s:Nat):∀ (k j:Nat) (d:Array (EL S)) (n:Nat),b-j=k→1≤j→b≤d.size→d.size<4294967296→k<n →
  Aj (Ee S.z S.c) n ((rep d),(a:Int),(b:Int),(i:Int),(s:Int),(j:Int),())=some (.inl ((rep (shiftUp ltX b j d)),(a:Int),(b:Int),(i:Int),(s:Int),())):=by
 intro k
 induction k using Nat.strongRecOn with
 |_ k ih=>
 intro j d n hk h1 hb hs hn
 obtain⟨n,rfl⟩:∃ k,n=k+1:=⟨n-1,by omega⟩
 rw[shiftUp,Aj,Ee]
 simp only[AL]
 by_cases h:j<b
 ·have i0:j<d.size:=by omega
  have i1:j-1<d.size:=by omega
  simp (disch:=omega) only[h,Apn,Ap6,BA,AP,A4,BZ,CW,DF]
  cases h2:ltX d[j]! d[j-1]!
  ·simp only[Ap5,Ap6]
  ·have e1:=Dv i0 i1
   simp only[BZ i0,BZ i1]at e1
   simp only[ApX,Apc,Apf,e1]
   exact ih (b-(j+1)) (by omega) (j+1) _ n rfl (by omega) (by rw[size_swp];omega) (by rw[size_swp];omega) (by omega)
 ·simp only[h,Ap8,Apf]
theorem MP:∀ (j:Nat) (d:Array (EL S)),(shiftDown ltX j d).size=d.size:=by
 intro j
 induction j with
 |zero=>intro d;rfl
 |succ j ih=>
  intro d
  rw[shiftDown]
  split
  ·rfl
  ·rw[ih,size_swp]
theorem Ev(b:Nat):∀ (k j:Nat) (d:Array (EL S)),b-j=k→(shiftUp ltX b j d).size=d.size:=by
 intro k
 induction k using Nat.strongRecOn with
 |_ k ih=>
 intro j d hk
 rw[shiftUp]
 split
 ·split
  ·rfl
  ·rw[ih (b-(j+1)) (by omega) (j+1) _ rfl,size_swp]
 ·rfl
theorem AGp(a b:Nat)(hab:a<b):∀ (k i s:Nat) (d:Array (EL S)) (n:Nat),s+k=5→a+1≤i→i≤b→b≤d.size→d.size<4294967296→k<n →
  Aj (CU S.z S.c) n ((rep d),(a:Int),(b:Int),(i:Int),(s:Int),())=some (.inl ((rep (partialIns ltX a b k i d).1),(partialIns ltX a b k i d).2,())) ∨
  ((partialIns ltX a b k i d).2=false∧Aj (CU S.z S.c) n ((rep d),(a:Int),(b:Int),(i:Int),(s:Int),())=some (.inr (.inl ((rep (partialIns ltX a b k i d).1),())))):=by
 intro k
 induction k with
 |zero=>
  intro i s d n hk h1 hi hb hs hn
  obtain⟨n,rfl⟩:∃ k,n=k+1:=⟨n-1,by omega⟩
  rw[Aj,CU,Af,ApL (by omega)]
  exact .inr ⟨rfl,rfl⟩
 |succ k ih=>
  intro i s d n hk h1 hi hb hs hn
  have hm:4294967296<many:=by simp only[many];omega
  have es:IntKind.wrap .i64 ((s:Int)+1)=((s+1:Nat):Int):=AP (by omega)
  obtain⟨n,rfl⟩:∃ k,n=k+1:=⟨n-1,by omega⟩
  rw[Aj,CU,Af,ApM (by omega),partialIns]
  simp only[A3,AGo d a b s hb hs (b-i) i many rfl (by omega) hi (by omega)]
  have hsc:=IQ d b _ i rfl hi
  generalize scanSorted ltX d b i=i2 at *
  simp only[AMu]
  by_cases h2:i2=b
  ·simp only[h2,Apn,Ap6,true_or]
  ·simp (disch:=omega) only[h2,Ap8,Apf,DK,Af,An]
   by_cases h3:b-a<50
   ·rw[ApZ h3,ApM (by omega)]
    exact .inl rfl
   ·have i0:i2<d.size:=by omega
    have i1:i2-1<d.size:=by omega
    rw[ApV h3,ApL (by omega)]
    simp (disch:=omega) only[BA,AP,A4 i0,A4 i1,(Dv i0 i1).1,(Dv i0 i1).2]
    have hsz:=size_swp d i2 (i2-1)
    generalize swp d i2 (i2-1)=d2 at *
    by_cases h4:i2-a≥2
    ·rw[ApZ h4,ApM (show(2:Int)≤((i2-a:Nat):Int) by omega)]
     simp only[AGq a b i2 s (i2-1) d2 many (by omega) (by omega) (by omega)]
     have hsz2:=MP (i2-1) d2
     generalize shiftDown ltX (i2-1) d2=d3 at *
     simp (disch:=omega) only[DK,AP]
     by_cases h5:b-i2≥2
     ·rw[ApZ h5,ApM (show(2:Int)≤((b-i2:Nat):Int) by omega)]
      simp only[Xk a b i2 s _ (i2+1) d3 many rfl (by omega) (by omega) (by omega) (by omega)]
      simp only[es]
      exact ih i2 (s+1) (shiftUp ltX b (i2+1) d3) n (by omega) (by omega) (by omega) (by rw[Ev b (b-(i2+1)) (i2+1) _ rfl];omega) (by rw[Ev b (b-(i2+1)) (i2+1) _ rfl];omega) (by omega)
     ·rw[ApV h5,ApL (show ¬ (2:Int)≤((b-i2:Nat):Int) by omega)]
      simp only[es]
      exact ih i2 (s+1) d3 n (by omega) (by omega) (by omega) (by omega) (by omega) (by omega)
    ·rw[ApV h4,ApL (show ¬ (2:Int)≤((i2-a:Nat):Int) by omega)]
     by_cases h5:b-i2≥2
     ·rw[ApZ h5,ApM (show(2:Int)≤((b-i2:Nat):Int) by omega)]
      simp only[Xk a b i2 s _ (i2+1) d2 many rfl (by omega) (by omega) (by omega) (by omega)]
      simp only[es]
      exact ih i2 (s+1) (shiftUp ltX b (i2+1) d2) n (by omega) (by omega) (by omega) (by rw[Ev b (b-(i2+1)) (i2+1) _ rfl];omega) (by rw[Ev b (b-(i2+1)) (i2+1) _ rfl];omega) (by omega)
     ·rw[ApV h5,ApL (show ¬ (2:Int)≤((b-i2:Nat):Int) by omega)]
      simp only[es]
      exact ih i2 (s+1) d2 n (by omega) (by omega) (by omega) (by omega) (by omega) (by omega)
theorem AL6(d:Array (EL S))(a b:Nat)(hab:a<b)(hb:b≤d.size)(hs:d.size<4294967296):
  (MZ S.z S.c) ((rep d),(a:Int),(b:Int),())=some ((rep (partialInsertionSort ltX d a b).1),(partialInsertionSort ltX d a b).2,()):=by
 have hm:4294967296<many:=by simp only[many];omega
 rw[ARg,Hc,partialInsertionSort]
 simp (disch:=omega) only[AP,A3]
 have h:=AGp a b hab 5 (a+1) 0 d many rfl (ApY _) (by omega) hb hs (by omega)
 rcases h with h|⟨h0,h⟩
 ·have h':Aj (CU S.z S.c) many ((rep d),(a:Int),(b:Int),((a+1:Nat):Int),(0:Int),())=_:=h
  rw[h']
 ·have h':Aj (CU S.z S.c) many ((rep d),(a:Int),(b:Int),((a+1:Nat):Int),(0:Int),())=_:=h
  rw[h',h0]
theorem Mf(d:Array (EL S))(a b:Nat)(s:Int)(ha:a<d.size)(hb:b<d.size):
  ∃ s' p q,(KY S.z S.c) ((rep d),(a:Int),(b:Int),s,())=some ((rep d),s',((p:Nat):Int),((q:Nat):Int),())∧(p=a∧q=b∨p=b∧q=a):=by
 rw[AXK,Ji]
 simp only[A4 ha,A4 hb,BZ ha,BZ hb,CW,DF]
 cases ltX d[b]! d[a]!
 ·exact⟨_,a,b,rfl,.inl ⟨rfl,rfl⟩⟩
 ·exact⟨_,b,a,rfl,.inr ⟨rfl,rfl⟩⟩
theorem Mi(d:Array (EL S))(a b c:Nat)(s:Int)(ha:a<d.size)(hb:b<d.size)(hc:c<d.size):
  ∃ s' p,(Kg S.z S.c) ((rep d),(a:Int),(b:Int),(c:Int),s,())=some ((rep d),s',((p:Nat):Int),())∧(p=a∨p=b∨p=c):=by
 rw[AXh,Jm]
 obtain⟨s1,p1,q1,e1,h1⟩:=Mf d a b s ha hb
 simp only[e1]
 obtain⟨s2,p2,q2,e2,h2⟩:=Mf d q1 c s1 (by omega) hc
 simp only[e2]
 obtain⟨s3,p3,q3,e3,h3⟩:=Mf d p1 p2 s2 (by omega) (by omega)
 simp only[e3]
 exact⟨_,q3,rfl,by omega⟩
theorem Mj(d:Array (EL S))(a:Nat)(s:Int)(h1:1≤a)(ha:a+1<d.size)(hs:d.size<4294967296):
  ∃ s' p,(Kh S.z S.c) ((rep d),(a:Int),s,())=some ((rep d),s',((p:Nat):Int),())∧a≤p+1∧p≤a+1:=by
 rw[AXk,Jn]
 simp (disch:=omega) only[BA,AP]
 obtain⟨s1,p1,e1,h1⟩:=Mi d (a-1) a (a+1) s (by omega) (by omega) ha
 simp only[e1]
 exact⟨_,p1,rfl,by omega⟩
theorem AWm(d:Array (EL S))(a b:Nat)(hab:a+8≤b)(hb:b≤d.size)(hs:d.size<4294967296):
  ∃ p h,(ACB S.z S.c) ((rep d),(a:Int),(b:Int),())=some ((rep d),((p:Nat):Int),h,())∧a≤p∧p<b:=by
 rw[AdS,MY]
 simp (disch:=omega) only[DK,Aah,Ab0,Nf,Abz,wrap_add,An]
 rw[ApM (show(8:Int)≤((b-a:Nat):Int) by omega)]
 simp only[]
 by_cases h:50≤b-a
 ·rw[ApM (show(50:Int)≤((b-a:Nat):Int) by omega)]
  simp only[]
  obtain⟨s1,p1,e1,h1⟩:=Mj d (a+(b-a)/4*1) 0 (by omega) (by omega) hs
  simp only[e1]
  obtain⟨s2,p2,e2,h2⟩:=Mj d (a+(b-a)/4*2) s1 (by omega) (by omega) hs
  simp only[e2]
  obtain⟨s3,p3,e3,h3⟩:=Mj d (a+(b-a)/4*3) s2 (by omega) (by omega) hs
  simp only[e3]
  obtain⟨s4,p4,e4,h4⟩:=Mi d p1 p2 p3 s3 (by omega) (by omega) (by omega)
  simp only[e4]
  cases ieq s4 0
  ·cases ieq s4 12
   ·exact⟨p4,_,rfl,by omega,by omega⟩
   ·exact⟨p4,_,rfl,by omega,by omega⟩
  ·exact⟨p4,_,rfl,by omega,by omega⟩
 ·rw[ApL (show ¬ (50:Int)≤((b-a:Nat):Int) by omega)]
  simp only[]
  obtain⟨s4,p4,e4,h4⟩:=Mi d (a+(b-a)/4*1) (a+(b-a)/4*2) (a+(b-a)/4*3) 0 (by omega) (by omega) (by omega)
  simp only[e4]
  cases ieq s4 0
  ·cases ieq s4 12
   ·exact⟨p4,_,rfl,by omega,by omega⟩
   ·exact⟨p4,_,rfl,by omega,by omega⟩
  ·exact⟨p4,_,rfl,by omega,by omega⟩
end Go.Pev.Pl.SG
end
section
namespace Go.Pev.Pl
open Go.Sort
theorem AeL:(List.range 256).all (fun k=>match Gv[k]? with
  |some v=>decide (0≤v)&&(decide (v≤8)&&decide (2 ^ v.toNat≤max 1 (2*k)))
  |none=>false)=true:=by decide +kernel
theorem AeM{k:Nat}(h:k<256):∃ v:Nat,idx Gv (k:Int)=some (v:Int)∧v≤8∧2 ^ v≤max 1 (2*k):=by
 have:=Apt.1 AeL k (Apz.2 h)
 rw[idx_eq,OR,ApV (by omega),AqM]
 cases e:Gv[k]? with
 |none=>rw[e]at this;cases this
 |some v=>
  rw[e]at this
  simp only[ApU,ApQ]at this
  exact⟨v.toNat,by rw[Int.toNat_of_nonneg this.1],by omega,this.2.2⟩
theorem ALM(n s:Nat)(h:s≤64):shr? .u64 (n:Int) (s:Int)=some ((n/2 ^ s:Nat):Int):=by
 rw[AA0,Yn,ApV (by omega),AqM,show min s (IntKind.bits .u64)=s from Aqn h,Int.fdiv_eq_ediv_of_nonneg _ (Int.pow_nonneg (by omega))]
 rfl
theorem u8_in{n:Int}(h:0≤n∧n≤255):IntKind.wrap .u8 n=n:=IntWalk.u8_in n h
theorem u64_in{n:Int}(h:0≤n∧n≤18446744073709551615):IntKind.wrap .u64 n=n:=IntWalk.u64_in n h
theorem AeN(n:Nat)(hn:n<4294967296):∃ v:Nat,ASZ ((n:Int),())=some ((v:Int),())∧v≤32∧2 ^ v≤max 1 (2*n):=by
 rw[ASY,Za,An,ApL (by omega)]
 simp only[An]
 have key:∀ (s m:Nat),s≤24→m<256→m*2 ^ s≤n→(s=0∨1≤m)→∃ v:Nat,idx Gv (m:Int)=some (v:Int)∧v≤8∧2 ^ (s+v)≤max 1 (2*n):=by
  intro s m hs hm hle h1
  obtain⟨v,e,h8,hp⟩:=AeM hm
  refine⟨v,e,h8,?_⟩
  rcases h1 with rfl|h1
  ·rw[Aqe];simp at hle;omega
  ·have h2:2 ^ v≤2*m:=by omega
   have h3:2 ^ (s+v)≤2*(m*2 ^ s):=by
    rw[Nat.pow_add,Nat.mul_comm (2 ^ s),← Nat.mul_assoc]
    exact AqC _ h2
   omega
 by_cases h1:65536≤n
 ·rw[ApM (show(65536:Int)≤(n:Int) by omega)]
  have e16:shr? .u64 (n:Int) 16=some ((n/65536:Nat):Int):=ALM n 16 (by omega)
  simp only[e16]
  by_cases h2:256≤n/65536
  ·rw[ApM (show(256:Int)≤((n/65536:Nat):Int) by omega)]
   have e8:shr? .u64 ((n/65536:Nat):Int) 8=some ((n/65536/256:Nat):Int):=ALM _ 8 (by omega)
   obtain⟨v,e,h8,hp⟩:=key 24 (n/65536/256) (by omega) (by omega) (by omega) (by omega)
   simp only[e8]
   rw[u8_in (by omega)]
   simp only[e]
   refine⟨24+v,?_,by omega,hp⟩
   rw[Ah (n:=0+16) (by omega),Ah (n:=(0:Int)+16+8) (by omega),Ah (n:=(v:Int)) (by omega),Ah (by omega)]
   congr 2
  ·rw[ApL (show ¬ (256:Int)≤((n/65536:Nat):Int) by omega)]
   obtain⟨v,e,h8,hp⟩:=key 16 (n/65536) (by omega) (by omega) (by omega) (by omega)
   simp only[]
   rw[u8_in (by omega)]
   simp only[e]
   refine⟨16+v,?_,by omega,hp⟩
   rw[Ah (n:=0+16) (by omega),Ah (n:=(v:Int)) (by omega),Ah (by omega)]
   congr 2
 ·rw[ApL (show ¬ (65536:Int)≤(n:Int) by omega)]
  by_cases h2:256≤n
  ·have e8:shr? .u64 (n:Int) 8=some ((n/256:Nat):Int):=ALM n 8 (by omega)
   obtain⟨v,e,h8,hp⟩:=key 8 (n/256) (by omega) (by omega) (by omega) (by omega)
   simp only[]
   rw[ApM (show(256:Int)≤(n:Int) by omega)]
   simp only[e8]
   rw[u8_in (by omega)]
   simp only[e]
   refine⟨8+v,?_,by omega,hp⟩
   rw[Ah (n:=0+8) (by omega),Ah (n:=(v:Int)) (by omega),Ah (by omega)]
   congr 2
  ·obtain⟨v,e,h8,hp⟩:=key 0 n (by omega) (by omega) (by omega) (by omega)
   simp only[]
   rw[ApL (show ¬ (256:Int)≤(n:Int) by omega)]
   simp only[]
   rw[u8_in (by omega)]
   simp only[e]
   refine⟨0+v,?_,by omega,hp⟩
   rw[Ah (n:=(v:Int)) (by omega),Ah (by omega)]
   congr 2
theorem YL(n:Nat)(hn:n<4294967296):∃ v:Nat,bitsLen ((n:Int),())=some ((v:Int),())∧v≤32∧2 ^ v≤max 1 (2*n):=by
 rw[AFX,OF]
 obtain⟨v,e,h⟩:=AeN n hn
 simp only[e]
 exact⟨v,rfl,h⟩
theorem ASK(n:Nat)(h1:1≤n)(hn:n<4294967296):∃ m:Nat,RK ((n:Int),())=some ((m:Int),())∧1≤m∧m≤2*n:=by
 rw[AC4,Nw,u64_in (by omega)]
 obtain⟨v,e,h32,hp⟩:=YL n hn
 simp only[e]
 have e2:shl? .u64 (1:Int) (v:Int)=some ((2 ^ v:Nat):Int):=by
  rw[PM,Qv,ApV (by omega),AqM,show min v (IntKind.bits .u64)=v from Aqn (by show v≤64;omega),Int.one_mul]
  have:2 ^ v≤2 ^ 32:=AsM (by omega) h32
  have h1:1≤2 ^ v:=Nat.one_le_two_pow
  have e:((2:Int) ^ v)=((2 ^ v:Nat):Int):=by simp
  rw[e,u64_in (by constructor<;>omega)]
 simp only[e2]
 exact⟨2 ^ v,rfl,Nat.one_le_two_pow,by omega⟩
theorem API(r:Int):∃ r' y,xorNext (r,())=some (r',y,()):=by
 rw[Zz,Nd,PM,Qv,ApV (by omega)]
 simp only[]
 rw[AA0,Yn,ApV (by omega)]
 simp only[]
 rw[PM,Qv,ApV (by omega)]
 exact⟨_,_,rfl⟩
theorem Aip(y:Int)(m:Nat)(h1:1≤m)(hm:m<18446744073709551616):∃ o:Nat,IntKind.wrap .u64 ((BitVec.ofInt (IntKind.bits .u64) y &&& BitVec.ofInt (IntKind.bits .u64) (IntKind.wrap .u64 ((m:Int)-1))).toNat)=(o:Int)∧o<m:=by
 rw[u64_in (n:=(m:Int)-1) (by omega),show(m:Int)-1=((m-1:Nat):Int) by omega,BitVec.toNat_and]
 have h2:(BitVec.ofInt (IntKind.bits .u64) ((m-1:Nat):Int)).toNat=m-1:=by
  rw[Arr,Ar7]
  exact ArC (by show m-1<18446744073709551616;omega)
 rw[h2]
 have h3:(BitVec.ofInt (IntKind.bits .u64) y).toNat &&& (m-1)≤m-1:=Nat.and_le_right
 exact⟨_,u64_in (by omega),by omega⟩
end Go.Pev.Pl
end
section
namespace Go.Pev.Pl.SG
open Go.Sort
variable {α:Type} {S:SP α}
theorem AUM(a b:Nat)(m:Nat)(h8:a+8≤b)(hm1:1≤m)(hm:m≤2*(b-a)):∀ (k t:Nat) (d:Array (EL S)) (r:Int) (n:Nat),t+k=3→b≤d.size→d.size<4294967296→k<n →
  ∃ d':Array (EL S),Aj (GA S.z S.c) n ((rep d),(a:Int),((b-a:Nat):Int),r,(m:Int),((a+(b-a)/4*2-1+t:Nat):Int),())=some (.inl ((rep d'),()))∧PermIn a b d d':=by
 intro k
 induction k with
 |zero=>
  intro t d r n hk hb hs hn
  obtain⟨n,rfl⟩:∃ k,n=k+1:=⟨n-1,by omega⟩
  rw[Aj,GA]
  simp (disch:=omega) only[Aah,Nf,wrap_add,AP,DG]
  rw[ApL (by omega)]
  exact⟨d,rfl,permIn_refl d a b⟩
 |succ k ih=>
  intro t d r n hk hb hs hn
  obtain⟨n,rfl⟩:∃ k,n=k+1:=⟨n-1,by omega⟩
  rw[Aj,GA]
  simp (disch:=omega) only[Aah,Nf,wrap_add,AP,DG]
  rw[ApM (show a+(b-a)/4*2-1+t≤a+(b-a)/4*2+1 by omega)]
  obtain⟨r',y,e⟩:=API r
  obtain⟨o,e2,ho⟩:=Aip y m hm1 (by omega)
  simp only[e,e2]
  rw[Ah (n:=(o:Int)) (by omega)]
  simp only[DG]
  have i0:a+(b-a)/4*2-1+t<d.size:=by omega
  have fin:∀ q:Nat,a≤q→q<b→∃ d':Array (EL S),Aj (GA S.z S.c) n ((rep (swp d (a+(b-a)/4*2-1+t) q)),(a:Int),((b-a:Nat):Int),r',(m:Int),((a+(b-a)/4*2-1+t+1:Nat):Int),())=some (.inl ((rep d'),()))∧PermIn a b d d':=by
   intro q hq1 hq2
   obtain⟨d',e',hp⟩:=ih (t+1) (swp d (a+(b-a)/4*2-1+t) q) r' n (by omega) (by rw[size_swp];omega) (by rw[size_swp];omega) (by omega)
   exact⟨d',e',permIn_trans _ _ _ a b (swp_permIn d a b _ q (by omega) (by omega) hq1 hq2 hb) hp⟩
  by_cases h:b-a≤o
  ·have i1:a+(o-(b-a))<d.size:=by omega
   simp (disch:=omega) only[h,Apn,DK,wrap_add,AP,A4 i0,A4 i1,(Dv i0 i1).1,(Dv i0 i1).2]
   exact fin _ (by omega) (by omega)
  ·have i1:a+o<d.size:=by omega
   simp (disch:=omega) only[h,Ap8,DK,wrap_add,AP,A4 i0,A4 i1,(Dv i0 i1).1,(Dv i0 i1).2]
   exact fin _ (by omega) (by omega)
theorem AZs(d:Array (EL S))(a b:Nat)(hab:a≤b)(hb:b≤d.size)(hs:d.size<4294967296):
  ∃ d':Array (EL S),(AFR S.z S.c) ((rep d),(a:Int),(b:Int),())=some ((rep d'),())∧PermIn a b d d':=by
 have hm:4294967296<many:=by simp only[many];omega
 rw[Af6,NG]
 simp (disch:=omega) only[DK,An]
 by_cases h:8≤b-a
 ·rw[ApM (show(8:Int)≤((b-a:Nat):Int) by omega)]
  obtain⟨m,e,h1,h2⟩:=ASK (b-a) (by omega) (by omega)
  simp only[e]
  rw[u64_in (n:=((b-a:Nat):Int)) (by omega)]
  simp (disch:=omega) only[Aah,Nf,wrap_add,BA,A3]
  obtain⟨d',e2,hp⟩:=AUM a b m (by omega) h1 h2 3 0 d ((b-a:Nat):Int) many rfl hb hs (by omega)
  rw[Aqp]at e2
  simp only[e2]
  exact⟨d',rfl,hp⟩
 ·rw[ApL (show ¬ (8:Int)≤((b-a:Nat):Int) by omega)]
  exact⟨d,rfl,permIn_refl d a b⟩
end Go.Pev.Pl.SG
end
section
namespace Go.Pev.Pl.SG
open Go.Sort
variable {α:Type} {S:SP α}
abbrev AlB(α:Type):=List α×Int×Int×Int×Bool×Bool×Unit
abbrev Zr(α:Type):=AlB α⊕(List α×Unit)⊕Unit
def Wn(d:Array (EL S))(a b:Nat):Zr α→Prop
 |.inl (xs,x,y,l,_,_,_)=>∃ (e:Array (EL S)) (i j:Nat),xs=(rep e)∧x=(i:Int)∧y=(j:Int)∧0≤l∧l≤100∧i≤j∧j≤e.size∧e.size=d.size∧j-i<b-a∧Below ltX i j e ∧
   ∀ R,PermIn i j e R→SortedIn ltX i j R→PermIn a b d R∧SortedIn ltX a b R
 |.inr (.inl (xs,_))=>∃ R:Array (EL S),xs=(rep R)∧PermIn a b d R∧SortedIn ltX a b R
 |.inr (.inr _)=>False
def D6(self:(List α×Int×Int×Int×Unit)→Option ((List α×Unit)))(m:Nat):Prop:=
 ∀ (d:Array (EL S)) (a b:Nat) (l:Int),a≤b→b≤d.size→d.size<4294967296→0≤l→l≤100→Below ltX a b d→2*(b-a)<m →
  ∃ R:Array (EL S),self ((rep d),(a:Int),(b:Int),l,())=some ((rep R),())∧PermIn a b d R∧SortedIn ltX a b R
section
variable {self:(List α×Int×Int×Int×Unit)→Option ((List α×Unit))} {d:Array (EL S)} {a b:Nat} {l:Int}
theorem ARB(hself:D6 (S:=S) self (b-a))(hb:b≤d.size)(hs:d.size<4294967296)(hl:0≤l∧l≤100)
  {d3:Array (EL S)} {p:Nat} (P3:PermIn a b d d3) (B3:Below ltX a b d3) (hp1:a≤p) (hp2:p<b) :
  ∃ o,(match(ACb S.z S.c) ((rep d3),(a:Int),(b:Int),(p:Int),())with
  |none=>none
  |some (y20,y21,y22,_)=>match quo? .i64 (IntKind.wrap .i64 ((b:Int)-(a:Int))) (8:Int)with
   |none=>none
   |some x23=>match(ilt (IntKind.wrap .i64 (y21-(a:Int))) (IntKind.wrap .i64 ((b:Int)-y21)))with
    |true=>match self (y20,(a:Int),y21,l,())with
     |none=>none
     |some (y24,_)=>some ((.inl (y24,(IntKind.wrap .i64 (y21+(1:Int))),(b:Int),l,(ile x23 (IntKind.wrap .i64 (y21-(a:Int)))),y22,())):Zr α)
    |false=>match self (y20,(IntKind.wrap .i64 (y21+(1:Int))),(b:Int),l,())with
     |none=>none
     |some (y25,_)=>some (.inl (y25,(a:Int),y21,l,(ile x23 (IntKind.wrap .i64 ((b:Int)-y21))),y22,())))=some o∧Wn d a b o:=by
 have b3:b≤d3.size:=by rw[P3.1];exact hb
 have s3:d3.size<4294967296:=by rw[P3.1];exact hs
 rw[Ade d3 a b p hp1 hp2 b3 s3]
 rcases hx:partition ltX d3 a b p with⟨mid,ap,d4⟩
 obtain⟨g1,g2,hs4,hBa,hBr,hleft,hright⟩:=round_part Ag5 (partition_holds _) hp1 hp2 b3 B3 hx
 simp (disch:=omega) only[DK,AP,Ao0,AL]
 have b4:b≤d4.size:=by omega
 by_cases h:mid-a<b-mid
 ·obtain⟨L,e,l1,l2⟩:=hself d4 a mid l g1 (by omega) (by omega) hl.1 hl.2 hBa (by omega)
  simp only[h,Apn,e]
  obtain⟨hBL,hfin⟩:=hleft _ l1 l2
  refine⟨_,rfl,L,mid+1,b,rfl,rfl,rfl,hl.1,hl.2,by omega,by rw[l1.1];exact b4,by rw[l1.1,hs4,P3.1],by omega,hBL,fun R r1 r2 => ?_⟩
  obtain⟨q1,q2⟩:=hfin R r1 r2
  exact⟨permIn_trans _ _ _ a b P3 q1,q2⟩
 ·obtain⟨L,e,l1,l2⟩:=hself d4 (mid+1) b l (by omega) (by omega) (by omega) hl.1 hl.2 hBr (by omega)
  simp only[h,Ap8,e]
  obtain⟨hBL,hfin⟩:=hright _ l1 l2
  refine⟨_,rfl,L,a,mid,rfl,rfl,rfl,hl.1,hl.2,by omega,by rw[l1.1];omega,by rw[l1.1,hs4,P3.1],by omega,hBL,fun R r1 r2 => ?_⟩
  obtain⟨q1,q2⟩:=hfin R r1 r2
  exact⟨permIn_trans _ _ _ a b P3 q1,q2⟩
theorem RE(hself:D6 (S:=S) self (b-a))(hb:b≤d.size)(hs:d.size<4294967296)(hl:0≤l∧l≤100)
  {d3:Array (EL S)} {p:Nat} (wb wp:Bool) (P3:PermIn a b d d3) (B3:Below ltX a b d3) (hp1:a≤p) (hp2:p<b) :
  ∃ o,(T6 S.z S.c) self (rep d3) (a:Int) (b:Int) (p:Int) l wb wp=some o∧Wn d a b o:=by
 have b3:b≤d3.size:=by rw[P3.1];exact hb
 have s3:d3.size<4294967296:=by rw[P3.1];exact hs
 rw[T6,Af]
 by_cases h0:0<a
 ·rw[ApM (by omega)]
  have i0:a-1<d3.size:=by omega
  have i1:p<d3.size:=by omega
  simp (disch:=omega) only[BA,A4,BZ,CW,DF]
  cases hc:ltX d3[a-1]! d3[p]!
  ·simp only[Ap5]
   rw[ARv d3 a b p hp1 hp2 b3 s3]
   rcases hx:partitionEqual ltX d3 a b p with⟨mid,d4⟩
   obtain⟨hm1,hm2,hs4,hB4,hfin⟩:=round_eq Ag5 (partitionEqual_holds _) h0 hp1 hp2 b3 B3 hc hx
   refine⟨_,rfl,d4,mid,b,rfl,rfl,rfl,hl.1,hl.2,by omega,by omega,by rw[hs4,P3.1],by omega,hB4,fun R r1 r2 => ?_⟩
   obtain⟨q1,q2⟩:=hfin R r1 r2
   exact⟨permIn_trans _ _ _ a b P3 q1,q2⟩
  ·simp only[ApX]
   exact ARB hself hb hs hl P3 B3 hp1 hp2
 ·rw[ApL (by omega)]
  exact ARB hself hb hs hl P3 B3 hp1 hp2
theorem Aak(hself:D6 (S:=S) self (b-a))(hab:a<b)(hb:b≤d.size)(hs:d.size<4294967296)(hl:0≤l∧l≤100)
  {d3:Array (EL S)} {p:Nat} (h:Int) (wb wp:Bool) (P3:PermIn a b d d3) (B3:Below ltX a b d3) (hp1:a≤p) (hp2:p<b) :
  ∃ o,(AL0 S.z S.c) self (rep d3) (a:Int) (b:Int) (p:Int) h l wb wp=some o∧Wn d a b o:=by
 have b3:b≤d3.size:=by rw[P3.1];exact hb
 have s3:d3.size<4294967296:=by rw[P3.1];exact hs
 unfold AL0
 cases wb
 ·exact RE hself hb hs hl _ _ P3 B3 hp1 hp2
 ·cases wp
  ·exact RE hself hb hs hl _ _ P3 B3 hp1 hp2
  ·simp only[]
   cases ieq h 1
   ·exact RE hself hb hs hl _ _ P3 B3 hp1 hp2
   ·simp only[]
    rw[AL6 d3 a b hab b3 s3]
    obtain⟨q1,q2⟩:=partialInsertionSort_holds (lt:=ltX) Ag5 d3 a b hab b3 B3
    rcases hx:partialInsertionSort ltX d3 a b with⟨d4,fin⟩
    rw[hx]at q1 q2
    have P4:PermIn a b d d4:=permIn_trans _ _ _ a b P3 q1
    cases fin
    ·exact RE hself hb hs hl _ _ P4 (B3.perm b3 q1) hp1 hp2
    ·exact⟨_,rfl,d4,rfl,P4,q2 rfl⟩
theorem Aaj(hself:D6 (S:=S) self (b-a))(hab:a+8≤b)(hb:b≤d.size)(hs:d.size<4294967296)(hl:0≤l∧l≤100)
  {d3:Array (EL S)} (wb wp:Bool) (P3:PermIn a b d d3) (B3:Below ltX a b d3) :
  ∃ o,(ALz S.z S.c) self (rep d3) (a:Int) (b:Int) l wb wp=some o∧Wn d a b o:=by
 have b3:b≤d3.size:=by rw[P3.1];exact hb
 have s3:d3.size<4294967296:=by rw[P3.1];exact hs
 rw[ALz]
 obtain⟨p,h,e,hp1,hp2⟩:=AWm d3 a b hab b3 s3
 simp only[e]
 cases ieq h 2
 ·exact Aak hself (by omega) hb hs hl h _ _ P3 B3 hp1 hp2
 ·simp only[Ahj d3 a b (by omega) b3 s3]
  have q1:=reverseRange_holds (α:=(EL S)) d3 a b (by omega) b3
  simp (disch:=omega) only[BA,DK]
  exact Aak hself (by omega) hb hs hl 1 _ _ (permIn_trans _ _ _ a b P3 q1) (B3.perm b3 q1) (by omega) (by omega)
theorem AdY(hself:D6 (S:=S) self (b-a))(hab:a≤b)(hb:b≤d.size)(hs:d.size<4294967296)(hl:0≤l∧l≤100)(wb wp:Bool)(B:Below ltX a b d):
  ∃ o,(Nu S.z S.c) self ((rep d),(a:Int),(b:Int),l,wb,wp,())=some o∧Wn d a b o:=by
 rw[Nu]
 simp (disch:=omega) only[DK,An,CN]
 by_cases h12:b-a≤12
 ·rw[ApM (show((b-a:Nat):Int)≤12 by omega)]
  simp only[AjP d a b hab hb hs]
  obtain⟨q1,q2⟩:=insertionSort_holds (lt:=ltX) Ag5 d a b hab hb
  exact⟨_,rfl,_,rfl,q1,q2⟩
 ·rw[ApL (show ¬ ((b-a:Nat):Int)≤12 by omega)]
  simp only[]
  by_cases h0:l=0
  ·subst h0
   simp only[BEq.rfl,Aed d a b (by omega) hb hs]
   obtain⟨q1,q2⟩:=heapSort_holds (lt:=ltX) Ag5 d a b hab hb
   exact⟨_,rfl,_,rfl,q1,q2⟩
  ·rw[show(l==0)=false by simpa using h0]
   simp only[]
   cases wb
   ·obtain⟨d',e,q1⟩:=AZs d a b hab hb hs
    simp only[Ap5,e]
    rw[Ah (by omega)]
    exact Aaj hself (by omega) hb hs (by omega) _ _ q1 (B.perm hb q1)
   ·simp only[ApX]
    exact Aaj hself (by omega) hb hs hl _ _ (permIn_refl d a b) B
end
theorem ARC{self:(List α×Int×Int×Int×Unit)→Option ((List α×Unit))}{m:Nat}(hself:D6 (S:=S) self m):∀ (k:Nat) (d:Array (EL S)) (a b:Nat) (l:Int) (wb wp:Bool) (n:Nat),b-a=k→k≤m→a≤b→b≤d.size→d.size<4294967296→0≤l→l≤100→Below ltX a b d→k<n →
  ∃ R:Array (EL S),Aj ((Nu S.z S.c) self) n ((rep d),(a:Int),(b:Int),l,wb,wp,())=some (.inl ((rep R),()))∧PermIn a b d R∧SortedIn ltX a b R:=by
 intro k
 induction k using Nat.strongRecOn with
 |_ k ih=>
 intro d a b l wb wp n hk hm hab hb hs hl1 hl2 B hn
 obtain⟨n,rfl⟩:∃ k,n=k+1:=⟨n-1,by omega⟩
 have hself':D6 (S:=S) self (b-a):=fun d a' b' l h1 h2 h3 h4 h5 h6 h7=>hself d a' b' l h1 h2 h3 h4 h5 h6 (by omega)
 obtain⟨o,e,ho⟩:=AdY hself' hab hb hs ⟨hl1,hl2⟩ wb wp B
 rw[Aj,e]
 match o,ho with
 |.inl (xs,x,y,l',wb',wp',_),ho=>
  obtain⟨e',i,j,rfl,rfl,rfl,g1,g2,g3,g4,g5,g6,g7,hfin⟩:=ho
  obtain⟨R,e2,r1,r2⟩:=ih (j-i) (by omega) e' i j l' wb' wp' n rfl (by omega) g3 g4 (by omega) g1 g2 g7 (by omega)
  exact⟨R,e2,hfin R r1 r2⟩
 |.inr (.inl (xs,_)),ho=>
  obtain⟨R,rfl,r1,r2⟩:=ho
  exact⟨R,rfl,r1,r2⟩
theorem AdZ:∀ k:Nat,D6 (S:=S) ((KX S.z S.c) (k+1)) (2 ^ k):=by
 intro k
 have hmany:4294967296<many:=by simp only[many];omega
 induction k with
 |zero=>
  intro d a b l h1 h2 h3 h4 h5 h6 h7
  have:D6 (S:=S) ((KX S.z S.c) 0) 0:=fun _ _ _ _ _ _ _ _ _ _ h=>by omega
  obtain⟨R,e,r1,r2⟩:=ARC this (b-a) d a b l true true many rfl (by omega) h1 h2 h3 h4 h5 h6 (by omega)
  refine⟨R,?_,r1,r2⟩
  rw[KX,ACJ]
  simp only[A3,e]
 |succ k ih=>
  intro d a b l h1 h2 h3 h4 h5 h6 h7
  have hp:2 ^ (k+1)=2*2 ^ k:=by rw[Nat.pow_succ];omega
  obtain⟨R,e,r1,r2⟩:=ARC ih (b-a) d a b l true true many rfl (by omega) h1 h2 h3 h4 h5 h6 (by omega)
  refine⟨R,?_,r1,r2⟩
  rw[KX,ACJ]
  simp only[A3,e]
theorem JZ{α:Type}(S:SP α)(xs:List α)(h:xs.length<4294967296)(hok:∀ x∈xs,S.ok x):∃ ys,(AaU S.z S.c) (xs,())=some (ys,())∧ys.Perm xs∧ys.Pairwise fun x y=>S.lt y x=false:=by
 obtain⟨d,rfl⟩:∃ d:Array (EL S),xs=rep d:=by
  refine⟨(xs.attach.map fun x=>⟨x.val,hok x.val x.property⟩).toArray,?_⟩
  simp only[rep,List.map_map]
  exact(List.attach_map_subtype_val xs).symm
 have hl:(rep d).length=d.size:=by simp[rep]
 rw[hl]at h
 rw[AhC,Qt]
 rw[Abb,u64_in (by omega)]
 obtain⟨v,e,hv,_⟩:=YL d.size h
 simp only[e]
 obtain⟨R,e2,r1,r2⟩:=AdZ 99 d 0 d.size (v:Int) (by omega) (by omega) h (by omega) (by omega) (.inl rfl) (by
  have:2 ^ 99=633825300114114700748351602688:=by decide
  omega)
 have e3:(AiM S.z S.c) (rep d,(0:Int),(d.size:Int),(v:Int),())=some (rep R,()):=by rw[AmB];exact e2
 refine⟨rep R,by simp only[e3],?_,?_⟩
 ·obtain⟨hsz,_,hp⟩:=r1
  have e1:R.extract 0 d.size=R:=by rw[← hsz];exact Array.extract_size
  rw[e1,Array.extract_size]at hp
  exact hp.map _
 ·rw[rep,ArJ,Aqm]
  intro i j hi hj hij
  have hi':i<R.size:=by simpa using hi
  have hj':j<R.size:=by simpa using hj
  have:=r2 i j (ArN _) hij (by rw[← r1.1];omega)
  rw[getElem!_pos R j hj',getElem!_pos R i hi']at this
  simpa [ltX]using this
end Go.Pev.Pl.SG
end
section
namespace Go.Pev.Pl.SL
open Go.Sort
def ok(l:List Int):Prop:=l≠[]
def okz:List Int:=[0]
theorem UL:ok okz:=by simp[ok,okz]
def lt(x y:List Int):Bool:=ltInt (x.headD 0) (y.headD 0)
theorem swo:SWO lt:=⟨fun x=>swo_ltInt.irrefl _,fun x y z=>swo_ltInt.trans _ _ _,fun x y z=>swo_ltInt.ntrans _ _ _⟩
theorem WY{x y:List Int}(hx:ok x)(hy:ok y):∃ c,BG (x,y,())=some (c,())∧ilt c (0:Int)=lt x y:=by
 cases x with
 |nil=>exact absurd rfl hx
 |cons a x=>
  cases y with
  |nil=>exact absurd rfl hy
  |cons b y=>
   rw[APN,ZK]
   have i1:idx (a::x) (0:Int)=some a:=by rw[idx_eq];rfl
   have i2:idx (b::y) (0:Int)=some b:=by rw[idx_eq];rfl
   simp only[i1,i2,Gk,EV,Kc,Kd]
   simp only[CN,Af,lt,List.headD_cons,ltInt]
   by_cases h:a<b
   ·simp[h]
   ·by_cases h2:b<a
    ·simp[h,h2]
    ·simp[h,h2]
noncomputable def S:SG.SP (List Int):=⟨([]:List (Int)),BG,ok,okz,UL,lt,swo,fun h1 h2=>WY h1 h2⟩
theorem JZ(xs:List (List Int))(h:xs.length<4294967296)(hok:∀ x∈xs,ok x):∃ ys,AP5 (xs,())=some (ys,())∧ys.Perm xs∧ys.Pairwise fun x y=>lt y x=false:=SG.JZ S xs h hok
end Go.Pev.Pl.SL
end
end
section
namespace Go.Pev.Pl
abbrev Edge:=Int×Int×Unit
inductive Con(l:List Edge):Int→Int→Prop
 |refl (a:Int):Con l a a
 |edge (e:Edge):e∈l→Con l e.1 e.2.1
 |symm {a b:Int}:Con l a b→Con l b a
 |trans {a b c:Int}:Con l a b→Con l b c→Con l a c
theorem Con.mono{l l':List Edge}(h:∀ e∈l,∃ e'∈l',(e'.1=e.1∧e'.2.1=e.2.1)∨(e'.1=e.2.1∧e'.2.1=e.1)){a b:Int}(c:Con l a b):Con l' a b:=by
 induction c with
 |refl a=>exact .refl a
 |edge e he=>
  obtain⟨e',h1,h2|h2⟩:=h e he
  ·have:=Con.edge e' h1
   rw[h2.1,h2.2]at this
   exact this
  ·have:=Con.edge e' h1
   rw[h2.1,h2.2]at this
   exact this.symm
 |symm _ ih=>exact ih.symm
 |trans _ _ ih1 ih2=>exact ih1.trans ih2
theorem Con.snoc{l:List Edge}{e:Edge}{a b:Int}:Con (l++[e]) a b↔Con l a b∨(Con l a e.1∧Con l e.2.1 b)∨(Con l a e.2.1∧Con l e.1 b):=by
 constructor
 ·intro h
  induction h with
  |refl a=>exact .inl (.refl a)
  |edge e' he=>
   rcases ApR.1 he with h|h
   ·exact .inl (.edge e' h)
   ·simp only[Ap4]at h
    subst h
    exact .inr (.inl ⟨.refl _,.refl _⟩)
  |symm _ ih=>
   rcases ih with h|⟨h1,h2⟩|⟨h1,h2⟩
   ·exact .inl h.symm
   ·exact .inr (.inr ⟨h2.symm,h1.symm⟩)
   ·exact .inr (.inl ⟨h2.symm,h1.symm⟩)
  |trans _ _ ih1 ih2=>
   rcases ih1 with h|⟨h1,h2⟩|⟨h1,h2⟩
   ·rcases ih2 with g|⟨g1,g2⟩|⟨g1,g2⟩
    ·exact .inl (h.trans g)
    ·exact .inr (.inl ⟨h.trans g1,g2⟩)
    ·exact .inr (.inr ⟨h.trans g1,g2⟩)
   ·rcases ih2 with g|⟨g1,g2⟩|⟨g1,g2⟩
    ·exact .inr (.inl ⟨h1,h2.trans g⟩)
    ·exact .inr (.inl ⟨h1,g2⟩)
    ·exact .inl (h1.trans g2)
   ·rcases ih2 with g|⟨g1,g2⟩|⟨g1,g2⟩
    ·exact .inr (.inr ⟨h1,h2.trans g⟩)
    ·exact .inl (h1.trans g2)
    ·exact .inr (.inr ⟨h1,g2⟩)
 ·have up:∀ {x y},Con l x y→Con (l++[e]) x y:=fun h=>h.mono fun e' he=>⟨e',by simp[he],.inl ⟨rfl,rfl⟩⟩
  have he:Con (l++[e]) e.1 e.2.1:=.edge e (by simp)
  rintro (h|⟨h1,h2⟩|⟨h1,h2⟩)
  ·exact up h
  ·exact(up h1).trans (he.trans (up h2))
  ·exact(up h1).trans (he.symm.trans (up h2))
theorem Con.nil{a b:Int}(h:Con [] a b):a=b:=by
 induction h with
 |refl a=>rfl
 |edge e he=>cases he
 |symm _ ih=>exact ih.symm
 |trans _ _ ih1 ih2=>exact ih1.trans ih2
theorem Con.within{l:List Edge}{I:Int→Prop}(h:∀ e∈l,I e.1∧I e.2.1){a b:Int}(c:Con l a b):a=b∨(I a∧I b):=by
 induction c with
 |refl a=>exact .inl rfl
 |edge e he=>exact .inr (h e he)
 |symm _ ih=>
  rcases ih with h|h
  ·exact .inl h.symm
  ·exact .inr ⟨h.2,h.1⟩
 |trans _ _ ih1 ih2=>
  rcases ih1 with rfl|h1
  ·exact ih2
  ·rcases ih2 with rfl|h2
   ·exact .inr h1
   ·exact .inr ⟨h1.1,h2.2⟩
theorem Con.const{l:List Edge}{f:Int→Int}(h:∀ e∈l,f e.1=f e.2.1){a b:Int}(c:Con l a b):f a=f b:=by
 induction c with
 |refl a=>rfl
 |edge e he=>exact h e he
 |symm _ ih=>exact ih.symm
 |trans _ _ ih1 ih2=>exact ih1.trans ih2
end Go.Pev.Pl
end
