/- A part of the proofs of this seat: PevFlow PevPan PevFlow2 PevCall PevCall2 PevCall3 PevCall4 PevTop PevClone Pln PlnB PlnM G32M1 G32M2. -/
import Derived.Test.YtoedbccnoegkbaaGreatPb8fc24e776
import Derived.LoopN
import Derived.Laws.Sem
import Derived.KernelRfl
import Derived.Lib.SliceRun
import Derived.IntWalk
import Derived.Sort.AssemblyPlain
set_option linter.unusedVariables false
set_option linter.unusedSimpArgs false
set_option linter.unusedSectionVars false
set_option maxRecDepth 100000
section
namespace Go.Pev
open Go.RowKit
structure Fl(np:Nat)(w:World)(F:Nat→Prop)(m:Mp)(H:List Ob)(fz:List Bool)(w':World)(F':Nat→Prop)(m':Mp)(H':List Ob)(fz':List Bool):Prop where
 os:w'.os=w.os
 tape:w'.tape=w.tape
 output:w'.output=w.output
 size:w.heap.size≤w'.heap.size
 keep:∀ b,b<w.heap.size→(∀ i c,owned H fz i→m i≠some (b,c))→w'.heap[b]? = w.heap[b]?
 sub:∀ b,F b→F' b
 bnd:∀ b,F' b→F b∨(∃ i c,owned H fz i∧m i=some (b,c))∨w.heap.size≤b
 own:∀ i b c,owned H' fz' i→m' i=some (b,c)→(∃ i c,owned H fz i∧m i=some (b,c))∨w.heap.size≤b
 comp:∀ (i:Nat) o,i<np→H[i]? = some o→o≠.free→H'[i]? = some .dead∨(o≠.dead∧∃ o',H'[i]? = some o'∧sameShape o o'∧m' i=m i∧(A8 o=false→Kv o'=Kv o→∀ k,m' (.r i k)=m (.r i k)))
theorem Ext.toN{w w':World}{F F':Nat→Prop}{m m':Mp}{H H':List Ob}{fz fz':List Bool}(h:Ext w F m H fz w' F' m' H' fz')(np:Nat):Fl np w F m H fz w' F' m' H' fz':=
 ⟨h.os,h.tape,h.output,h.size,h.keep,h.sub,h.bnd,h.own,fun i o _=>h.comp i o⟩
theorem Fl.refl(np:Nat)(w:World)(F:Nat→Prop)(m:Mp)(H:List Ob)(fz:List Bool):Fl np w F m H fz w F m H fz:=(Ext.refl ..).toN np
theorem Fl.trans{np:Nat}{w w1 w2:World}{F F1 F2:Nat→Prop}{m m1 m2:Mp}{H H1 H2:List Ob}{fz fz1 fz2:List Bool}
  (h:Fl np w F m H fz w1 F1 m1 H1 fz1) (k:Fl np w1 F1 m1 H1 fz1 w2 F2 m2 H2 fz2):Fl np w F m H fz w2 F2 m2 H2 fz2 where
 os:=k.os.trans h.os
 tape:=k.tape.trans h.tape
 output:=k.output.trans h.output
 size:=AcX h.size k.size
 keep b hb hn:=by rw[k.keep b (AcJ hb h.size) ?_,h.keep b hb hn];intro i c ho he;rcases h.own i b c ho he with⟨i',c',h1,h2⟩|h1;exact hn i' c' h1 h2;omega
 sub b hb:=k.sub b (h.sub b hb)
 bnd b hb:=by rcases k.bnd b hb with h1|⟨i,c,h1,h2⟩|h1;exact h.bnd b h1;rcases h.own i b c h1 h2 with h3|h3;exact .inr (.inl h3);exact .inr (.inr h3);exact .inr (.inr (AcX h.size h1))
 own i b c h1 h2:=by rcases k.own i b c h1 h2 with⟨i',c',h3,h4⟩|h3;exact h.own i' b c' h3 h4;exact .inr (AcX h.size h3)
 comp i o hlt ho hf:=by
  rcases h.comp i o hlt ho hf with h1|⟨hd,o',h1,h2,h3,hp⟩
  rcases k.comp i _ hlt h1 (by simp)with h4|⟨h5,_⟩
  exact .inl h4;exact absurd rfl h5;have hf':o'≠.free:=by rintro rfl;cases o<;>simp[sameShape]at h2
  rcases k.comp i o' hlt h1 hf' with h4|⟨_,o'',h4,h5,h6,hq⟩
  exact .inl h4;refine .inr ⟨hd,o'',h4,h2.trans h5,h6.trans h3,fun a b k => ?_⟩;have h8:=h2.ver;have h9:=h5.ver;exact(hq (h8.2▸a) (by omega) k).trans (hp a (by omega) k)
section
variable {w:World} {F:Nat→Prop} {m:Mp} {H:List Ob} {fz:List Bool} {bs:List Bnd} {m':Mp} {E:St} {val:Nat→Value}
def Ix.at:Ix→Nat→Ix
 |.o _,i=>.o i
 |.r _ k,i=>.r i k
theorem Ix.AZO(x:Ix)(i:Nat):(x.at i).id=i:=by cases x<;>rfl
theorem Inv.AbT(h:Inv w F m H fz bs m' E val){i b c:Nat}(ho:owned E.heap E.frz i)(hm:m' i=some (b,c)):∃ x id,bs[i]? = some x∧x.id? = some id∧owned H fz id∧m id=some (b,c):=by
 obtain⟨o,hio,_,_⟩:=Dt ho;have hlt:=AY hio;rw[h.lenH]at hlt;have hx:bs[i]? = some bs[i]:=Abg hlt;have hb:=h.ob i _ hx;cases hc:bs[i]with
  |none=>rw[hc]at hb;simp only[A4]at hb;rw[hb.1]at hm;cases hm
  |whole id=>
   rw[hc]at hb hx;simp only[A4]at hb;obtain⟨e,hb⟩:=hb;refine⟨_,id,hx,rfl,?_,by rw[← e];exact hm⟩;simp only[owned,BY];rcases hb with⟨T,t,xs,a1,_,a3⟩|⟨k,v,es,a1,_⟩|⟨cs,cs',b,c,vs,T,a1,_⟩|⟨_,_,_,_,a1,_⟩|⟨_,_,_,_,_,a1,_,_,a4⟩
   rw[a1];exact a3;rw[a1];trivial;rw[a1];trivial;rw[a1];trivial;rw[a1];exact a4
  |cut id=>
   rw[hc]at hb hx;simp only[A4]at hb;obtain⟨T,t,xs,n,a1,a2,a3,a4⟩:=hb;refine⟨_,id,hx,rfl,by simp only[owned,BY];rw[a1];exact a2,?_⟩;rcases a4 with a4|⟨a4,_⟩
   rw[← a4];exact hm;rw[a4]at hm;cases hm
theorem Inv.rowAt(h:Inv w F m H fz bs m' E val){j:Nat}{T:RK}{e:TypeId}{t:Ty}{xs:List (List t.den)}{ver:Nat}{out:Option Nat}(hj:E.heap[j]? = some (.rows T e t xs ver out)):
  ∃ id ver',bs[j]? = some (.whole id)∧H[id]? = some (.rows T e t xs ver' none)∧out=none∧m' j=m id∧(∀ k,m' (.r j k)=m (.r id k))∧fz.getD id false=false:=by
 have hlt:=AY hj;rw[h.lenH]at hlt;have hx:bs[j]? = some bs[j]:=Abg hlt;have hb:=h.ob j _ hx;cases hc:bs[j]with
  |none=>rw[hc]at hb;simp only[A4]at hb;rcases hb.2 with⟨T,e,e2,_⟩|⟨T,t,e2⟩<;>(rw[hj]at e2;cases e2)
  |whole id=>
   rw[hc]at hb hx;simp only[A4]at hb;obtain⟨e0,hb⟩:=hb;rcases hb with⟨T,t,xs,a1,a2,a3⟩|⟨k,v,es,a1,a2⟩|⟨cs,cs',b,c,vs,T,a1,a2,_⟩|⟨_,_,_,_,a1,a2,_⟩|⟨T,e,t,xs,ver,a1,a2,a3⟩
   rw[hj]at a2;cases a2;rw[hj]at a2;cases a2;rw[hj]at a2;cases a2;rw[hj]at a2;cases a2;rw[hj]at a2;cases a2;exact⟨id,ver,hx,a1,rfl,e0,a3⟩
  |cut id=>rw[hc]at hb;simp only[A4]at hb;obtain⟨T,t,xs,n,_,_,a3,_⟩:=hb;rw[hj]at a3;cases a3
theorem Inv.src(h:Inv w F m H fz bs m' E val){i:Ix}{b c:Nat}(ho:owned E.heap E.frz i)(hm:m' i=some (b,c)):∃ x id,bs[i.id]? = some x∧x.id? = some id∧owned H fz (i.at id)∧m (i.at id)=some (b,c):=by
 cases i with
  |o i=>exact h.AbT ho hm
  |r i k=>simp only[owned]at ho;split at ho;rename_i T e t xs ver out hj;obtain⟨id,ver',a1,a2,_,_,a5,a6⟩:=h.rowAt hj;exact⟨_,id,a1,rfl,by simp only[owned,Ix.at];rw[a2];exact⟨ho.1,a6⟩,(a5 k).symm.trans hm⟩;exact ho.elim
theorem Inv.hi(hi:HI w F m H fz)(h:Inv w F m H fz bs m' E val):HI w F m' E.heap E.frz where
 obj j o hj:=by
  have hlt:=AY hj;rw[h.lenH]at hlt;have hx:bs[j]? = some bs[j]:=Abg hlt;have hb:=h.ob j _ hx;cases hc:bs[j]with
   |none=>rw[hc]at hb;simp only[A4]at hb;obtain⟨e1,⟨T,e,e2,e3⟩|⟨T,t,e2⟩⟩:=hb;rw[hj]at e2;cases e2;exact⟨e3,by rw[e1]⟩;rw[hj]at e2;cases e2;rw[e1];exact(rfl:([]:List Int)=[])
   |whole id=>
    rw[hc]at hb;simp only[A4]at hb;obtain⟨e,hb⟩:=hb;rcases hb with⟨T,t,xs,a1,a2,a3⟩|⟨k,v,es,a1,a2⟩|⟨cs,cs',b,c,vs,T,a1,a2,_,a4,a5,a6,a7⟩|⟨T,tgt,j0,is,a1,a2,a3⟩|⟨T,e',t,xs,ver,a1,a2,a3⟩
    rw[hj]at a2;cases a2;rw[e];exact hi.obj id _ a1;rw[hj]at a2;cases a2;rw[e];exact hi.obj id _ a1;rw[hj]at a2;cases a2;exact⟨b,c,vs,T,e.trans a4,a5,a6,a7⟩;rw[hj]at a2;cases a2;rw[e];exact a3;rw[hj]at a2;cases a2;rw[e];exact hi.obj id _ a1
   |cut id=>
    rw[hc]at hb;simp only[A4]at hb;obtain⟨T,t,xs,n,a1,a2,a3,a4⟩:=hb;rw[hj]at a3;cases a3;obtain⟨h0,h1⟩:=hi.obj id _ a1;refine⟨h0,?_⟩;rcases a4 with a4|⟨a4,a5⟩
    rw[a4];cases hm:m id with
     |none=>rw[hm]at h1;simp only at h1 ⊢;rw[h1];simp
     |some p=>obtain⟨b,cap⟩:=p;rw[hm]at h1;simp only at h1 ⊢;obtain⟨vs,row,b1,b2,b3,b4,b5,b6⟩:=h1;refine⟨vs,row.take (n*t.size),b1,?_,b3,b4,DI (fun x cs hx=>Dat.length t hx) n b5,?_⟩;rw[Abn];omega;rw[Abn,← Ac9,b6]
    rw[a4];exact a5
 row i:=by intro T e t xs ver out hj k ys hk;obtain⟨id,ver',a1,a2,rfl,a4,a5,_⟩:=h.rowAt hj;obtain⟨h1,h2⟩:=hi.row id T e t xs ver' none a2 k ys hk;rw[a5 k];refine⟨?_,fun _ => ?_⟩;obtain⟨h0,h1⟩:=h1;exact⟨h0,h1⟩;obtain⟨b,cap,u,e1,e2⟩:=h2 (by simp);exact⟨b,cap,u,a4.trans e1,e2⟩
 rfz i T e t xs ver out hj hf:=by rw[h.frz i]at hf;cases hf
 sep i j b c b' c' h1 h2 hij h3 h4:=by
  obtain⟨x,id,k1,k2,k3,k4⟩:=h.src h1 h3;obtain⟨y,id',l1,l2,l3,l4⟩:=h.src h2 h4;refine hi.sep _ _ b c b' c' k3 l3 ?_ k4 l4;intro he;have hid:id=id':=by rw[← Ix.AZO i id,he,Ix.AZO]
  subst hid;have:=h.inj _ _ x y id k1 l1 k2 l2;cases i<;>cases j<;>simp only[Ix.at,Ix.id]at he this<;>(try cases he)<;>subst this<;>exact hij rfl
 off i b c h1 h2:=by obtain⟨x,id,k1,k2,k3,k4⟩:=h.src h1 h2;exact hi.off _ b c k3 k4
 froz i T t xs b c h1 h2:=by rw[h.frz i]at h2;cases h2
 lt:=hi.lt
 glo:=hi.glo
 len:=h.lenF.symm
theorem Zs:∀ (n i:Nat) (bs:List Bnd),pins n i bs=true→∀ k,k<n→bs[k]? = some (.whole (i+k)):=by
 intro n;induction n with
  |zero=>intro i bs _ k hk;omega
  |succ n ih=>
   intro i bs h k hk;cases bs with
    |nil=>simp[pins]at h
    |cons b bs=>
     simp only[pins,Aba,Abb]at h;cases k with
      |zero=>simp[h.1]
      |succ k=>have:=ih (i+1) bs h.2 k (by omega);simp only[Acz];rw[this];congr 2;omega
theorem Inv.blank{val:Nat→Value}(n:Nat):Inv w F m H fz [] (fun _=>none) (Pev.blank n) val where
 tmps t:=by rw[show(Pev.blank n).tmps.f t = .Bo from rfl];unfold Rep;trivial
 lenH:=rfl
 lenF:=rfl
 frz i:=by simp[Pev.blank]
 ob j b h:=by simp at h
 inj i j b c id h:=by simp at h
theorem AE5(st:St)(v:AV)(l:Loc):(place st v l).tmps.n=st.tmps.n:=by
 cases l with
  |tmp t=>rfl
  |cell j c=>simp only[place];split<;>rfl
  |cap t i=>rfl
  |obj j=>rfl
theorem ATw:∀ (its:AB) (d:Ag (leaves its)) (st:St),(enc its d st).tmps.n=st.tmps.n:=by
 intro its;induction its with
  |nil=>intro d st;rfl
  |cons p r ih=>intro d st;obtain⟨l,c⟩:=p;cases c<;>exact(ih _ _).trans (AE5 _ _ _)
theorem Iw(n:Nat)(its:AB)(d:Ag (leaves its)):(encode n its d).tmps.n=n:=by unfold encode;rw[ATw];simp[blank]
theorem AMU{F2:Nat→Prop}{fz2:List Bool}{np:Nat}(h:Inv w F2 m H fz2 bs m' E val)(hp:(pins np 0 bs&&(H.take np).all A8)=true):∀ (i:Nat) o,i<np→H[i]? = some o→o≠.free→E.heap[i]? = some .dead∨(o≠.dead∧∃ o',E.heap[i]? = some o'∧sameShape o o'∧m' i=m i∧(A8 o=false→Kv o'=Kv o→∀ k,m' (.r i k)=m (.r i k))):=by
 intro i o hlt ho hf;rw[Aba]at hp;obtain⟨hp,hall⟩:=hp;have hpl:A8 o=true:=Abk.1 hall o (Abj (i:=i) (by rw[Abx,AcO hlt];exact ho))
 suffices hs:E.heap[i]? = some .dead∨(o≠.dead∧∃ o',E.heap[i]? = some o'∧sameShape o o'∧m' i=m i)from
  hs.imp id fun ⟨a,o',b,c,d⟩=>⟨a,o',b,c,d,fun e=>by rw[hpl]at e;cases e⟩
 have h1:=Zs np 0 bs hp i hlt;rw[Ab5]at h1;have hb:=h.ob i _ h1;simp only[A4]at hb;obtain⟨e,hb⟩:=hb;right;rcases hb with⟨T,t,xs,a1,a2,a3⟩|⟨k,v,es,a1,a2⟩|⟨cs,cs',b,c,vs,T,a1,a2,_,a4,a5,a6,a7⟩|⟨_,_,_,_,a1,a2,_⟩|⟨_,_,_,_,_,a1,a2,_⟩
 rw[ho]at a1;cases a1;exact⟨by simp,_,a2,⟨rfl,rfl⟩,e⟩;rw[ho]at a1;cases a1;exact⟨by simp,_,a2,trivial,e⟩;rw[ho]at a1;cases a1;exact⟨by simp,_,a2,trivial,e⟩;rw[ho]at a1;cases a1;exact⟨by simp,_,a2,rfl,e⟩;rw[ho]at a1;cases a1;cases hpl
theorem Ed[DfI]{np nt:Nat}{st:St}{a:Act}{its:AB}{v:Ag (leaves its)}(hs:SI w F m st a)(h:decode np nt st its=some v):
  ∃ F' m',SI w F' m' (encode nt its v) a∧Fl np w F m st.heap st.frz w F' m' (encode nt its v).heap (encode nt its v).frz:=by
 unfold decode at h;split at h;rename_i hn;simp only[Abb]at hn;split at h;rename_i v' bs fr hd;split at h;rename_i hp;simp only[AbZ]at h;subst h
 obtain⟨F2,m2,hg,hv,_⟩:=AGo (val:=fun t=>a.tmps.getD t undef) its st.frz [] F (fun _=>none) (blank nt) v' bs fr hs.heap
  (fun t v ht=>by rw[(Tm.AYp ht).1];exact hs.tmps t) (Inv.blank nt) hd
 refine⟨F2,m2,⟨hv.tmps,by rw[Iw,← hn];exact hs.size,hv.hi hg.2,hs.defers⟩,?_⟩;refine⟨rfl,rfl,rfl,Abd _,fun _ _ _=>rfl,hg.1.sub,hg.1.bnd,fun i b c h1 h2 => ?_,AMU hv hp⟩;obtain⟨x,id,k1,k2,k3,k4⟩:=hv.src h1 h2;exact hg.1.own _ b c k3 k4;cases h;cases h;cases h
end
end Go.Pev
end
section
namespace Go.Pev
open Go.RowKit
theorem Ir{R:Type}{all:List Oper}{g:Option (Nat×Bool)}{st:St}{yes no:St→Option R}{r:R}(h:guarded R all g st yes no=some r):
  ∃ st',(yes st'=some r∧∀ (R':Type) (yes' no':St→Option R'),guarded R' all g st yes' no'=yes' st')∨(no st'=some r∧∀ (R':Type) (yes' no':St→Option R'),guarded R' all g st yes' no'=no' st'):=by
 unfold guarded at h;split at h;exact⟨st,.inl ⟨h,fun _ _ _=>by simp[guarded]⟩⟩;rename_i j want;split at h;cases h;rename_i d hj;split at h;rename_i b hd;cases b with
  |true=>
   cases want with
    |true=>exact⟨_,.inl ⟨h,fun _ _ _=>by simp only[guarded,hj,hd]⟩⟩
    |false=>exact⟨_,.inr ⟨h,fun _ _ _=>by simp only[guarded,hj,hd]⟩⟩
  |false=>
   cases want with
    |true=>exact⟨_,.inr ⟨h,fun _ _ _=>by simp only[guarded,hj,hd]⟩⟩
    |false=>exact⟨_,.inl ⟨h,fun _ _ _=>by simp only[guarded,hj,hd]⟩⟩
 rename_i hd;exact⟨_,.inr ⟨h,fun _ _ _=>by simp only[guarded,hj,hd]⟩⟩;cases h
section
variable [DfI] {P:Program} {E:Env}
theorem Sp(hE:∀ g,Ad P g (E.spec g)){R:Type}{r:R}{all:List Oper}{o:Oper}{φ:List Nat}{slot:Nat}{st:St}{k:St→Option R}(h:Ky P E R all o φ slot st k=some r):
  ∃ st',k st'=some r∧∀ (R':Type) (k':St→Option R'),Ky P E R' all o φ slot st k'=k' st':=by
 unfold Ky at h;obtain⟨st1,h1⟩:=Ir h;rcases h1 with⟨h1,h2⟩|⟨h1,h2⟩
 split at h1;rename_i hw;obtain⟨v,e,h3,h4,_⟩:=DP hE o.op _ _ _ _ _ _ _ r h1;split at h3;rename_i hok;exact⟨_,h3,fun R' k'=>by unfold Ky;rw[h2];simp only[hw];rw[h4];simp only[hok]⟩;cases h3;cases h1;exact⟨_,h1,fun R' k'=>by unfold Ky;rw[h2]⟩
theorem SI.Bo{w:World}{F:Nat→Prop}{m:Mp}{st:St}{a:Act}(h:SI w F m st a)(d:Option Tmp):SI w F m (st.put d .Bo) a:=by
 cases d with
  |none=>exact h
  |some d=>refine⟨fun t => ?_,h.size,h.heap,h.defers⟩;simp only[St.put,Tm.M4];split;exact(by unfold Rep;trivial:Rep w F m st.heap .Bo _);exact h.tmps t
theorem DY(st:St)(d:Option Tmp)(v:AV):(st.put d v).heap=st.heap∧(st.put d v).frz=st.frz:=by cases d<;>exact⟨rfl,rfl⟩
theorem AGC:∀ (l:List Oper) (st:St),(EP l st).heap=st.heap∧(EP l st).frz=st.frz:=by
 intro l;induction l with
  |nil=>exact fun st=>⟨rfl,rfl⟩
  |cons o l ih=>intro st;exact⟨(ih _).1.trans (DY ..).1,(ih _).2.trans (DY ..).2⟩
theorem SI.EP{w:World}{F:Nat→Prop}{m:Mp}{a:Act}:∀ (l:List Oper) {st:St},SI w F m st a→SI w F m (Pev.EP l st) a:=by
 intro l;induction l with
  |nil=>exact fun h=>h
  |cons o l ih=>exact fun h=>ih (h.Bo o.dst)
theorem AWi(st:St)(d:Option Tmp)(u v:AV):(st.put d u).put d v=st.put d v:=by
 cases d with
  |none=>rfl
  |some d=>simp only[St.put,Tm.set_set]
theorem TU:∀ (l:List Oper) (st:St) (x:Oper) (v:AV),x∈l→Pev.EP l (st.put x.dst v)=Pev.EP l st:=by
 intro l;induction l with
  |nil=>intro st x v h;cases h
  |cons o l ih=>intro st x v hx;simp only[Pev.EP];by_cases he:o.dst=x.dst;rw[he,AWi];have hc:∀ d,x.dst=some d→o.dst≠some d:=fun d h1 h2=>he (h2.trans h1.symm);rw[St.put_comm st v .Bo hc];rcases AcH.1 hx with rfl|hx;exact absurd rfl he;exact ih _ x v hx
def IP(E:Env)(o:Oper)(slot:Nat)(st:St)(p:PV)(e:Eff):Prop:=
 o.guard=none∧((∃ x,o.op = .panic x∧Ah st.tmps x = .ifc (some p)∧e = {}) ∨
  ∃ f args ts s,o.op = .call { callee:=.value (.func f),args:=args,argTypes:=ts }∧E.pan f=some s ∧
   ∀ (R:Type) (k:AV→Eff→Option R) (kp:PV→Eff→Option R),s R (args.toList.map (Ah st.tmps)) st.heap st.frz slot k kp=kp p e)
theorem Qa{w:World}{F:Nat→Prop}{m:Mp}{H:List Ob}{ρ:Operand→AV}{a:Act}(hr:∀ x,Rep w F m H (ρ x) (a.eval x))(args:Array Operand):AP w F m H (args.toList.map ρ) (args.map a.eval).toList:=by
 rw[AcI];exact Cm (by simp) fun i c v hc hv=>by
  rw[Ab6]at hc hv;cases hx:args.toList[i]? with
   |none=>rw[hx]at hc;cases hc
   |some x=>rw[hx]at hc hv;cases hc;cases hv;exact hr x
theorem Zg(hP:EL P E){o:Oper}{slot:Nat}{st:St}{p:PV}{e:Eff}(h:IP E o slot st p e){w:World}{F:Nat→Prop}{m:Mp}{a:Act}(hs:SI w F m st a){next:Act→World→Prop}{Q:Exit→Act→World→Prop}
  (hq:∀ w' F' m',Aa w F m st.heap st.frz w' F' m' (Bj e st.heap) (Dc e st.frz)→Q (.panic [Bm p]) a w'):o.wp P a w next Q:=by
 obtain⟨_,⟨x,ho,hx,rfl⟩|⟨f,args,ts,s,ho,hf,hsp⟩⟩:=h;have hr:=Db hs.tmps x;rw[hx]at hr;unfold Rep at hr;unfold Oper.wp;have hrun:(execOp a.eval o).run P w = .halt (.panic (Gz (some p))) w:=by obtain⟨T,l⟩:=p;simp only[Gz]at hr;simp[execOp,ho,hr,Instr.panic,goPanic,Gz]
 rw[hrun];exact hq w F m (Aa.refl hs.heap);obtain h1|h1:=hP f s hf (PV×Eff) (args.toList.map (Ah st.tmps)) st.heap st.frz slot (fun _ _=>none) (fun p e=>some (p,e)) (p,e) (hsp _ _ _);obtain⟨v,e',h2,_⟩:=h1;cases h2;obtain⟨p',e',h2,_,h3,h4⟩:=h1;simp only[AbZ,Abf]at h2;obtain⟨rfl,rfl⟩:=h2;have hcall:=h4 w F m _ hs.heap (Qa (fun x=>Db hs.tmps x) args);rw[AcU]at hcall;unfold Oper.wp;have hrun:(execOp a.eval o).run P w = .ok (.enter f (args.map a.eval)) w:=by simp[execOp,ho,resolve,Act.eval,Deferred.ofValue,invoke,h3 _ w]
 rw[hrun];exact hcall.mono fun en w' ⟨hen,F',m',hg⟩=>by subst hen;exact hq w' F' m' hg
theorem Ez(hP:EL P E){R:Type}{r:R}{o:Oper}{st:St}{slot:Nat}{q:PV⊕(HY×List AV)}(h:NG E (Ah st.tmps) o=some q){k:AV→Eff→Option R}{kp:PV→Eff→Option R}
  (hk:(match q with
   |.inl p=>kp p {}
   |.inr (s,args)=>s R args st.heap st.frz slot k kp)=some r) :
  (∃ p e,kp p e=some r∧IP E o slot st p e∧∀ (R':Type) (k':AV→Eff→Option R') (kp':PV→Eff→Option R'),(match q with
   |.inl p=>kp' p {}
   |.inr (s,args)=>s R' args st.heap st.frz slot k' kp')=kp' p e) ∨
  (∃ s args v e,q = .inr (s,args)∧o.guard=none∧k v e=some r∧(∀ (R':Type) (k':AV→Eff→Option R'),evalOp P E R' o.op o.type (Ah st.tmps) st.heap st.frz slot k'=k' v e) ∧
   ∀ (R':Type) (k':AV→Eff→Option R') (kp':PV→Eff→Option R'),s R' args st.heap st.frz slot k' kp'=k' v e):=by
 unfold NG at h;split at h;cases h;rename_i hg;split at h;rename_i x ho;split at h;rename_i p hx;simp only[AbZ]at h;subst h;exact .inl ⟨p,{},hk,⟨hg,.inl ⟨x,ho,hx,rfl⟩⟩,fun _ _ _=>rfl⟩;cases h;rename_i f args ts ho;split at h;rename_i s hf;simp only[AbZ]at h;subst h;simp only at hk;rcases hP f s hf R _ _ _ _ _ _ _ hk with⟨v,e,h1,h2,h3⟩|⟨p,e,h1,h2,_,_⟩
 refine .inr ⟨s,_,v,e,rfl,hg,h1,fun R' k' => ?_,h2⟩;rw[ho];simp only[evalOp,G4,Ah,AcE];exact h3 R' k';exact .inl ⟨p,e,h1,⟨hg,.inr ⟨f,args,ts,s,ho,hf,h2⟩⟩,h2⟩;cases h;cases h
theorem Zx(hE:∀ g,Ad P g (E.spec g))(hP:EL P E){R:Type}{r:R}{dr:Bool}{all:List Oper}:∀ (rest:List Oper) (fp:List (List Nat)) (slot:Nat) (st:St) (k:Exit→St→Option R),Bc P E R dr all rest fp slot st k=some r →
  ∃ e st',k e st'=some r∧∀ (R':Type) (k':Exit→St→Option R'),Bc P E R' dr all rest fp slot st k'=k' e st':=by
 intro rest;induction rest with
  |nil=>intro fp slot st k h;exact⟨_,_,h,fun _ _=>rfl⟩
  |cons o rest ih=>
   intro fp slot st k h;simp only[Bc]at h;cases hpo:NG E (Ah st.tmps) o with
    |none=>
     rw[hpo]at h;cases dr with
      |true=>obtain⟨s1,h1,h2⟩:=Sp hE h;obtain⟨e,s2,h3,h4⟩:=ih _ _ _ _ h1;exact⟨e,s2,h3,fun R' k'=>by simp only[Bc,hpo];rw[h2];exact h4 R' k'⟩
      |false=>
       obtain⟨s1,h1⟩:=Ir h;rcases h1 with⟨h1,h2⟩|⟨h1,h2⟩
       obtain⟨v,e,h3,h4,_⟩:=DP hE o.op _ _ _ _ _ _ _ r h1;obtain⟨e2,s2,h5,h6⟩:=ih _ _ _ _ h3;exact⟨e2,s2,h5,fun R' k'=>by simp only[Bc,hpo];rw[h2,h4];exact h6 R' k'⟩;obtain⟨e2,s2,h5,h6⟩:=ih _ _ _ _ h1;exact⟨e2,s2,h5,fun R' k'=>by simp only[Bc,hpo];rw[h2];exact h6 R' k'⟩
    |some q=>
     rw[hpo]at h;cases q with
      |inl p=>exact⟨_,_,h,fun R' k'=>by simp only[Bc,hpo]⟩
      |inr sa=>
       obtain⟨s,args⟩:=sa;simp only at h;rcases Ez hP (q:=.inr (s,args)) hpo h with⟨p,e,h1,_,h3⟩|⟨s',args',v,e,h0,_,h1,_,h3⟩
       exact⟨_,_,h1,fun R' k'=>by simp only[Bc,hpo];exact h3 R' _ _⟩;cases h0;split at h1;rename_i hc;obtain⟨e2,s2,h5,h6⟩:=ih _ _ _ _ h1;exact⟨e2,s2,h5,fun R' k'=>by simp only[Bc,hpo];rw[h3];simp only[hc];exact h6 R' k'⟩;cases h1
theorem He{ops:Array Oper}{Q:Exit→Act→World→Prop}{i:Nat}{rest:List Nat}{a:Act}{w:World}{o:Oper}(ho:ops[i]? = some o)(hg:o.guard=none)(h:o.wp P a w (wpOps P ops Q rest) Q):wpOps P ops Q (i::rest) a w:=by simp only[wpOps,ho];rw[AcO (by simp[Region.wanted,hg])];exact .inl h
theorem Zw(hE:∀ g,Ad P g (E.spec g))(hP:EL P E){ops:Array Oper}{Q:Exit→Act→World→Prop}{e:Exit}{st':St}:∀ (rest pre:List Oper) (fp:List (List Nat)) (slot:Nat) (st:St) (w:World) (F:Nat→Prop) (m:Mp) (a:Act),ops.toList=pre++rest →
  Bc P E (Exit×St) false ops.toList rest fp slot st (fun e s=>some (e,s))=some (e,st')→SI w F m st a →
  (∀ a' w' F' m',SI w' F' m' st' a'→Ext w F m st.heap st.frz w' F' m' st'.heap st'.frz→Q e a' w')→wpOps P ops Q (List.range' pre.length rest.length) a w:=by
 intro rest;induction rest with
  |nil=>intro pre fp slot st w F m a _ h hs hq;simp only[Bc,AbZ,Abf]at h;obtain⟨rfl,rfl⟩:=h;exact hq a w F m hs (Ext.refl ..)
  |cons o rest ih=>
   intro pre fp slot st w F m a hops h hs hq;have hget:ops[pre.length]? = some o:=by rw[← AcG,hops];simp
   have hops':ops.toList=(pre++[o])++rest:=by rw[hops];simp
   have hlen:(pre++[o]).length=pre.length+1:=by simp
   rw[Abz,Acs];simp only[Bc]at h;cases hpo:NG E (Ah st.tmps) o with
    |none=>
     rw[hpo]at h;simp only at h;simp only[wpOps,hget];obtain⟨s1,hs',e1,e2,hh⟩:=Kf hs h;rcases hh with⟨hw,hy⟩|⟨hw,hn⟩
     rw[AcO hw];left;obtain⟨v,ef,h1,_,h3⟩:=DP hE o.op _ _ _ _ _ _ _ _ hy;refine h3 w F m a o _ Q rfl rfl hs'.heap (fun x=>Db hs'.tmps x) fun u w' F' m' hg hr => ?_;have hs2:=(hs'.go hg).put hr o.dst;have:=ih (pre++[o]) _ _ _ w' F' m' (a.put o.dst u) hops' h1 hs2 fun a' w'' F2 m2 q2 q3=>hq a' w'' F2 m2 q2 (by have hx:=hg.1;rw[e1,e2]at hx;refine hx.trans ?_;have hh:=DY (s1.app ef) o.dst v;rw[hh.1,hh.2]at q3;simp only[St.app,e1,e2]at q3;exact q3)
     rw[hlen]at this;exact this;rw[Acg (by simp[hw])];have hs2:SI w F m (s1.put o.dst A6) (a.put o.dst undef):=hs'.put K0 o.dst;have:=ih (pre++[o]) _ _ _ w F m (a.put o.dst undef) hops' hn hs2 fun a' w'' F2 m2 q2 q3=>hq a' w'' F2 m2 q2 (by have hh:=DY s1 o.dst A6;rw[hh.1,hh.2,e1,e2]at q3;exact q3)
     rw[hlen]at this;exact this
    |some q=>
     rw[hpo]at h;have stop:∀ p ef,IP E o slot st p ef→e = .panic [Bm p]→st'=st.app ef→wpOps P ops Q (pre.length::List.range' (pre.length+1) rest.length) a w:=by intro p ef hst he hst';subst he;subst hst';refine He hget hst.1 (Zg hP hst hs fun w' F' m' hg => ?_);exact hq a w' F' m' (hs.go hg) hg.1
     cases q with
      |inl p=>
       simp only[AbZ,Abf]at h;rcases Ez hP (R:=Unit) (r:=()) (slot:=slot) (k:=fun _ _=>none) (kp:=fun p' e'=>some ()) (q:=.inl p) hpo rfl with⟨p',ef,_,h2,h3⟩|⟨_,_,_,_,h0,_⟩
       have h4:=h3 (PV×Eff) (fun _ _=>none) fun p e=>some (p,e);simp only[AbZ,Abf]at h4;obtain⟨rfl,rfl⟩:=h4;exact stop p {} h2 h.1.symm h.2.symm;cases h0
      |inr sa=>
       obtain⟨s,args⟩:=sa;simp only at h;rcases Ez hP (q:=.inr (s,args)) hpo h with⟨p,ef,h1,h2,_⟩|⟨s',args',v,ef,h0,hg,h1,h2,_⟩
       simp only[AbZ,Abf]at h1;exact stop p ef h2 h1.1.symm h1.2.symm;simp only[Bool.not_false,Bool.true_or]at h1;obtain⟨v',e',c1,_,c3⟩:=DP hE o.op (AV×Eff) o.type (Ah st.tmps) st.heap st.frz slot (fun v e=>some (v,e)) (v,ef) (h2 _ _);simp only[AbZ,Abf]at c1;obtain⟨rfl,rfl⟩:=c1;refine He hget hg (c3 w F m a o _ Q rfl rfl hs.heap (fun x=>Db hs.tmps x) fun u w' F' m' hgo hr => ?_);have hs2:=(hs.go hgo).put hr o.dst;have:=ih (pre++[o]) _ _ _ w' F' m' (a.put o.dst u) hops' h1 hs2 fun a' w'' F2 m2 q2 q3=>hq a' w'' F2 m2 q2 (by refine hgo.1.trans ?_;have hh:=DY (st.app e') o.dst v';rw[hh.1,hh.2]at q3;exact q3)
       rw[hlen]at this;exact this
theorem ARO{o:Oper}{φ:List Nat}{st:St}{slot n:Nat}{e:Eff}(hw:ARP E o φ st=true)(he:(Hl φ||Lr (writer o.op||IU φ) φ slot n e)=true):Hl φ=true∨(Kn E st.heap (Ah st.tmps) o.op φ∧Lr (writer o.op||IU φ) φ slot n e=true):=by unfold ARP at hw;simp only[AcC,Aba]at hw;rw[AcC]at he;rcases hw with hw|hw;exact .inl hw;rcases he with he|he;exact .inl he;refine .inr ⟨?_,he⟩;rcases hw with hw|hw;exact .inl hw;exact .inr ⟨hw.2.1.1,hw.2.1.2,hw.2.2⟩
theorem ASY{o:Oper}{ρ:Operand→AV}{q:PV⊕(HY×List AV)}(h:NG E ρ o=some q):NH E [o]=true:=by unfold NG at h;unfold NH;split at h;cases h;split at h;rename_i x ho;simp[ho];rename_i f args ts ho;split at h;rename_i s hf;simp[ho,hf];cases h;cases h
theorem RY(hE:∀ g,Ad P g (E.spec g))(hP:EL P E){all:List Oper}{fp:List (List Nat)}{base:Nat}{e:Exit}{st':St}:∀ (rest pre:List Oper) (fp':List (List Nat)) (slot:Nat) (st:St),
  all=pre++rest→fp'=fp.drop pre.length→slot=Aw all base pre.length→Bc P E (Exit×St) true all rest fp' slot st (fun e s=>some (e,s))=some (e,st') →
  (e = .normal∧FV P E all (fun i=>fp.getD i []) (Aw all base) (List.range' pre.length rest.length) st st') ∨
  ∃ n o p ef st1,all[pre.length+n]? = some o∧NH E [o]=true∧FV P E all (fun i=>fp.getD i []) (Aw all base) (List.range' pre.length n) st st1∧IP E o (Aw all base (pre.length+n)) st1 p ef∧e = .panic [Bm p]∧st'=EP all (st1.app ef):=by
 intro rest;induction rest with
  |nil=>intro pre fp' slot st _ _ _ h;simp only[Bc,AbZ,Abf]at h;exact .inl ⟨h.1.symm,h.2⟩
  |cons o rest ih=>
   intro pre fp' slot st hall hfp hsl h;have hlen:(pre++[o]).length=pre.length+1:=by simp
   have hfp1:fp'.headD []=fp.getD pre.length []:=by rw[hfp,Abi,AdX,AdW]
   have hfp2:fp'.tail=fp.drop (pre++[o]).length:=by rw[hfp,hlen,List.tail_drop]
   have hs2:slot+slotsOf o.op=Aw all base (pre++[o]).length:=by
    rw[hsl,hlen];unfold Aw;have e1:all.take (pre.length+1)=pre++[o]:=by rw[hall,Aci,AcD (by omega)];simp
    have e2:all.take pre.length=pre:=by rw[hall];simp
    rw[e1,e2,GB];simp[Bn];omega
   have ho:all[pre.length]? = some o:=by rw[hall];simp
   have go:∀ s1,Bv P E all o (fp'.headD []) slot st s1→Bc P E (Exit×St) true all rest fp'.tail (slot+slotsOf o.op) s1 (fun e s=>some (e,s))=some (e,st') →
     (e = .normal∧FV P E all (fun i=>fp.getD i []) (Aw all base) (List.range' pre.length (o::rest).length) st st') ∨
     ∃ n o p ef st1,all[pre.length+n]? = some o∧NH E [o]=true∧FV P E all (fun i=>fp.getD i []) (Aw all base) (List.range' pre.length n) st st1∧IP E o (Aw all base (pre.length+n)) st1 p ef∧e = .panic [Bm p]∧st'=EP all (st1.app ef):=by
    intro s1 h1 h2
    rw[hfp1,hsl]at h1
    rcases ih (pre++[o]) _ _ s1 (by rw[hall];simp) hfp2 hs2 h2 with⟨he,hc⟩|⟨n,o2,p,ef,st1,g1,g2,g3,g4,g5⟩
    ·rw[hlen]at hc
     exact .inl ⟨he,by rw[Abz,Acs];exact⟨o,s1,ho,h1,hc⟩⟩
    ·rw[hlen]at g1 g3 g4
     refine .inr ⟨n+1,o2,p,ef,st1,by rw[← g1];congr 1;omega,g2,by rw[Acs];exact⟨o,s1,ho,h1,g3⟩,by rw[show pre.length+(n+1)=pre.length+1+n by omega];exact g4,g5⟩
   simp only[Bc]at h;cases hpo:NG E (Ah st.tmps) o with
    |none=>rw[hpo]at h;simp only at h;obtain⟨s1,h1,h2⟩:=PH hE h;exact go s1 h1 h2
    |some q=>
     rw[hpo]at h
     have stop:∀ p ef,IP E o slot st p ef→e = .panic [Bm p]→st'=EP all (st.app ef)→∃ n o p ef st1,all[pre.length+n]? = some o∧NH E [o]=true∧FV P E all (fun i=>fp.getD i []) (Aw all base) (List.range' pre.length n) st st1∧IP E o (Aw all base (pre.length+n)) st1 p ef∧e = .panic [Bm p]∧st'=EP all (st1.app ef):=
      fun p ef h1 h2 h3=>⟨0,o,p,ef,st,ho,ASY hpo,rfl,by rw[Acj,← hsl];exact h1,h2,h3⟩
     cases q with
      |inl p=>
       simp only[AbZ,Abf]at h;rcases Ez hP (R:=Unit) (r:=()) (slot:=slot) (k:=fun _ _=>none) (kp:=fun p' e'=>some ()) (q:=.inl p) hpo rfl with⟨p',ef,_,h2,h3⟩|⟨_,_,_,_,h0,_⟩
       have h4:=h3 (PV×Eff) (fun _ _=>none) fun p e=>some (p,e);simp only[AbZ,Abf]at h4;obtain⟨rfl,rfl⟩:=h4;exact .inr (stop p {} h2 h.1.symm h.2.symm);cases h0
      |inr sa=>
       obtain⟨s,args⟩:=sa;simp only at h;rcases Ez hP (q:=.inr (s,args)) hpo h with⟨p,ef,h1,h2,_⟩|⟨s',args',v,ef,h0,hg,h1,h2,_⟩
       simp only[AbZ,Abf]at h1;exact .inr (stop p ef h2 h1.1.symm h1.2.symm);split at h1;rename_i hc;simp only[AdS,Acy,Aba]at hc;exact go _ (.inl ⟨by rw[hg];rfl,v,ef,ARO hc.1 hc.2,h2,rfl⟩) h1;cases h1
theorem AOh{all:List Oper}{fp:Nat→List Nat}{sl:Nat→Nat}:∀ (l l':List Nat) (st s1 s2:St),FV P E all fp sl l st s1→FV P E all fp sl l' s1 s2→FV P E all fp sl (l++l') st s2:=by
 intro l;induction l with
  |nil=>intro l' st s1 s2 h k;have h:st=s1:=h;subst h;exact k
  |cons i l ih=>intro l' st s1 s2 ⟨o,s,h1,h2,h3⟩ k;exact⟨o,s,h1,h2,ih l' s s1 s2 h3 k⟩
theorem Zc{all:List Oper}{fp:Nat→List Nat}{sl:Nat→Nat}{y:Oper}:∀ (l:List Nat) (st s1:St),(∀ j∈l,∀ x,all[j]? = some x→CP x.op=true∧apart? all x y=true)→FV P E all fp sl l st s1 →
  s1.heap=st.heap∧s1.frz=st.frz∧(∀ z∈y.op.operands,Ah s1.tmps z=Ah st.tmps z)∧∀ ef,EP all (s1.app ef)=EP all (st.app ef):=by
 intro l;induction l with
  |nil=>intro st s1 _ h;have h:st=s1:=h;subst h;exact⟨rfl,rfl,fun _ _=>rfl,fun _=>rfl⟩
  |cons j l ih=>
   intro st s1 hl ⟨x,s,hx,h1,h2⟩;obtain⟨he,hap⟩:=hl j (by simp) x hx;obtain⟨k1,k2,k3,k4⟩:=ih s s1 (fun i hi=>hl i (by simp[hi])) h2;have key:∃ v,s=st.put x.dst v:=by
    rcases h1 with⟨_,v,e,_,b3,rfl⟩|⟨_,rfl⟩
    have:=Iy he _ _ _ _ _ b3;subst this;exact⟨v,rfl⟩;exact⟨_,rfl⟩
   obtain⟨v,rfl⟩:=key;refine⟨k1.trans (DY ..).1,k2.trans (DY ..).2,fun z hz=>(k3 z hz).trans (BW hap st v z hz),fun ef=>(k4 ef).trans ?_⟩;rw[St.Fj];exact TU all _ x v (Abj hx)
theorem IP.congr{y:Oper}{slot:Nat}{st s1:St}{p:PV}{ef:Eff}(h:IP E y slot s1 p ef)(h1:s1.heap=st.heap)(h2:s1.frz=st.frz)(h3:∀ z∈y.op.operands,Ah s1.tmps z=Ah st.tmps z):IP E y slot st p ef:=by obtain⟨hg,⟨x,ho,hx,he⟩|⟨f,args,ts,s,ho,hf,hs⟩⟩:=h;exact⟨hg,.inl ⟨x,ho,by rw[← h3 x (by rw[ho];simp[Op.operands])];exact hx,he⟩⟩;refine⟨hg,.inr ⟨f,args,ts,s,ho,hf,fun R k kp => ?_⟩⟩;have:args.toList.map (Ah st.tmps)=args.toList.map (Ah s1.tmps):=Hs fun x hx=>(h3 x (by rw[ho];simp[Op.operands,Call.operands];right;simpa using hx)).symm;rw[this,← h1,← h2];exact hs R k kp
theorem ABu(hE:∀ g,Ad P g (E.spec g))(hL:DG E)(hP:EL P E){ops:Array Oper}{fp:Nat→List Nat}{base:Nat}{Q:Exit→Act→World→Prop}{st':St}{p:Nat}{y:Oper}{pv:PV}{ef:Eff}(hy:ops.toList[p]? = some y)
  (hok:∀ i y,ops.toList[i]? = some y→(∀ e∈y.after.toList,Region.binds .any e=true→e.on<i) ∧
   ∀ j x,j<i→ops.toList[j]? = some x→reach ops.toList 8 y j=true∨indep ops.toList x y (fp j) (fp i) (Aw ops.toList base j) (Aw ops.toList base i)=true)
  (hpre:∀ j x,j<p→ops.toList[j]? = some x→reach ops.toList 8 y j=true∨CP x.op=true)
  (hpost:∀ j x,p<j→ops.toList[j]? = some x→reach ops.toList 8 x p=true∨(x.guard=none∧∃ z,x.op = .move z)) :
  ∀ (fuel:Nat) (listed:Array Bool) (st st1:St) (w:World) (F:Nat→Prop) (m:Mp) (a:Act),listed.size=ops.size→Mz ops.toList (fun i=>listed.getD i false)→(AU ops.size listed).length≤fuel→p∈AU ops.size listed→SI w F m st a →
   FV P E ops.toList fp (Aw ops.toList base) ((AU ops.size listed).filter fun j=>decide (j<p)) st st1→IP E y (Aw ops.toList base p) st1 pv ef→st'=EP ops.toList (st1.app ef) →
   (∀ a' w' F' m',SI w' F' m' st' a'→Ext w F m st.heap st.frz w' F' m' st'.heap st'.frz→Q (.panic [Bm pv]) a' w')→wpAny P .any ops Q fuel listed a w:=by
 intro fuel;have hready:∀ (listed:Array Bool) (i:Nat),i∈Region.ready .any ops listed↔i∈AU ops.size listed∧((ops[i]?).map (·.after.all fun e => !Region.binds .any e||listed.getD e.on false)).getD false=true:=by intro listed i;unfold Region.ready AU;simp only[AcM,Aba,List.mem_range];exact⟨fun ⟨h1,h2,h3⟩=>⟨⟨h1,h2⟩,h3⟩,fun ⟨⟨h1,h2⟩,h3⟩=>⟨h1,h2,h3⟩⟩
 induction fuel with
  |zero=>intro listed st st1 w F m a hsz hcl hl hp hs hc hst hst' hq;have h0:AU ops.size listed=[]:=Abh (by omega);rw[h0]at hp;cases hp
  |succ fuel ih=>
   intro listed st st1 w F m a hsz hcl hl hp hs hc hst hst' hq;have unl:∀ {j:Nat},j∈AU ops.size listed→listed.getD j false=false:=by
    intro j hj;unfold AU at hj;rw[AcM]at hj;have hjl:j<listed.size:=by have:=hj.1;simp at this;omega
    have h3:=hj.2;rw[Abm,Abw hjl]at h3 ⊢;simpa using h3
   refine⟨fun hnil => ?_,fun i hi => ?_⟩;exfalso;cases hu:AU ops.size listed with
    |nil=>rw[hu]at hp;cases hp
    |cons i l=>
     have hmem:i∈AU ops.size listed:=by rw[hu];simp
     have hin:i<ops.size:=by unfold AU at hmem;simpa using (AcM.1 hmem).1
     have:i∈Region.ready .any ops listed:=by
      refine(hready listed i).2 ⟨hmem,?_⟩;rw[Abw hin];simp only[Aco,AcV];rw[← Adc,Abk];intro e he;cases hb:Region.binds .any e with
       |false=>rfl
       |true=>
        have hlt:=(hok i ops[i] (by simp[hin])).1 e he hb;simp only[AdS,Acy];cases hg:listed.getD e.on false with
         |true=>rfl
         |false=>
          exfalso;have hon:e.on<ops.size:=by omega
          have:e.on∈AU ops.size listed:=by
           unfold AU;rw[AcM];refine⟨by simpa using hon,?_⟩;have hlt':e.on<listed.size:=by omega
           rw[Abm,Abw hlt']at hg ⊢;simpa using hg
          rw[hu]at this;have hpw:(AU ops.size listed).Pairwise (· < ·):=AdR _ AdZ
          rw[hu,List.pairwise_cons]at hpw;rcases AcH.1 this with h|h;omega;have:=hpw.1 _ h;omega
     rw[hnil]at this;cases this
   obtain⟨hmem,hrd⟩:=(hready listed i).1 hi;have hin:i<ops.size:=by unfold AU at hmem;simpa using (AcM.1 hmem).1
   obtain⟨l1,l2,hsplit⟩:=List.append_of_mem hmem;have hgi:ops[i]? = some ops[i]:=Abw hin;have hgl:ops.toList[i]? = some ops[i]:=by simp[hin]
   rw[hgi]at hrd;simp only[Aco,AcV]at hrd;rw[← Adc,Abk]at hrd;have hall:∀ e∈(ops[i]).after.toList,Region.binds .any e=true→(fun i=>listed.getD i false) e.on=true:=by intro e he hb;have:=hrd e he;rw[hb]at this;simpa using this
   have noreach:∀ j,j∈AU ops.size listed→reach ops.toList 8 ops[i] j=true→False:=by intro j hj h;have h1:=K4 hcl 8 _ j hall h;have h2:=unl hj;have h1:listed.getD j false=true:=h1;rw[h2]at h1;cases h1
   have hnext:=Kw hsz l1 l2 hsplit;have hlen:(AU ops.size (listed.setIfInBounds i true)).length≤fuel:=by rw[hnext];rw[hsplit]at hl;simp only[Abl,Abz]at hl ⊢;omega
   have hcl2:Mz ops.toList (fun k=>(listed.setIfInBounds i true).getD k false):=by
    have hset:∀ k,(listed.setIfInBounds i true).getD k false=true↔(k=i∨listed.getD k false=true):=by
     intro k;have hil:i<listed.size:=by omega
     rw[Abm,Abm,Array.getElem?_setIfInBounds];by_cases hki:i=k;subst hki;simp[hil];simp[hki,Ab9 hki]
    intro k z hz hk e he hb;simp only[hset]at hk ⊢;right;rcases hk with rfl|hk;rw[hgl]at hz;cases hz;exact hall e he hb;exact hcl k z hz hk e he hb
   have before:∀ j∈(AU ops.size listed).filter (fun j=>decide (j<p)),j∈AU ops.size listed∧j<p:=by intro j hj;rw[AcM]at hj;exact⟨hj.1,by simpa using hj.2⟩
   rcases Nat.lt_trichotomy i p with hip|hip|hip;-- one ahead of it
   have hub:(AU ops.size listed).filter (fun j=>decide (j<p))=l1.filter (fun j=>decide (j<p))++i::l2.filter (fun j=>decide (j<p)):=by rw[hsplit,Ac3,List.filter_cons];simp[hip]
   rw[hub]at hc;obtain⟨z,s1,hz,h1,h2⟩:=I9 hL hgl _ _ st st1 (fun j hj=>by have hj1:j∈l1:=(AcM.1 hj).1;have hji:=II hsplit j hj1;refine⟨hji,fun x hx => ?_⟩;rcases(hok i _ hgl).2 j x hji hx with h|h;exact(noreach j (by rw[hsplit];simp[hj1]) h).elim;exact h) hc
   rw[hgl]at hz;cases hz;have hp2:p∈AU ops.size (listed.setIfInBounds i true):=by rw[hnext];rw[hsplit]at hp;simp only[Abt,AcH]at hp ⊢;rcases hp with h|h|h;exact .inl h;omega;exact .inr h
   exact Vv hE hgi h1 hs fun a' w' F' m' hs2 hx=>ih _ s1 st1 w' F' m' a' (by simp[hsz]) hcl2 hlen hp2 hs2 (by rw[hnext,Ac3];exact h2) hst hst' fun a' w2 F2 m2 q1 q2=>hq a' w2 F2 m2 q1 (hx.trans q2);-- it
   subst hip;rw[hgl]at hy;cases hy;obtain⟨k1,k2,k3,k4⟩:=Zc (y:=ops[i]) _ st st1 (fun j hj x hx=>by obtain⟨hj1,hj2⟩:=before j hj;refine⟨?_,?_⟩;rcases hpre j x hj2 hx with h|h;exact(noreach j hj1 h).elim;exact h;rcases(hok i _ hgl).2 j x hj2 hx with h|h;exact(noreach j hj1 h).elim;exact(Il h).1) hc
   have hst2:=hst.congr k1 k2 k3;unfold wpOp;rw[hgi];simp only;rw[AcO (by simp[Region.wanted,hst2.1])];left;refine Zg hP hst2 hs fun w' F' m' hg => ?_;have hj:=AGC ops.toList (st.app ef);rw[k4]at hst';subst hst';refine hq a w' F' m' ((hs.go hg).EP _) ?_;rw[hj.1,hj.2];exact hg.1;-- a move that stands behind it
   obtain⟨hg0,z,hzo⟩:ops[i].guard=none∧∃ z,ops[i].op = .move z:=by rcases hpost i _ hip hgl with h|h;exact(noreach p hp h).elim;exact h
   have hev:∃ v,∀ (R:Type) (k:AV→Eff→Option R),evalOp P E R ops[i].op ops[i].type (Ah st1.tmps) st1.heap st1.frz (Aw ops.toList base i) k=k v {}:=by rw[hzo];simp only[evalOp];split;exact⟨_,fun _ _=>rfl⟩;exact⟨_,fun _ _=>rfl⟩
   obtain⟨v,hv⟩:=hev;have hs1:Bv P E ops.toList ops[i] (fp i) (Aw ops.toList base i) st1 (st1.put ops[i].dst v):=by refine .inl ⟨by rw[hg0];rfl,v,{},.inr ⟨.inr ⟨?_,?_,?_⟩,?_⟩,hv,rfl⟩;rw[hzo];rfl;rw[hzo];rfl;rw[hzo];rfl;rfl
   have hc2:=AOh _ [i] st st1 (st1.put ops[i].dst v) hc ⟨ops[i],_,hgl,hs1,rfl⟩;obtain⟨z',s1,hz',h1,h2⟩:=I9 hL hgl _ [] st _ (fun j hj=>by obtain⟨hj1,hj2⟩:=before j hj;refine⟨by omega,fun x hx => ?_⟩;rcases(hok i _ hgl).2 j x (by omega) hx with h|h;exact(noreach j hj1 h).elim;exact h) hc2
   rw[hgl]at hz';cases hz';rw[AcE]at h2;have hub:(AU ops.size (listed.setIfInBounds i true)).filter (fun j=>decide (j<p))=(AU ops.size listed).filter (fun j=>decide (j<p)):=by
    rw[hnext,hsplit,Ac3,Ac3,List.filter_cons];have:¬ i<p:=by omega
    simp[this]
   have hp2:p∈AU ops.size (listed.setIfInBounds i true):=by rw[hnext];rw[hsplit]at hp;simp only[Abt,AcH]at hp ⊢;rcases hp with h|h|h;exact .inl h;omega;exact .inr h
   have hap:apart? ops.toList ops[i] y=true:=by rcases(hok i _ hgl).2 p y hip hy with h|h;exact(noreach p hp h).elim;exact GR (Il h).1
   have hst2:IP E y (Aw ops.toList base p) (st1.put ops[i].dst v) pv ef:=hst.congr (DY ..).1.symm (DY ..).2.symm fun z hz=>(BW hap st1 v z hz).symm;have hj:st'=EP ops.toList ((st1.put ops[i].dst v).app ef):=by rw[hst',St.Fj,TU _ _ _ _ (Abj hgl)]
   exact Vv hE hgi h1 hs fun a' w' F' m' hs2 hx=>ih _ s1 _ w' F' m' a' (by simp[hsz]) hcl2 hlen hp2 hs2 (by rw[hub];exact h2) hst2 hj fun a' w2 F2 m2 q1 q2=>hq a' w2 F2 m2 q1 (hx.trans q2)
theorem AAc{all:List Oper}{i:Nat}{o:Oper}(h:AJJ E all i o=true)(hp:NH E [o]=true):(∀ j x,j<i→all[j]? = some x→reach all 8 o j=true∨CP x.op=true) ∧
  ∀ j x,i<j→all[j]? = some x→reach all 8 x i=true∨(x.guard=none∧∃ z,x.op = .move z):=by
 unfold AJJ at h;rw[hp]at h;simp only[Abk,List.mem_range]at h;refine⟨fun j x hj hx => ?_,fun j x hj hx => ?_⟩;have:=h j (Ac7.1 hx).1;rw[hx]at this;simp only[hj,Aby,AcC]at this;exact this;have:=h j (Ac7.1 hx).1;rw[hx]at this;have h1:¬ j<i:=by omega
 have h2:¬ j=i:=by omega
 simp only[h1,h2,Acb,Acy,AcC,Aba,Option.isNone_iff_eq_none]at this;rcases this with h|⟨h,h3⟩
 exact .inl h;refine .inr ⟨h,?_⟩;split at h3;rename_i z hz;exact⟨z,hz⟩;cases h3
theorem RW(hE:∀ g,Ad P g (E.spec g))(hL:DG E)(hP:EL P E){R:Type}{r:R}{id:Nat}{fp:List (List Nat)}{dr:Bool}{ops:Array Oper}{st:St}{k:Exit→St→Option R}(h:GA P E R fp dr ops.toList st k=some r):
  ∃ e st',k e st'=some r∧(∀ (R':Type) (k':Exit→St→Option R'),GA P E R' fp dr ops.toList st k'=k' e st') ∧
   ∀ (w:World) (F:Nat→Prop) (m:Mp) (a:Act) (Q:Exit→Act→World→Prop),SI w F m st a→(∀ a' w' F' m',SI w' F' m' st' a'→Ext w F m st.heap st.frz w' F' m' st'.heap st'.frz→Q e a' w')→(Code.region id ops dr).wp P Q a w:=by
 unfold GA at h;rw[J1]at h;split at h;rename_i hok;obtain⟨e,st',h1,h2⟩:=Zx hE hP _ _ _ _ _ h;refine⟨e,st',h1,fun R' k'=>by unfold GA;rw[J1,hok];exact h2 R' k',fun w F m a Q hs hq => ?_⟩;have h3:=h2 (Exit×St) fun e s=>some (e,s);cases dr with
  |false=>obtain⟨hs2,he2⟩:=hs.pad (Bn ops.toList);have:=Zw hE hP ops.toList [] _ _ _ w F m a (by simp) h3 hs2 fun a' w' F' m' q1 q2=>hq a' w' F' m' q1 (he2.trans q2);rw[AcF,Abe,← Ac8]at this;exact wp_region this
  |true=>
   simp only[AdS,Acy,Aba]at hok;obtain⟨hm,hok,hpan⟩:=hok;obtain⟨hs1,he1⟩:=hs.drew;obtain⟨hs2,he2⟩:=hs1.pad (Bn ops.toList);have hnn:ops.toList=[]++ops.toList:=by simp
   refine wp_region_any hm ?_;have hu:AU ops.size (Array.replicate ops.size false)=List.range' 0 ops.toList.length:=by
    unfold AU;rw[Abe,← Ac8];rw[AdB];intro i hi;have:i<ops.size:=by simpa using hi
    simp[Abm,this]
   have hcl:Mz ops.toList (fun i=>(Array.replicate ops.size false).getD i false):=fun k z _ hk=>by exfalso;have hk:(Array.replicate ops.size false).getD k false=true:=hk;rw[Abm,Array.getElem?_replicate]at hk;split at hk<;>cases hk
   have hpairs:=fun i y hy=>K9 (all:=ops.toList) (fp:=fp) (base:=st.heap.length) ops.toList [] fp _ [] hnn rfl (by simp[Aw,Bn]) (fun j x hj=>by simp at hj) hok i y (Nat.zero_le _) hy;rcases RY hE hP (all:=ops.toList) (fp:=fp) (base:=st.heap.length) ops.toList [] fp st.heap.length _ hnn rfl (by simp[Aw,Bn]) h3 with⟨rfl,hc⟩|⟨n,o,p,ef,st1,g1,g2,g3,g4,rfl,g6⟩
   exact Tu (ops:=ops) hE hL (fp:=fun i=>fp.getD i []) (base:=st.heap.length) (st':=st') hpairs ops.size _ _ w.drew F m a (by simp) hcl (by rw[hu];simp) hs2 (by rw[hu];exact hc) fun a' w' F' m' q1 q2=>hq a' w' F' m' q1 (he1.trans (he2.trans q2));simp only[AcF,Ab5]at g1 g3 g4;have hn:n<ops.toList.length:=(Ac7.1 g1).1;have hpn:AJJ E ops.toList n o=true:=by rw[Abk]at hpan;have:=hpan n (by simpa using hn);rw[g1]at this;exact this
   obtain⟨o1,o2⟩:=AAc hpn g2;refine ABu hE hL hP (ops:=ops) (fp:=fun i=>fp.getD i []) (base:=st.heap.length) g1 hpairs o1 o2 ops.size _ _ st1 w.drew F m a (by simp) hcl (by rw[hu];simp) ?_ hs2 ?_ g4 g6 fun a' w' F' m' q1 q2=>hq a' w' F' m' q1 (he1.trans (he2.trans q2));rw[hu,AdY];omega;have:(List.range' 0 ops.toList.length).filter (fun j=>decide (j<n))=List.range' 0 n:=by
    have h1:List.range' 0 ops.toList.length=List.range' 0 n++List.range' n (ops.toList.length-n):=by have h2:=List.range'_append_1 (s:=0) (m:=n) (n:=ops.toList.length-n);rw[Ab5]at h2;rw[h2];congr 1;omega
    rw[h1,Ac3,AdB.2,List.filter_eq_nil_iff.2,AcE];intro j hj;rw[AdY]at hj;simp;omega;intro j hj;rw[AdY]at hj;simpa using hj.2
   rw[hu,this];exact g3
 cases h
end
end Go.Pev
end
section
namespace Go.Pev
open Go.RowKit
section
variable [DfI] {P:Program} {E:Env} {h:Hints}
theorem PW(hE:∀ g,Ad P g (E.spec g)){R:Type}{r:R}{all:List Oper}:∀ (ops:List Oper) (slot:Nat) (st:St) (k:St→Option R),D4 P E R all ops slot st k=some r →
  ∃ st',k st'=some r∧∀ (R':Type) (k':St→Option R'),D4 P E R' all ops slot st k'=k' st':=by
 intro ops;induction ops with
  |nil=>intro slot st k h;exact⟨st,h,fun _ _=>rfl⟩
  |cons o ops ih=>
   intro slot st k h;simp only[D4]at h;obtain⟨st1,h1⟩:=Ir h;rcases h1 with⟨h1,h2⟩|⟨h1,h2⟩
   obtain⟨v,e,h3,h4,_⟩:=DP hE o.op _ _ _ _ _ _ _ r h1;obtain⟨st2,h5,h6⟩:=ih _ _ _ h3;exact⟨st2,h5,fun R' k'=>by simp only[D4];rw[h2,h4];exact h6 R' k'⟩;obtain⟨st2,h5,h6⟩:=ih _ _ _ h1;exact⟨st2,h5,fun R' k'=>by simp only[D4];rw[h2];exact h6 R' k'⟩
theorem Zy(hE:∀ g,Ad P g (E.spec g)){R:Type}{r:R}{all:List Oper}:∀ (ops:List Oper) (fp:List (List Nat)) (slot:Nat) (st:St) (k:St→Option R),Gb P E R all ops fp slot st k=some r →
  ∃ st',k st'=some r∧∀ (R':Type) (k':St→Option R'),Gb P E R' all ops fp slot st k'=k' st':=by
 intro ops;induction ops with
  |nil=>intro fp slot st k h;exact⟨st,h,fun _ _=>rfl⟩
  |cons o ops ih=>intro fp slot st k h;simp only[Gb]at h;obtain⟨st1,h1,h2⟩:=Sp hE h;obtain⟨st2,h5,h6⟩:=ih _ _ _ _ h1;exact⟨st2,h5,fun R' k'=>by simp only[Gb];rw[h2];exact h6 R' k'⟩
def AbR(P:Program)(np:Nat)(c:Code)(st:St)(e:Exit)(st':St):Prop:=
 ∀ (w:World) (F:Nat→Prop) (m:Mp) (a:Act) (Q:Exit→Act→World→Prop),SI w F m st a →
  (∀ a' w' F' m',SI w' F' m' st' a'→Fl np w F m st.heap st.frz w' F' m' st'.heap st'.frz→Q e a' w')→c.wp P Q a w
def GU(P:Program)(np:Nat)(c:Code)(go:(R:Type)→St→(Exit→St→Option R)→Option R):Prop:=
 ∀ (R:Type) (st:St) (k:Exit→St→Option R) (r:R),go R st k=some r→∃ e st',k e st'=some r∧(∀ (R':Type) (k':Exit→St→Option R'),go R' st k'=k' e st')∧AbR P np c st e st'
def Ax(P:Program)(np:Nat)(h:Hints):Code→Nat→Prop
 |.seq a b,n=>Ax P np h a n∧Ax P np h b (n+loops a)
 |.cond _ a b,n=>Ax P np h a n∧Ax P np h b (n+loops a)
 |.block _ c,n=>Ax P np h c n
 |.loop c,n=>GU P np (.loop c) (h.loop n)
 |_,_=>True
theorem AJy{w:World}{F:Nat→Prop}{m:Mp}{st:St}{a:Act}(hs:SI w F m st a){c:Operand}{x:Bool}(hc:Ah st.tmps c = .data .bool x):
  a.eval c = .bool x∧SI w F m { st with tmps:=KH st.tmps c x } a:=by
 have h1:Rep w F m st.heap (Ah st.tmps c) (a.eval c):=Db hs.tmps c;rw[hc]at h1;refine⟨?_,?_⟩;unfold Rep BT at h1;simp only[Ty.isAgg,Ab3,Acr]at h1;simpa [Dat]using h1;cases c with
  |tmp t=>exact hs.lit (d:=t) (b:=x) hc
  |const v=>exact hs
  |func f=>exact hs
  |global g=>exact hs
theorem B2(hE:∀ g,Ad P g (E.spec g))(hL:DG E)(hP:EL P E){np:Nat}:∀ (c:Code) (n:Nat),Ax P np h c n→GU P np c (fun R=>An P E h R c n):=by
 intro c;induction c with
  |skip=>intro n _ R st k r hk;simp only[An]at hk;exact⟨_,_,hk,fun _ _=>rfl,fun w F m a Q hs hq=>wp_skip (hq a w F m hs (Fl.refl ..))⟩
  |region id ops draw=>
   intro n _ R st k r hk;have hk0:=hk;simp only[An]at hk;split at hk;rename_i hpan;obtain⟨e,st',h1,h2,h3⟩:=RW hE hL hP (id:=id) hk;exact⟨e,st',h1,fun R' k'=>by simp only[An,hpan];exact h2 R' k',fun w F m a Q hs hq=>h3 w F m a Q hs fun a' w' F' m' q1 q2=>hq a' w' F' m' q1 (q2.toN np)⟩;rename_i hpan;cases draw with
    |false=>
     simp only[EW,J1]at hk;obtain⟨st',h1,h2⟩:=PW hE _ _ _ _ hk;refine⟨.normal,st',h1,fun R' k'=>by simp only[An,hpan,EW,J1];exact h2 R' _,fun w F m a Q hs hq => ?_⟩;have h3:EW P E St ops.toList st some=some st':=by simp only[EW,J1];exact h2 St some
     refine WU hE h3 hs fun a' w' hp => ?_;obtain⟨st1,F',m',e1,e2,e3⟩:=hp;cases e1;exact hq a' w' F' m' e2 (e3.toN np)
    |true=>
     simp only at hk;have hk':=hk;unfold Dh at hk;rw[J1]at hk;split at hk;rename_i hok;obtain⟨st',h1,h2⟩:=Zy hE _ _ _ _ _ hk;refine⟨.normal,st',h1,fun R' k'=>by simp only[An,hpan,Dh,J1,hok];exact h2 R' _,fun w F m a Q hs hq => ?_⟩;have h3:Dh P E St (h.fp id) ops.toList st some=some st':=by simp only[Dh,J1,hok];exact h2 St some
     refine RX hE hL h3 hs fun a' w' hp => ?_;obtain⟨st1,F',m',e1,e2,e3⟩:=hp;cases e1;exact hq a' w' F' m' e2 (e3.toN np);cases hk
  |seq a b iha ihb=>
   intro n hl R st k r hk;simp only[An]at hk;obtain⟨e,st1,h1,h2',h3⟩:=iha n hl.1 R st _ r hk;have h2:∀ (R':Type) (k':Exit→St→Option R'),An P E h R' a n st k'=k' e st1:=h2';by_cases he:e = .normal;subst he;simp only at h1;obtain⟨e2,st2,k1,k2,k3⟩:=ihb _ hl.2 R st1 _ r h1;refine⟨e2,st2,k1,fun R' k' => ?_,fun w F m act Q hs hq=>wp_seq ?_⟩;simp only[An];rw[h2];exact k2 R' k';refine h3 w F m act _ hs fun a' w' F' m' s1 x1 => ?_;exact k3 w' F' m' a' Q s1 fun a2 w2 F2 m2 s2 x2=>hq a2 w2 F2 m2 s2 (x1.trans x2);have h1':k e st1=some r:=by cases e<;>first|exact absurd rfl he|exact h1
   refine⟨e,st1,h1',fun R' k' => ?_,fun w F m act Q hs hq=>wp_seq ?_⟩;simp only[An];rw[h2];cases e<;>first|exact absurd rfl he|rfl
   refine h3 w F m act _ hs fun a' w' F' m' s1 x1 => ?_;have:=hq a' w' F' m' s1 x1;cases e<;>first|exact absurd rfl he|exact this
  |cond c a b iha ihb=>
   intro n hl R st k r hk;simp only[An]at hk;split at hk;rename_i x hc;cases x with
    |true=>obtain⟨e,st1,h1,h2,h3⟩:=iha _ hl.1 R _ _ r hk;refine⟨e,st1,h1,fun R' k'=>by simp only[An,hc];exact h2 R' k',fun w F m act Q hs hq => ?_⟩;obtain⟨q1,q2⟩:=AJy hs hc;exact wp_cond_true q1 (h3 w F m act Q q2 hq)
    |false=>obtain⟨e,st1,h1,h2,h3⟩:=ihb _ hl.2 R _ _ r hk;refine⟨e,st1,h1,fun R' k'=>by simp only[An,hc];exact h2 R' k',fun w F m act Q hs hq => ?_⟩;obtain⟨q1,q2⟩:=AJy hs hc;exact wp_cond_false q1 (h3 w F m act Q q2 hq)
   cases hk
  |block id c ih=>
   intro n hl R st k r hk;simp only[An]at hk;obtain⟨e,st1,h1,h2',h3⟩:=ih n hl R st _ r hk;have h2:∀ (R':Type) (k':Exit→St→Option R'),An P E h R' c n st k'=k' e st1:=h2';have key:∃ e',k e' st1=some r∧(∀ (R':Type) (k':Exit→St→Option R'),An P E h R' (.block id c) n st k'=k' e' st1)∧∀ (Q:Exit→Act→World→Prop) a' w',Q e' a' w'→Exit.inBlock id Q e a' w':=by
    cases e with
     |exit id'=>simp only at h1;by_cases hid:id'=id;subst hid;simp only[Aby]at h1;exact⟨.normal,h1,fun R' k'=>by simp only[An];rw[h2];simp,fun Q a' w' hq=>by simp[Exit.inBlock,hq]⟩;simp only[hid,Acb]at h1;exact⟨.exit id',h1,fun R' k'=>by simp only[An];rw[h2];simp[hid],fun Q a' w' hq=>by simp[Exit.inBlock,hid,hq]⟩
     |normal=>exact⟨_,h1,fun R' k'=>by simp only[An];rw[h2],fun Q a' w' hq=>hq⟩
     |goto l=>exact⟨_,h1,fun R' k'=>by simp only[An];rw[h2],fun Q a' w' hq=>hq⟩
     |ret=>exact⟨_,h1,fun R' k'=>by simp only[An];rw[h2],fun Q a' w' hq=>hq⟩
     |panic l=>exact⟨_,h1,fun R' k'=>by simp only[An];rw[h2],fun Q a' w' hq=>hq⟩
     |outgrown=>exact⟨_,h1,fun R' k'=>by simp only[An];rw[h2],fun Q a' w' hq=>hq⟩
   obtain⟨e',k1,k2,k3⟩:=key;exact⟨e',st1,k1,k2,fun w F m act Q hs hq=>wp_block (h3 w F m act _ hs fun a' w' F' m' s1 x1=>k3 Q a' w' (hq a' w' F' m' s1 x1))⟩
  |loop c ih=>intro n hl R st k r hk;exact hl R st k r hk
  |exit id=>intro n _ R st k r hk;simp only[An]at hk;exact⟨_,_,hk,fun _ _=>rfl,fun w F m a Q hs hq=>wp_exit (hq a w F m hs (Fl.refl ..))⟩
  |ret=>intro n _ R st k r hk;simp only[An]at hk;exact⟨_,_,hk,fun _ _=>rfl,fun w F m a Q hs hq=>wp_ret (hq a w F m hs (Fl.refl ..))⟩
  |_=>intro n _ R st k r hk;simp[An]at hk
theorem Tb{R:Type}{r:R}{nt:Nat}{k:Exit→St→Option R}:∀ (os:AT) (x:Qe os),Pz nt k os x=some r→∃ e st',k e st'=some r∧∀ (R':Type) (k':Exit→St→Option R'),Pz nt k' os x=k' e st':=by
 intro os;induction os with
  |nil=>intro x h;simp[Pz]at h
  |cons o os ih=>
   intro x h;cases x with
    |inl d=>exact⟨_,_,h,fun _ _=>rfl⟩
    |inr x=>obtain⟨e,st',h1,h2⟩:=ih x h;exact⟨e,st',h1,fun R' k'=>h2 R' k'⟩
theorem ZM{e e':Exit}(h:PN e e'=true):e=e':=by cases e<;>cases e'<;>simp_all [PN]
theorem AAb{np nt:Nat}{e:Exit}{st:St}:∀ (os:AT) (x:Qe os),NI np nt e st os=some x→∃ its d,decode np nt st its=some d∧∀ (R':Type) (k':Exit→St→Option R'),Pz nt k' os x=k' e (encode nt its d):=by
 intro os;induction os with
  |nil=>intro x h;simp[NI]at h
  |cons o os ih=>intro x h;simp only[NI]at h;split at h;rename_i hs;split at h;rename_i d hd;simp only[AbZ]at h;subst h;exact⟨o.2,d,hd,fun R' k'=>by rw[ZM hs];rfl⟩;cases h;split at h;rename_i y hy;simp only[AbZ]at h;subst h;obtain⟨its,d,h1,h2⟩:=ih y hy;exact⟨its,d,h1,fun R' k'=>h2 R' k'⟩;cases h
theorem ANK{h':Hints}(hE:∀ g,Ad P g (E.spec g))(hL:DG E)(hP:EL P E){np nt n:Nat}{body:Code}{its:AB}{os:AT}{stp:Ag (leaves its)→Option (Ag (leaves its)⊕Qe os)}
  (hstep:∀ v,stp v=roundOf P E h' n np nt body its os v) (hl:Ax P np h' body n):GU P np (.loop body) (Hu np nt its os stp):=by
 intro R st k r hk;unfold Hu at hk;split at hk;cases hk;rename_i v hv;split at hk;cases hk;rename_i x hx;obtain⟨e,st',h1,h2⟩:=Tb os x hk;refine⟨e,st',h1,fun R' k'=>by simp only[Hu,hv,hx];exact h2 R' k',?_⟩
 have key:∀ (fuel:Nat) (v:Ag (leaves its)),E2 stp fuel v=some x→∀ (w:World) (F:Nat→Prop) (m:Mp) (a:Act) (Q:Exit→Act→World→Prop),SI w F m (encode nt its v) a →
   (∀ a' w' F' m',SI w' F' m' st' a'→Fl np w F m (encode nt its v).heap (encode nt its v).frz w' F' m' st'.heap st'.frz→Q e a' w')→Code.rounds P body Q fuel a w:=by
  intro fuel
  induction fuel with
  |zero=>intro v h;simp[E2]at h
  |succ fuel ih=>
   intro v h w F m a Q hs hq
   simp only[E2]at h
   rw[hstep v]at h
   cases hr:roundOf P E h' n np nt body its os v with
   |none=>rw[hr]at h;cases h
   |some y=>
    rw[hr]at h
    unfold roundOf at hr
    obtain⟨e1,st1,g1,_,g3⟩:=B2 hE hL hP body n hl _ _ _ _ hr
    show body.wp P (Exit.then (Code.rounds P body Q fuel) Q) a w
    refine g3 w F m a _ hs fun a' w' F' m' s1 x1 => ?_
    by_cases he:e1 = .normal
    ·subst he
     simp only[ZY]at g1
     split at g1
     ·rename_i d hd
      simp only[AbZ]at g1;subst g1
      obtain⟨F2,m2,s2,x2⟩:=Ed s1 hd
      show Code.rounds P body Q fuel a' w'
      exact ih d h w' F2 m2 a' Q s2 fun a3 w3 F3 m3 s3 x3=>hq a3 w3 F3 m3 s3 (x1.trans (x2.trans x3))
     ·cases g1
    ·have g1':(match NI np nt e1 st1 os with
      |some x=>some (Sum.inr x)
      |none=>none)=some y:=by
      cases e1<;>first|exact absurd rfl he|exact g1
     split at g1'
     ·rename_i z hz
      simp only[AbZ]at g1';subst g1'
      simp only[AbZ]at h;subst h
      obtain⟨its',d,o1,o2⟩:=AAb os _ hz
      obtain⟨F2,m2,s2,x2⟩:=Ed s1 o1
      have e3:=(h2 (Exit×St) fun e st=>some (e,st)).symm.trans (o2 (Exit×St) fun e st=>some (e,st))
      simp only[AbZ,Abf]at e3
      obtain⟨rfl,rfl⟩:=e3
      have:=hq a' w' F2 m2 s2 (x1.trans x2)
      cases e<;>first|exact absurd rfl he|exact this
     ·cases g1'
 intro w F m a Q hs hq;obtain⟨F2,m2,s2,x2⟩:=Ed hs hv;exact wp_loop_rounds many (key many v (by rw[← LI];exact hx) w F2 m2 a Q s2 fun a3 w3 F3 m3 s3 x3=>hq a3 w3 F3 m3 s3 (x2.trans x3))
end
end Go.Pev
end
section
namespace Go.Pev
open Go.RowKit
section
variable {w:World} {F F0:Nat→Prop} {m m2:Mp} {H H2:List Ob} {ids:List Nat}
theorem Dat.flat:∀ (t:Ty),t.flat=true→∀ {d:t.den} {cs:List Value} {w0:World},Dat w F t d cs→Dat w0 F0 t d cs:=by
 intro t;induction t with
  |unit=>exact fun _ _ _ _ h=>h
  |bool=>exact fun _ _ _ _ h=>h
  |int k=>exact fun _ _ _ _ h=>h
  |slice e _=>intro h;simp[Ty.flat]at h
  |mapi j e _=>intro h;simp[Ty.flat]at h
  |nul e=>exact fun _ _ _ _ h=>h
  |prod a b iha ihb=>intro h d cs w0 hd;simp only[Ty.flat,Aba]at h;obtain⟨c1,c2,h1,h2,h3⟩:=hd;exact⟨c1,c2,h1,iha h.1 h2,ihb h.2 h3⟩
  |arr n e ih=>intro h d cs w0 hd;obtain⟨h1,h2⟩:=hd;exact⟨h1,A2 (fun x _ cs hx=>ih (by simpa [Ty.flat]using h) hx) h2⟩
theorem BT.flat{t:Ty}(ht:t.flat=true){d:t.den}{v:Value}{w0:World}(h:BT w F t d v):BT w0 F0 t d v:=by unfold BT at *;split;rename_i hg;simp only[hg,if_true]at h;obtain⟨vs,e,hd⟩:=h;exact⟨vs,e,hd.flat t ht⟩;rename_i hg;simp only[hg]at h;exact Dat.flat t ht h
theorem ANu{k v:Ty}(hk:k.flat=true)(hv:v.flat=true){w0:World}:∀ {es:List (k.den×v.den)} {ms:List MapEntry},GX w F k v es ms→GX w0 F0 k v es ms:=by
 intro es;induction es with
  |nil=>exact fun h=>h
  |cons e es ih=>rintro ms ⟨me,ms',e1,⟨h1,h2⟩,h3⟩;exact⟨me,ms',e1,⟨h1.flat hk,h2.flat hv⟩,ih h3⟩
mutual
theorem Rep.flat:∀ (a:AV) {v:Value},G1 a=true→Rep w F m H a v→Rep w F0 m H a v
 |.Bo,_,_,_=>by unfold Rep;trivial
 |.data t d,v,hf,h=>by unfold Rep at *;exact h.flat (by simpa [G1]using hf)
 |.nils _,v,_,h=>by unfold Rep at *;exact h
 |.agg cs,v,hf,h=>by unfold Rep at *;obtain⟨vs,e,h,h1⟩:=h;exact⟨vs,e,AP.flat cs (by simpa [G1]using hf) h,h1⟩
 |.own id,v,_,h=>by unfold Rep at *;exact h
 |.win id off n,v,_,h=>by unfold Rep at *;exact h
 |.ptr id off,v,_,h=>by unfold Rep at *;exact h
 |.eptr id i sub,v,_,h=>by unfold Rep at *;exact h
 |.dptr cs,v,hf,h=>by simp[G1]at hf
 |.clo f caps,v,hf,h=>by unfold Rep at *;obtain⟨cs,e,h⟩:=h;exact⟨cs,e,AP.flat caps (by simpa [G1]using hf) h⟩
 |.bnd f caps,v,hf,h=>by unfold Rep at *;obtain⟨cs,e,h⟩:=h;exact⟨cs,e,AP.flat caps (by simpa [G1]using hf) h⟩
 |.str _,v,_,h=>by unfold Rep at *;exact h
 |.clip _ _,v,hf,h=>by simp[G1]at hf
 |.mp id,v,_,h=>by unfold Rep at *;exact h
 |.rowp _ _ _,v,_,h=>by unfold Rep at *;exact h
 |.glob _,v,_,h=>by unfold Rep at *;exact h
 |.nilp,v,_,h=>by unfold Rep at *;exact h
 |.ifc _,v,_,h=>by unfold Rep at *;exact h
 |.aptr _ _,v,_,h=>by unfold Rep at *;exact h
 |.tup vs,v,hf,h=>by unfold Rep at *;obtain⟨us,e,h⟩:=h;exact⟨us,e,AP.flat vs (by simpa [G1]using hf) h⟩
theorem AP.flat:∀ (cs:List AV) {vs:List Value},Gm cs=true→AP w F m H cs vs→AP w F0 m H cs vs
 |[],vs,_,h=>by unfold AP at *;exact h
 |c::cs,vs,hf,h=>by unfold AP at *;simp only[Gm,Aba]at hf;obtain⟨v,vs',e,h1,h2⟩:=h;exact⟨v,vs',e,Rep.flat c hf.1 h1,AP.flat cs hf.2 h2⟩
end
def ACI(ids:List Nat)(H H2:List Ob)(m m2:Mp):Prop:=∀ j o,H[j]? = some o→H2[ids.getD j 0]? = some (Cw ids o)∧m2 (ids.getD j 0)=m j
theorem Du(hm:ACI ids H H2 m m2)(Q:Option Ob→Option (Nat×Nat)→Prop)(hnone:∀ l,¬ Q none l)(hbox:∀ cs l,Q (some (.box cs)) l→Q (some (.box (GW ids cs))) l)(hprs:∀ T t t' is l,Q (some (.prs T t is)) l→Q (some (.prs T t' is)) l)(j:Nat)(h:Q H[j]? (m j)):Q H2[ids.getD j 0]? (m2 (ids.getD j 0)):=by
 cases ho:H[j]? with
  |none=>rw[ho]at h;exact absurd h (hnone _)
  |some o=>rw[ho]at h;obtain⟨h1,h2⟩:=hm j o ho;rw[h1,h2];cases o<;>first|exact h|exact hbox _ _ h|exact hprs _ _ _ _ _ h
mutual
theorem Rep.ren(hm:ACI ids H H2 m m2):∀ (a:AV) {v:Value},Rep w F m H a v→Rep w F m2 H2 (Cz ids a) v
 |.Bo,_,_=>by simp only[Cz];unfold Rep;trivial
 |.rowp _ _ _,_,_=>by simp only[Cz];unfold Rep;trivial
 |.glob g,v,h=>by simp only[Cz];unfold Rep at *;exact h
 |.nilp,v,h=>by simp only[Cz];unfold Rep at *;exact h
 |.ifc _,v,h=>by simp only[Cz];unfold Rep at *;exact h
 |.aptr id n,v,h=>by simp only[Cz];unfold Rep at *;exact Du hm (fun o l=>EK o l n v) (fun l h=>h) (fun cs l h=>h) (fun _ _ _ _ l h=>h) id h
 |.data t d,v,h=>by simp only[Cz];unfold Rep at *;exact h
 |.nils _,v,h=>by simp only[Cz];unfold Rep at *;exact h
 |.agg cs,v,h=>by simp only[Cz];unfold Rep at *;obtain⟨vs,e,h,h1⟩:=h;exact⟨vs,e,AP.ren hm cs h,h1⟩
 |.own id,v,h=>by simp only[Cz];unfold Rep at *;exact Du hm (fun o l=>At o l v) (fun l h=>h) (fun cs l h=>h) (fun _ _ _ _ l h=>h) id h
 |.win id off n,v,h=>by simp only[Cz];unfold Rep at *;exact Du hm (fun o l=>FT o l off n v) (fun l h=>h) (fun cs l h=>h) (fun _ _ _ _ l h=>h) id h
 |.ptr id off,v,h=>by simp only[Cz];unfold Rep at *;exact Du hm (fun o l=>Eh o l off v) (fun l h=>h) (fun cs l h=>h) (fun _ _ _ _ l h=>h) id h
 |.eptr id i sub,v,h=>by simp only[Cz];unfold Rep at *;exact Du hm (fun o l=>CS o l i sub v) (fun l h=>h) (fun cs l h=>h) (fun _ _ _ _ l h=>h) id h
 |.dptr cs,v,h=>by simp only[Cz];unfold Rep at *;obtain⟨ad,us,e,h1,h2,h4,h3⟩:=h;refine⟨ad,us,e,fun hne=>h1 (by rintro rfl;exact hne rfl),AP.ren hm cs h2,h4,h3⟩
 |.clo f caps,v,h=>by simp only[Cz];unfold Rep at *;obtain⟨cs,e,h⟩:=h;exact⟨cs,e,AP.ren hm caps h⟩
 |.bnd f caps,v,h=>by simp only[Cz];unfold Rep at *;obtain⟨cs,e,h⟩:=h;exact⟨cs,e,AP.ren hm caps h⟩
 |.str _,v,h=>by simp only[Cz];unfold Rep at *;exact h
 |.clip _ _,v,h=>by simp only[Cz];unfold Rep at *;exact h
 |.mp id,v,h=>by simp only[Cz];unfold Rep at *;exact Du hm (fun o l=>IN o l v) (fun l h=>h) (fun cs l h=>h) (fun _ _ _ _ l h=>h) id h
 |.tup vs,v,h=>by simp only[Cz];unfold Rep at *;obtain⟨us,e,h⟩:=h;exact⟨us,e,AP.ren hm vs h⟩
theorem AP.ren(hm:ACI ids H H2 m m2):∀ (cs:List AV) {vs:List Value},AP w F m H cs vs→AP w F m2 H2 (GW ids cs) vs
 |[],vs,h=>by simp only[GW];unfold AP at *;exact h
 |c::cs,vs,h=>by simp only[GW];unfold AP at *;obtain⟨v,vs',e,h1,h2⟩:=h;exact⟨v,vs',e,Rep.ren hm c h1,AP.ren hm cs h2⟩
end
theorem ARF(tgt:Nat)(is:List Int):GW ids (EV tgt is)=EV (ids.getD tgt 0) is:=by
 induction is with
  |nil=>rfl
  |cons x xs ih=>have:GW ids (EV tgt (x::xs))=Cz ids (.eptr tgt x.toNat 0)::GW ids (EV tgt xs):=rfl;rw[this,ih];rfl
theorem ANq(tgt:Nat)(is:List Int):Gm (EV tgt is)=true:=by
 induction is with
  |nil=>rfl
  |cons x xs ih=>have:Gm (EV tgt (x::xs))=(G1 (.eptr tgt x.toNat 0)&&Gm (EV tgt xs)):=rfl;rw[this,ih];rfl
theorem AFu{i j k:Nat}:∀ {ids:List Nat},GC ids=true→ids[i]? = some k→ids[j]? = some k→i=j:=by
 intro ids h;have:ids.Nodup:=by
  induction ids with
   |nil=>exact List.nodup_nil
   |cons a ids ih=>simp only[GC,Aba,AcQ,AcZ,Acn]at h;exact List.nodup_cons.2 ⟨h.1,ih h.2⟩
 intro h1 h2;exact(List.getElem?_inj (GF h1) this).1 (h1.trans h2.symm)
theorem Y9{i:Nat}{o:Ob}:∀ (ids:List Nat) (os:List Ob) (H:List Ob) (j:Nat),GC ids=true→ids[j]? = some i→os[j]? = some o→i<H.length→(Au (ids.zip os) H)[i]? = some o:=by
 intro ids;induction ids with
  |nil=>intro os H j _ h;simp at h
  |cons a ids ih=>
   intro os H j hn h1 h2 hl;cases os with
    |nil=>simp at h2
    |cons x os=>
     simp only[GC,Aba,AcQ,AcZ,Acn]at hn;simp only[List.zip_cons_cons,Au];cases j with
      |zero=>simp only[Abr,AbZ]at h1 h2;subst h1;subst h2;rw[BG _ _ fun p hp => ?_,Ace hl];rintro rfl;exact hn.1 (List.of_mem_zip hp).1
      |succ j=>simp only[Acz]at h1 h2;exact ih os _ j hn.2 h1 h2 (by simpa using hl)
def G2:List Nat→Nat→Option Nat
 |[],_=>none
 |x::xs,i=>if x=i then some 0 else(G2 xs i).map (· + 1)
theorem NR{i j:Nat}:∀ {ids:List Nat},G2 ids i=some j→ids[j]? = some i:=by
 intro ids;induction ids generalizing j with
  |nil=>intro h;simp[G2]at h
  |cons a ids ih=>intro h;simp only[G2]at h;split at h;rename_i e;simp only[AbZ]at h;subst h;simp[e];rw[Abc]at h;obtain⟨k,h1,rfl⟩:=h;simpa using ih h1
theorem ABB{i:Nat}:∀ {ids:List Nat},G2 ids i=none→i∉ids:=by
 intro ids;induction ids with
  |nil=>intro _;simp
  |cons a ids ih=>intro h;simp only[G2]at h;split at h;cases h;rename_i hne;rw[Option.map_eq_none_iff]at h;simp only[AcH,not_or];exact⟨fun e=>hne e.symm,ih h⟩
theorem ANt{i j:Nat}{ids:List Nat}(hn:GC ids=true)(h:ids[j]? = some i):G2 ids i=some j:=by
 cases hf:G2 ids i with
  |none=>exact absurd (Abj h) (ABB hf)
  |some k=>rw[AFu hn h (NR hf)]
def mOf(ids:List Nat)(m3 m:Mp):Mp
 |.o i=>match G2 ids i with
  |some j=>m3 j
  |none=>m i
 |.r i k=>m (.r i k)
theorem TZ{fz:List Bool}:∀ {ids:List Nat} {bs:List Bnd},D9 H fz ids bs=true→∀ {j i:Nat},ids[j]? = some i→bs[j]? = some (.whole i)∨((∀ id,bs[j]?≠some (.whole id))∧Ai H fz i=true):=by
 intro ids;induction ids with
  |nil=>intro bs _ j i h;simp at h
  |cons a ids ih=>
   intro bs h j i hj;simp only[D9,Aba]at h;obtain⟨h1,h2⟩:=h;cases j with
    |zero=>
     simp only[Abr,AbZ]at hj;subst hj;split at h1;rename_i id _;simp only[Abb]at h1;subst h1;exact .inl (by simp);rename_i hne;refine .inr ⟨fun id he => ?_,h1⟩;cases bs with
      |nil=>simp at he
      |cons b bs=>simp at he;subst he;exact hne id bs rfl
    |succ j=>
     simp only[Acz]at hj;have:=ih h2 hj;cases bs with
      |nil=>simpa using this
      |cons b bs=>simpa using this
theorem ANb:∀ (n:Nat) (bs:List Bnd) (slot:Nat),(B7 n bs slot).length=n:=by
 intro n;induction n with
  |zero=>intro bs slot;cases bs<;>rfl
  |succ n ih=>
   intro bs slot;cases bs with
    |nil=>simp[B7,ih]
    |cons b bs=>cases b<;>simp[B7,ih]
theorem A9(st:St)(v:AV)(l:Loc):(place st v l).heap.length=st.heap.length:=by
 cases l with
  |tmp t=>rfl
  |cell j c=>simp only[place];split<;>simp
  |cap t i=>rfl
  |obj j=>rfl
theorem ATx:∀ (its:AB) (d:Ag (leaves its)) (st:St),(enc its d st).heap.length=st.heap.length+CI its:=by
 intro its;induction its with
  |nil=>intro d st;rfl
  |cons p r ih=>
   intro d st;obtain⟨l,c⟩:=p;cases c with
    |dat t=>exact(ih _ _).trans (by rw[A9];rfl)
    |own T e=>exact(ih _ _).trans (by rw[A9];simp[DE,CI];omega)
    |box n=>exact(ih _ _).trans (by rw[A9];simp[DE,CI];omega)
    |map k v=>exact(ih _ _).trans (by rw[A9];simp[DE,CI];omega)
    |prs T j=>exact(ih _ _).trans (by rw[A9];simp[DE,CI];omega)
    |rows T e t=>exact(ih _ _).trans (by rw[A9];simp[DE,CI];omega)
    |mrows j e t=>exact(ih _ _).trans (by rw[A9];simp[DE,CI];omega)
    |aptr T e n=>exact(ih _ _).trans (by rw[A9];simp[DE,CI];omega)
    |aptr' j n=>exact(ih _ _).trans (by rw[A9];rfl)
    |bndp f j=>exact(ih _ _).trans (by rw[A9];rfl)
    |nilp=>exact(ih _ _).trans (by rw[A9];rfl)
    |own' j=>exact(ih _ _).trans (by rw[A9];rfl)
    |ptr' j o=>exact(ih _ _).trans (by rw[A9];rfl)
    |map' j=>exact(ih _ _).trans (by rw[A9];rfl)
    |win' j=>exact(ih _ _).trans (by rw[A9];rfl)
    |sub' j=>exact(ih _ _).trans (by rw[A9];rfl)
    |clo f ps=>exact(ih _ _).trans (by rw[A9];rfl)
    |bnd f j=>exact(ih _ _).trans (by rw[A9];rfl)
    |nil e=>exact(ih _ _).trans (by rw[A9];rfl)
end
end Go.Pev
end
section
namespace Go.Pev
open Go.RowKit
theorem Ph{H:List Ob}{fz:List Bool}{i:Nat}{o:Ob}(h:H[i]? = some o)(ha:alive o)(hf:fz.getD i false=false):owned H fz i:=by
 simp only[owned,BY];rw[h];cases o with
  |free=>exact ha.elim
  |dead=>exact ha.elim
  |box cs=>trivial
  |arr T t xs=>exact hf
  |map k v es=>trivial
  |prs T t is=>trivial
  |rows T e t xs ver out=>exact hf
theorem ACE{o:Ob}(h:alive o):o≠.free∧o≠.dead:=by constructor<;>rintro rfl<;>exact h
theorem Ce{H:List Ob}{fz:List Bool}{ids:List Nat}{i:Ix}(h:owned H (AS ids fz) i):owned H fz i:=J0 h
theorem RT{o o1:Ob}{ids:List Nat}(h:sameShape o o1):sameShape o (Cw ids o1):=by cases o<;>cases o1<;>simp only[sameShape,Cw]at *<;>exact h
theorem Me{i:Nat}:∀ {bs:List Bnd},i∈given bs↔∃ j:Nat,bs[j]? = some (.whole i):=by
 intro bs;induction bs with
  |nil=>simp[given]
  |cons b bs ih=>
   have step:(∃ j:Nat,(b::bs)[j]? = some (.whole i))↔b = .whole i∨∃ j:Nat,bs[j]? = some (.whole i):=by
    constructor;rintro⟨j,hj⟩;cases j with
     |zero=>simp only[Abr,AbZ]at hj;exact .inl hj
     |succ j=>simp only[Acz]at hj;exact .inr ⟨j,hj⟩
    rintro (h|⟨j,hj⟩);exact⟨0,by rw[h];rfl⟩;exact⟨j+1,by simpa using hj⟩
   rw[step];cases b with
    |whole id=>simp only[given,AcH,ih,Bnd.whole.injEq];exact⟨fun h=>h.imp Eq.symm (fun x=>x),fun h=>h.imp Eq.symm (fun x=>x)⟩
    |none=>simp[given,ih]
    |cut id=>simp[given,ih]
theorem M6(a b:List (Nat×Ob)):∀ H,Au (a++b) H=Au b (Au a H):=by
 induction a with
  |nil=>intro H;rfl
  |cons p a ih=>intro H;obtain⟨i,o⟩:=p;simp only[AcN,Au];exact ih _
def Ch(gv:List Nat)(H:List Ob):List Ob:=Au (gv.map fun i=>(i,.dead)) H
theorem Pq{gv:List Nat}{i:Nat}{H:List Ob}(h:i∉gv):(Ch gv H)[i]? = H[i]? :=
 BG _ _ fun p hp=>by rintro rfl;obtain⟨x,hx,rfl⟩:=Acl.1 hp;exact h hx
theorem ANR:∀ {gv:List Nat} {i:Nat} {H:List Ob},i∈gv→i<H.length→(Ch gv H)[i]? = some .dead:=by
 intro gv;induction gv with
  |nil=>intro i H h;cases h
  |cons a gv ih=>intro i H h hl;by_cases hg:i∈gv;exact ih (H:=H.set a .dead) hg (by simpa using hl);have:(Ch gv (H.set a .dead))[i]? = (H.set a .dead)[i]? := Pq hg;rcases AcH.1 h with rfl|h;show(Ch gv (H.set i .dead))[i]? = _;rw[this,Ace hl];exact absurd h hg
theorem Pr(gv:List Nat)(H:List Ob):(Ch gv H).length=H.length:=M5 ..
section
variable {w w':World} {F F2 F3 FR:Nat→Prop} {m m3:Mp} {H H1:List Ob} {fz fz1 fzR:List Bool} {bs:List Bnd} {ids fr:List Nat} {np:Nat}
theorem AOm(hiC:HI w F m H fz)(gA:Aa w F m H fz w F2 m H (AS fr fz))
  (giv:∀ (j id:Nat),bs[j]? = some (.whole id)→owned H (AS fr fz) id)
  (inj:∀ (i j id:Nat),bs[i]? = some (.whole id)→bs[j]? = some (.whole id)→i=j)
  (pin:∀ (j id:Nat),(bs.take np)[j]? = some (.whole id)→∃ o o1,H[id]? = some o∧alive o∧H1[j]? = some o1∧sameShape o o1∧m3 j=m id)
  (blk:∀ (j b c:Nat),owned H1 fz1 j→m3 j=some (b,c)→(∃ id c':Nat,(bs.take np)[j]? = some (.whole id)∧m id=some (b,c'))∨(∃ k id c':Nat,np≤k∧bs[k]? = some (.whole id)∧m id=some (b,c'))∨w.heap.size≤b)
  (os:w'.os=w.os) (tape:w'.tape=w.tape) (output:w'.output=w.output) (size:w.heap.size≤w'.heap.size)
  (keep:∀ b,b<w.heap.size→(∀ (j id:Nat) (c:Nat),bs[j]? = some (.whole id)→m id≠some (b,c))→w'.heap[b]? = w.heap[b]?)
  (sub:∀ b,F2 b→F3 b) (bnd:∀ b,F3 b→F2 b∨(∃ (j id c:Nat),bs[j]? = some (.whole id)∧m id=some (b,c))∨w.heap.size≤b)
  (hi1:HI w' F3 m3 H1 fz1) (al1:∀ (j:Nat) (o:Ob),H1[j]? = some o→alive o) (pl1:∀ (j:Nat) (o:Ob),H1[j]? = some o→A8 o=true) (fr1:∀ j,fz1.getD j false=false)
  (hlen:ids.length=H1.length) (hok:D9 H fzR ids (bs.take np)=true) (hnd:GC ids=true)
  (hR:(FR=F∧fzR=fz∧H1.all Is=true)∨(FR=F3∧fzR=AS fr fz)) :
  Aa w F m H fz w' FR (mOf ids m3 m) (Au (ids.zip (H1.map (Cw ids))) (Ch (given (bs.drop np)) H)) fzR∧ACI ids H1 (Au (ids.zip (H1.map (Cw ids))) (Ch (given (bs.drop np)) H)) m3 (mOf ids m3 m):=by
 have hiR:∃ FB,HI w FB m H fzR∧(∀ b,F b→FB b)∧(∀ b,FB b→FR b)∧(∀ b,FB b→F2 b):=by
  rcases hR with⟨e1,e2,_⟩|⟨e1,e2⟩
  exact⟨F,by rw[e2];exact hiC,fun _ h=>h,fun _ h=>by rw[e1];exact h,gA.1.sub⟩;exact⟨F2,by rw[e2];exact gA.2,gA.1.sub,fun b h=>by rw[e1];exact sub b h,fun _ h=>h⟩
 obtain⟨FB,hiB,hFB,hBR,hB2⟩:=hiR;have ownR:∀ {i},owned H fzR i→owned H fz i:=by
  intro i h;rcases hR with⟨_,e2,_⟩|⟨_,e2⟩
  rw[e2]at h;exact h;rw[e2]at h;exact Ce h
 have pinR:∀ {id},owned H (AS fr fz) id→owned H fzR id:=by
  intro id h;rcases hR with⟨_,e2,_⟩|⟨_,e2⟩
  rw[e2];exact Ce h;rw[e2];exact h
 have FR3:∀ b,FR b→F3 b:=by
  rcases hR with⟨e1,_,_⟩|⟨e1,_⟩
  rw[e1];exact fun b h=>sub b (gA.1.sub b h);rw[e1];exact fun _ h=>h
 have tk:∀ {j id:Nat},(bs.take np)[j]? = some (.whole id)→j<np∧bs[j]? = some (.whole id):=by intro j id h;rw[Abx]at h;split at h;rename_i hj;exact⟨hj,h⟩;cases h
 have tk':∀ {j id:Nat},j<np→bs[j]? = some (.whole id)→(bs.take np)[j]? = some (.whole id):=by intro j id hj h;rw[Abx,AcO hj];exact h
 have gvI:∀ {i:Nat},i∈given (bs.drop np)→∃ k,np≤k∧bs[k]? = some (.whole i):=by intro i h;obtain⟨j,hj⟩:=Me.1 h;rw[Ab4]at hj;exact⟨np+j,by omega,hj⟩
 have gvO:∀ {i k:Nat},np≤k→bs[k]? = some (.whole i)→i∈given (bs.drop np):=by intro i k hk h;refine Me.2 ⟨k-np,?_⟩;rw[Ab4,show np+(k-np)=k by omega];exact h
 have hids:∀ {j i:Nat},ids[j]? = some i→(∃ o,H[i]? = some o)∧((bs.take np)[j]? = some (.whole i)∨((∀ (id:Nat),(bs.take np)[j]?≠some (.whole id))∧H[i]? = some .free∧fzR.getD i false=false)):=by
  intro j i hj;rcases TZ hok hj with h|⟨h1,h2⟩
  obtain⟨o,o1,ho,_⟩:=pin j i h;exact⟨⟨o,ho⟩,.inl h⟩;obtain⟨h3,h4⟩:=A3 h2;exact⟨⟨_,h3⟩,.inr ⟨h1,h3,h4⟩⟩
 have gvN:∀ {i:Nat},i∈ids→i∉given (bs.drop np):=by
  intro i hi hg;obtain⟨j,hj⟩:=List.getElem?_of_mem hi;obtain⟨k,hk,hb⟩:=gvI hg;rcases(hids hj).2 with h|⟨_,h,_⟩
  obtain⟨h1,h2⟩:=tk h;have:=inj _ _ _ h2 hb;omega;obtain⟨o,h1,h2,_⟩:=Dt (giv k i hb);rw[h]at h1;cases h1;exact h2 rfl
 have hunf:∀ {j i:Nat},ids[j]? = some i→∀ {o1:Ob},H1[j]? = some o1→∀ {T:TypeId} {t:Ty} {xs:List t.den},o1 = .arr T t xs→fzR.getD i false=false:=by
  intro j i hj o1 ho1 T t xs he;rcases(hids hj).2 with h|⟨_,_,h⟩
  obtain⟨o,o2,ho,_,ho2,hs,_⟩:=pin j i h;rw[ho1]at ho2;cases ho2;subst he;have h2:=pinR (giv j i (tk h).2);simp only[owned,BY]at h2;rw[ho]at h2;cases o<;>simp only[sameShape]at hs;exact h2;exact h
 have hwhole:∀ {j id:Nat},(bs.take np)[j]? = some (.whole id)→ids[j]? = some id:=by
  intro j id hb;obtain⟨o,o1,_,_,ho1,_⟩:=pin j id hb;have hl:=AY ho1;rw[← hlen]at hl;have hg:ids[j]? = some ids[j]:=Abg hl;rcases TZ hok hg with h|⟨h,_⟩
  rw[hb]at h;cases h;exact hg;exact absurd hb (h id)
 have hgv:∀ {i:Nat},i∈given (bs.drop np)→(Ch (given (bs.drop np)) H)[i]? = some .dead:=by intro i hi;obtain⟨k,_,hb⟩:=gvI hi;obtain⟨o,ho,_⟩:=Dt (giv k i hb);exact ANR hi (AY ho)
 have getIn:∀ {j i:Nat} {o1:Ob},ids[j]? = some i→H1[j]? = some o1→(Au (ids.zip (H1.map (Cw ids))) (Ch (given (bs.drop np)) H))[i]? = some (Cw ids o1):=by intro j i o1 hj ho1;obtain⟨⟨o,ho⟩,_⟩:=hids hj;exact Y9 ids _ _ j hnd hj (by rw[Ab6,ho1];rfl) (by rw[Pr];exact AY ho)
 have getOut0:∀ {i:Nat},i∉ids→(Au (ids.zip (H1.map (Cw ids))) (Ch (given (bs.drop np)) H))[i]? = (Ch (given (bs.drop np)) H)[i]? := by intro i hi;exact BG _ _ fun p hp=>by rintro rfl;exact hi (List.of_mem_zip hp).1
 have getOut:∀ {i:Nat},i∉ids→i∉given (bs.drop np)→(Au (ids.zip (H1.map (Cw ids))) (Ch (given (bs.drop np)) H))[i]? = H[i]? := by intro i hi hg;rw[getOut0 hi,Pq hg]
 have getGv:∀ {i:Nat},i∈given (bs.drop np)→(Au (ids.zip (H1.map (Cw ids))) (Ch (given (bs.drop np)) H))[i]? = some .dead:=by intro i hg;rw[getOut0 fun h=>gvN h hg,hgv hg]
 have mIn:∀ {j i:Nat},ids[j]? = some i→mOf ids m3 m i=m3 j:=by intro j i hj;simp only[mOf];rw[ANt hnd hj]
 have mOut:∀ {x:Ix},x.id∉ids→mOf ids m3 m x=m x:=by
  intro x hi;cases x with
   |r i k=>rfl
   |o i=>
    simp only[mOf];cases hf:G2 ids i with
     |none=>rfl
     |some j=>exact absurd (Abj (NR hf)) hi
 have inOut:∀ i:Nat,(∃ j:Nat,ids[j]? = some i)∨i∈given (bs.drop np)∨(i∉ids∧i∉given (bs.drop np)):=by intro i;by_cases h:i∈ids;obtain⟨j,hj⟩:=List.getElem?_of_mem h;exact .inl ⟨j,hj⟩;by_cases h2:i∈given (bs.drop np);exact .inr (.inl h2);exact .inr (.inr ⟨h,h2⟩)
 have notGv:∀ {i:Ix},i.id∈given (bs.drop np)→¬ owned (Au (ids.zip (H1.map (Cw ids))) (Ch (given (bs.drop np)) H)) fzR i:=by intro i hg ho;obtain⟨o,h1,_,h3⟩:=Cf ho;rw[getGv hg]at h1;cases h1;exact h3 rfl
 have has1:∀ {j i:Nat},ids[j]? = some i→∃ o1,H1[j]? = some o1:=by intro j i hj;have hl:=GF hj;rw[hlen]at hl;exact⟨_,Abg hl⟩
 have plR:∀ {o1:Ob},A8 o1=true→A8 (Cw ids o1)=true:=by intro o1 h;cases o1<;>first|exact h|rfl
 have cls:∀ x:Ix,owned (Au (ids.zip (H1.map (Cw ids))) (Ch (given (bs.drop np)) H)) fzR x→(∃ i j:Nat,∃ o1,x = .o i∧ids[j]? = some i∧H1[j]? = some o1)∨(x.id∉ids∧x.id∉given (bs.drop np)):=by
  intro x hx;rcases inOut x.id with⟨j,hj⟩|hg|h;obtain⟨o1,ho1⟩:=has1 hj;cases x with
   |o i=>exact .inl ⟨i,j,o1,rfl,hj,ho1⟩
   |r i k=>exact absurd hx (Dr (getIn hj ho1) (plR (pl1 j o1 ho1)))
  exact absurd hx (notGv hg);exact .inr h
 have own1:∀ {j:Nat} {o1:Ob},H1[j]? = some o1→owned H1 fz1 j:=fun h=>Ph h (al1 _ _ h) (fr1 _);have blkNe:∀ {i b c:Nat},i∉ids→i∉given (bs.drop np)→(∃ o,H[i]? = some o∧o≠.free∧o≠.dead)→m i=some (b,c)→∀ {j id c':Nat},bs[j]? = some (.whole id)→m id≠some (b,c'):=by
  intro i b c hi hg ⟨o,ho,h1,h2⟩ hm j id c' hb he;have hp:=giv j id hb;have hne:i≠id:=by rintro rfl;rcases Abv j np with hj|hj;exact hi (Abj (hwhole (tk' hj hb)));exact hg (gvO hj hb)
  exact gA.2.ne hp he ho h1 h2 hm hne rfl
 have hcomp:Bz H (Au (ids.zip (H1.map (Cw ids))) (Ch (given (bs.drop np)) H)) m (mOf ids m3 m):=by
  intro i o ho hf;rcases inOut i with⟨j,hj⟩|hg|⟨hi,hg⟩
  rcases(hids hj).2 with h|⟨_,h,_⟩
  obtain⟨o',o1,ho',ha,ho1,hs,hm⟩:=pin j i h;rw[ho]at ho';cases ho';exact .inr ⟨(ACE ha).2,_,getIn hj ho1,RT hs,by rw[mIn hj];exact hm,fun _ _ _=>rfl⟩;rw[ho]at h;cases h;exact absurd rfl hf;exact .inl (getGv hg);rcases Bz.refl H m i o ho hf with h|⟨hd,o',h1,h2,_⟩
  exact .inl (by rw[getOut hi hg];exact h);exact .inr ⟨hd,o',by rw[getOut hi hg];exact h1,h2,mOut (x:=.o i) hi,fun _ _ _=>rfl⟩
 have hmoved:ACI ids H1 (Au (ids.zip (H1.map (Cw ids))) (Ch (given (bs.drop np)) H)) m3 (mOf ids m3 m):=by
  intro j o ho;have hl:=AY ho;rw[← hlen]at hl;have hg:ids[j]? = some ids[j]:=Abg hl;have hd:ids.getD j 0=ids[j]:=by rw[Abi,hg];rfl
  rw[hd];exact⟨getIn hg ho,mIn hg⟩
 have hkeepF:∀ b,FB b→w'.heap[b]? = w.heap[b]? := by intro b hb;refine keep b (hiB.lt b hb) fun j id c hj he => ?_;exact gA.2.off id b c (giv j id hj) he (hB2 b hb)
 have hcell:∀ k,F k→w'.heap[k]? = w.heap[k]? := fun k ha=>hkeepF _ (hFB _ ha);have ownOut:∀ {i:Ix},i.id∉ids→i.id∉given (bs.drop np)→owned (Au (ids.zip (H1.map (Cw ids))) (Ch (given (bs.drop np)) H)) fzR i→owned H fzR i:=by intro i hi hg h;exact(CH (getOut hi hg)).1 h
 have blkNe':∀ {x:Ix} {b c:Nat},x.id∉ids→x.id∉given (bs.drop np)→owned H fzR x→m x=some (b,c)→∀ {j id c':Nat},bs[j]? = some (.whole id)→m id≠some (b,c'):=by
  intro x b c hi hg ho hm j id c' hb he;cases x with
   |o i=>exact blkNe hi hg (Dt ho) hm hb he
   |r i k=>exact gA.2.neX (giv j id hb) he ho.there hm (by simp) rfl
 have bOut:∀ {x:Ix} {b c:Nat},x.id∉ids→x.id∉given (bs.drop np)→owned H fzR x→m x=some (b,c)→∀ {j:Nat} {o1:Ob} {c':Nat},H1[j]? = some o1→m3 j≠some (b,c'):=by intro x b c hi hg ho hm j o1 c' ho1 he;rcases blk j b c' (own1 ho1) he with⟨id,c2,hb,hm2⟩|⟨k,id,c2,_,hb,hm2⟩|hge;exact blkNe' hi hg ho hm (tk hb).2 hm2;exact blkNe' hi hg ho hm hb hm2;have:=hiB.GD ho hm;omega
 refine⟨⟨⟨os,tape,output,size,fun b hb hn=>keep b hb fun j id c hj he => ?_,fun b h=>hBR b (hFB b h),?_,?_,hcomp⟩,⟨?_,?_,?_,?_,?_,?_,?_,hiC.glo.mono hcell (fun b h=>hBR b (hFB b h)),?_⟩⟩,hmoved⟩;exact hn id c (Ce (giv j id hj)) he;-- what is frozen
 intro b hb;rcases hR with⟨e1,_,_⟩|⟨e1,_⟩
 rw[e1]at hb;exact .inl hb;rw[e1]at hb;rcases bnd b hb with h|⟨j,id,c,h1,h2⟩|h;exact gA.1.bnd b h;exact .inr (.inl ⟨id,c,Ce (giv j id h1),h2⟩);exact .inr (.inr h);intro i b c ho hm;rcases cls i ho with⟨i,j,o1,rfl,hj,ho1⟩|⟨hi,hg⟩
 rw[mIn hj]at hm;rcases blk j b c (own1 ho1) hm with⟨id,c',h1,h2⟩|⟨k,id,c',_,h1,h2⟩|h;exact .inl ⟨id,c',Ce (giv j id (tk h1).2),h2⟩;exact .inl ⟨id,c',Ce (giv k id h1),h2⟩;exact .inr h;rw[mOut hi]at hm;exact .inl ⟨i,c,ownR (ownOut hi hg ho),hm⟩;-- objects
 intro i o ho;rcases inOut i with⟨j,hj⟩|hg|⟨hi,hg⟩
 obtain⟨o1,ho1⟩:=has1 hj;rw[getIn hj ho1]at ho;cases ho;rw[mIn hj];have hob:=hi1.obj j o1 ho1;cases o1 with
  |free=>trivial
  |dead=>trivial
  |box cs=>
   obtain⟨b,c,vs,T,a1,a2,a3,a4⟩:=hob;refine⟨b,c,vs,T,a1,a2,AP.ren hmoved cs ?_,a4⟩;rcases hR with⟨e1,_,hfl⟩|⟨e1,_⟩
   rw[Abk]at hfl;exact AP.flat cs (by simpa [Is]using hfl _ (Abj ho1)) a3;rw[e1];exact a3
  |arr T t xs=>
   rcases hR with⟨e1,_,hfl⟩|⟨e1,_⟩
   rw[Abk]at hfl;have hft:t.flat=true:=by simpa [Is]using hfl _ (Abj ho1)
   obtain⟨h0,h1⟩:=hob;refine⟨h0,?_⟩;cases hm3:m3 j with
    |none=>rw[hm3]at h1;exact h1
    |some p=>obtain⟨b,cap⟩:=p;rw[hm3]at h1;obtain⟨vs,row,a1,a2,a3,a4,a5,a6⟩:=h1;exact⟨vs,row,a1,a2,a3,a4,A2 (fun x _ cs hx=>hx.flat t hft) a5,a6⟩
   rw[e1];exact hob
  |map k v es=>
   obtain⟨b,c,ms,clock,a1,a2,a3,a4⟩:=hob;refine⟨b,c,ms,clock,a1,a2,?_,a4⟩;rcases hR with⟨e1,_,hfl⟩|⟨e1,_⟩
   rw[Abk]at hfl;have hft:k.flat=true∧v.flat=true:=by simpa [Is]using hfl _ (Abj ho1)
   exact ANu hft.1 hft.2 a3;rw[e1];exact a3
  |prs T tgt is=>
   simp only[Cw];cases hm3:m3 j with
    |none=>rw[hm3]at hob;exact hob
    |some p=>
     obtain⟨b,cap⟩:=p;rw[hm3]at hob;obtain⟨vs,us,a1,a2,a3,a4,a5,a6,a7⟩:=hob;refine⟨vs,us,a1,a2,a3,a4,?_,a6,a7⟩;rw[← ARF];refine AP.ren hmoved _ ?_;rcases hR with⟨e1,_,hfl⟩|⟨e1,_⟩
     exact AP.flat _ (ANq tgt is) a5;rw[e1];exact a5
  |rows T e t xs ver out=>exact absurd (pl1 j _ ho1) (by simp[A8])
 rw[getGv hg]at ho;cases ho;trivial;rw[getOut hi hg]at ho;rw[mOut (x:=.o i) hi];refine ObI.mono hcell (fun b h=>hBR b (hFB b h)) hcomp (fun h1 h2 b c hm hlt=>keep b hlt fun j id c' hj=>blkNe hi hg ⟨o,ho,h1,h2⟩ hm hj) (hiC.obj i o ho);-- rows
 intro i;rcases inOut i with⟨j,hj⟩|hg|⟨hi,hg⟩
 obtain⟨o1,ho1⟩:=has1 hj;exact Bk.plain (getIn hj ho1) (plR (pl1 j o1 ho1));exact Bk.plain (getGv hg) rfl
 refine Bk.mono hcell (fun b h=>hBR b (hFB b h)) hcomp (getOut hi hg) (fun x hx=>mOut (by rw[hx];exact hi))
  (fun x hx hox b c hm hlt=>keep b hlt fun j id c' hj he => ?_) (hiC.row i)
 refine gA.2.neX (giv j id hj) he hox hm ?_ rfl;rintro rfl;have hx:id=i:=hx;subst hx;rcases Abv j np with hj'|hj';exact hi (Abj (hwhole (tk' hj' hj)));exact hg (gvO hj' hj);intro i T e t xs ver out hio hf x hx ht b c hm;rcases inOut i with⟨j,hj⟩|hg|⟨hi,hg⟩
 obtain⟨o1,ho1⟩:=has1 hj;rw[getIn hj ho1]at hio;have:=plR (pl1 j o1 ho1);rw[Acf hio]at this;cases this;rw[getGv hg]at hio;cases hio;rw[mOut (x:=x) (by rw[hx];exact hi)]at hm;have h1:=getOut hi hg;exact hBR b (hiB.rfz i T e t xs ver out (h1▸hio) hf x hx ((CF (by rw[hx];exact h1)).1 ht) b c hm);-- apart
 intro i j b c b' c' hoi hoj hij hmi hmj;rcases cls i hoi with⟨i,k,o1,rfl,hk,ho1⟩|⟨hi,hgi⟩
 rw[mIn hk]at hmi;rcases cls j hoj with⟨j,l,o2,rfl,hl,ho2⟩|⟨hj,hgj⟩
 rw[mIn hl]at hmj;have hkl:k≠l:=by rintro rfl;rw[hk]at hl;cases hl;exact hij rfl
 exact hi1.sep k l b c b' c' (own1 ho1) (own1 ho2) (AXK hkl) hmi hmj;rw[mOut hj]at hmj;rintro rfl;exact bOut hj hgj (ownOut hj hgj hoj) hmj ho1 hmi;rw[mOut hi]at hmi;rcases cls j hoj with⟨j,l,o2,rfl,hl,ho2⟩|⟨hj,hgj⟩
 rw[mIn hl]at hmj;rintro rfl;exact bOut hi hgi (ownOut hi hgi hoi) hmi ho2 hmj;rw[mOut hj]at hmj;exact hiB.sep i j b c b' c' (ownOut hi hgi hoi) (ownOut hj hgj hoj) hij hmi hmj;-- none of them frozen
 intro i b c hoi hmi hb;rcases cls i hoi with⟨i,k,o1,rfl,hk,ho1⟩|⟨hi,hg⟩
 rw[mIn hk]at hmi;exact hi1.off k b c (own1 ho1) hmi (FR3 b hb);rw[mOut hi]at hmi;have ho:=ownOut hi hg hoi;rcases hR with⟨e1,e2,_⟩|⟨e1,e2⟩
 rw[e1]at hb;exact hiC.off i b c (ownR ho) hmi hb;rw[e1]at hb;rcases bnd b hb with h|⟨j,id,c',h1,h2⟩|h;rw[e2]at ho;exact gA.2.off i b c ho hmi h;exact blkNe' hi hg ho hmi h1 h2;have:=hiB.GD ho hmi;omega;intro i T t xs b c hio hf hmi;rcases inOut i with⟨k,hk⟩|hg|⟨hi,hg⟩
 obtain⟨o1,ho1⟩:=has1 hk;rw[getIn hk ho1]at hio;have:o1 = .arr T t xs:=by cases o1<;>simp only[Cw,AbZ]at hio<;>first|exact hio|cases hio
 rw[hunf hk ho1 this]at hf;cases hf;rw[getGv hg]at hio;cases hio;rw[getOut hi hg]at hio;rw[mOut (x:=.o i) hi]at hmi;exact hBR b (hiB.froz i T t xs b c hio hf hmi);intro b hb;exact hi1.lt b (FR3 b hb);rw[M5,Pr];exact hiB.len
end
end Go.Pev
end
section
namespace Go.Pev
open Go.RowKit
section
variable [DfI] {P:Program} {w:World} {F:Nat→Prop} {m:Mp} {st:St} {a:Act}
def WM(tmps:Array Value):ResultVar→Sem Value
 |.tmp t=>pure (tmps.getD t undef)
 |.cell x t=>do loadVar t (← asAddr (tmps.getD x undef))
theorem ZZ(hs:SI w F m st a){rv:ResultVar}{v:AV}(h:K2 P st rv=some v):
  ∃ u,(WM a.tmps rv).run P w = .ok u w∧Rep w F m st.heap v u:=by
 cases rv with
  |tmp t=>simp only[K2,AbZ]at h;subst h;exact⟨_,rfl,hs.tmps t⟩
  |cell x T=>
   simp only[K2]at h;split at h;rename_i id off n ag h1 h2 h3;split at h;rename_i cs ho;have hr:=hs.tmps x;have e1:st.tmps.f x = .ptr id off:=h1;rw[e1]at hr;unfold Rep Eh at hr;rw[ho]at hr;obtain⟨b,c,e2,e3⟩:=hr;obtain⟨b',c',vs,T',e4,e5,e6,e7⟩:=hs.heap.obj id _ ho;rw[e2]at e4;cases e4;obtain⟨u,k1,k2⟩:=CT (P:=P) h2 h3 h (Dy e6 off) (ad:=⟨b,off,none⟩) (fun u hu=>e7 u (AcT hu)) (fun j u hu=>by rw[Ab4]at hu;rw[Bp];simp only[World.cell?,e5];simpa using hu)
   refine⟨u,?_,k2⟩;simp[WM,e3,asAddr,k1];cases h;cases h
theorem WL(hs:SI w F m st a):∀ {rvs:List ResultVar} {vs:List AV},Ct P st rvs=some vs →
  ∃ us,(rvs.mapM (WM a.tmps)).run P w = .ok us w∧AP w F m st.heap vs us:=by
 intro rvs;induction rvs with
  |nil=>intro vs h;simp only[Ct,AbZ]at h;subst h;exact⟨[],by simp[List.mapM_nil],HX⟩
  |cons rv rvs ih=>intro vs h;simp only[Ct]at h;split at h;cases h;rename_i v hv;split at h;cases h;rename_i vs' hvs;simp only[AbZ]at h;subst h;obtain⟨u,h1,h2⟩:=ZZ hs hv;obtain⟨us,h3,h4⟩:=ih hvs;refine⟨u::us,?_,by unfold AP;exact⟨u,us,rfl,h2,h4⟩⟩;rw[List.mapM_cons];simp only[Sem.run_bind];rw[h1];simp only[Result.andThen_ok];rw[h3];simp
def Wk(us:List Value):Value:=if h:us.toArray.size=1 then us.toArray[0]else .tuple us.toArray
theorem Hn(hs:SI w F m st a){fn:Func}{vs:List AV}(h:Ct P st fn.results.toList=some vs):
  ∃ us,(results fn a.tmps).run P w = .ok (Wk us) w∧AP w F m st.heap vs us:=by
 obtain⟨us,h1,h2⟩:=WL hs h;refine⟨us,?_,h2⟩
 have e:results fn a.tmps=(do
   let vs ← fn.results.mapM (WM a.tmps)
   pure (if h:vs.size=1 then vs[0]else .tuple vs)):=by
  unfold results
  congr 2
 rw[e,AdU];simp only[Sem.run_bind,map_eq_pure_bind];rw[h1];rfl
theorem Ss{H:List Ob}{vs:List AV}{us:List Value}(h:AP w F m H vs us):Rep w F m H (single vs) (Wk us):=by
 have hl:=Ae h;unfold Wk;match vs,us,hl with
 |[],[],_=>
  simp only[single]
  unfold Rep
  exact⟨_,rfl,h⟩
 |[v],[u],_=>
  simp only[single]
  unfold AP at h
  obtain⟨_,_,e,h1,_⟩:=h
  cases e
  exact h1
 |v::v'::vs,u::u'::us,_=>
  simp only[single]
  unfold Rep
  exact⟨_,rfl,h⟩
def Gl:List RS→List Value→List Value
 |.one::r,u::us=>u::Gl r us
 |.agg _::r,u::us=>u.cells.toList++Gl r us
 |_,_=>[]
theorem AEr{H:List Ob}:∀ {rs:List RS} {vs:List AV} {us:List Value} {tm:List AV},EC rs vs=some tm→AP w F m H vs us →
  AP w F m H tm (Gl rs us)∧(Gl rs us).length=cellsOf rs∧∀ (w2:World) (F2:Nat→Prop) (m2:Mp) (H2:List Ob) (ws:List AV),AP w2 F2 m2 H2 ws (Gl rs us)→AP w2 F2 m2 H2 (DJ rs ws) us:=by
 intro rs;induction rs with
  |nil=>
   intro vs us tm h hr;cases vs with
    |nil=>simp only[EC,AbZ]at h;subst h;unfold AP at hr;subst hr;exact⟨HX,rfl,fun _ _ _ _ _ _=>HX⟩
    |cons v vs=>simp[EC]at h
  |cons r rs ih=>
   intro vs us tm h hr;cases vs with
    |nil=>cases r<;>simp[EC]at h
    |cons v vs=>
     unfold AP at hr;obtain⟨u,us',rfl,hv,hr⟩:=hr;cases r with
      |one=>
       simp only[EC]at h;split at h;rename_i l hl;simp only[AbZ]at h;subst h;obtain⟨h1,h2,h3⟩:=ih hl hr;refine⟨by simp only[Gl];unfold AP;exact⟨u,_,rfl,hv,h1⟩,by simp[Gl,cellsOf,RS.cells,h2];omega,fun w2 F2 m2 H2 ws hw => ?_⟩;simp only[Gl]at hw;cases ws with
        |nil=>unfold AP at hw;cases hw
        |cons x ws=>unfold AP at hw;obtain⟨y,ys,e,q1,q2⟩:=hw;cases e;simp only[DJ,List.headD_cons,Ac0];unfold AP;exact⟨u,us',rfl,q1,h3 w2 F2 m2 H2 ws q2⟩
       cases h
      |agg n=>
       simp only[EC]at h;split at h
       ·rename_i cs hag hcs;split at h
        ·rename_i hn;simp only[Abb]at hn;split at h
         ·rename_i l hl;simp only[AbZ]at h;subst h;obtain⟨h1,h2,h3⟩:=ih hl hr;have hc:=cells?_ok hcs hv;have ho:=cells?_one hcs hv;have hcl:=Ae hc;have hu:u = .agg u.cells:=by
           cases v<;>simp only[KA]at hag<;>try (cases hag;done)
           rename_i t d;unfold Rep BT at hv;rw[AcO hag]at hv;obtain⟨x,rfl,_⟩:=hv;rfl;unfold Rep at hv;obtain⟨x,rfl,_⟩:=hv;rfl
          refine⟨by simp only[Gl];exact E8 hc h1,by simp[Gl,cellsOf,RS.cells,h2]at hcl ⊢;omega,fun w2 F2 m2 H2 ws hw => ?_⟩;simp only[Gl]at hw;have ht:=Jr hw n;have hd:=Dy hw n;have hn':u.cells.toList.length=n:=by rw[hcl,hn]
          rw[List.take_left' hn']at ht;rw[List.drop_left' hn']at hd;simp only[DJ];unfold AP;refine⟨u,us',rfl,?_,h3 w2 F2 m2 H2 _ hd⟩;unfold Rep;exact⟨u.cells,hu,ht,ho⟩
         cases h
        cases h
       cases h
end
end Go.Pev
end
section
namespace Go.Pev
open Go.RowKit
theorem BS {P : Program} {g : FuncId} {fn : Func} (hf : P.funcs[g]? = some fn) (hb : fn.body.isSome = true) (hn : (fn.name == "runtime.NumGoroutine") = false) : FF P g := by
 intro args w;obtain⟨c,hc⟩:=AcP.1 hb;have hn' : ¬ fn.name = "runtime.NumGoroutine" := by simpa using hn
 simp[callFunc,hf,hn',hc]
theorem IG{P:Program}{np:Nat}{h:Hints}:∀ (c:Code) (n:Nat),loops c=0→Ax P np h c n:=by
 intro c;induction c with
  |seq a b iha ihb=>intro n hl;simp only[loops]at hl;exact⟨iha n (by omega),ihb _ (by omega)⟩
  |cond c a b iha ihb=>intro n hl;simp only[loops]at hl;exact⟨iha n (by omega),ihb _ (by omega)⟩
  |block id c ih=>intro n hl;simp only[loops]at hl;exact ih n hl
  |loop c ih=>intro n hl;simp only[loops]at hl;omega
  |_=>intro n _;trivial
section
variable {P:Program} {E:Env} {h:Hints} {g:FuncId} {fn:Func} {c:Code}
theorem Vq{w:World}{F:Nat→Prop}{m:Mp}{H:List Ob}{args:List AV}{vals:List Value}(hr:AP w F m H args vals)(n:Nat)(t:Nat):
  Rep w F m H (args.getD t .Bo) ((vals.toArray++Array.replicate n undef).getD t undef):=by
 have hl:=Ae hr;have e:(vals.toArray++Array.replicate n undef).getD t undef=(vals++List.replicate n undef).getD t undef:=by rw[Abm,Abi,← AcG];simp
 rw[e,Abi,Abi];rcases Abv t args.length with ht|ht;rw[Abq (by omega)];obtain⟨v,hv,hrv⟩:=B4 hr (i:=t) (c:=args[t]) (Abg ht);rw[hv,Abg ht];exact hrv;rw[Abo ht];exact(by unfold Rep;trivial:Rep w F m H .Bo _)
theorem AAe(hE:∀ g,Ad P g (E.spec g))(hL:DG E)(hP:EL P E)(hf:P.funcs[g]? = some fn)(hb:fn.body=some c)(hc:FF P g)(hl:loops c=0):
  Ad P g (BN P E h fn):=by
 intro R args H fz slot k r hk;simp only[BN,hb]at hk;split at hk;cases hk;rename_i hle;simp only[Abb]at hle;obtain⟨e,st',h1,h2,h3⟩:=B2 hE hL hP (np:=H.length) c 0 (IG c 0 hl) R _ _ r hk;have key:∃ vs,Ct P st' fn.results.toList=some vs∧k (single vs) { heap:=some (st'.heap,st'.frz) }=some r∧(e = .normal∨e = .ret):=by
  cases e with
   |normal=>simp only at h1;split at h1;rename_i vs hvs;exact⟨vs,hvs,h1,.inl rfl⟩;cases h1
   |ret=>simp only at h1;split at h1;rename_i vs hvs;exact⟨vs,hvs,h1,.inr rfl⟩;cases h1
   |_=>simp at h1
 obtain⟨vs,hvs,h4,he⟩:=key;refine⟨_,_,h4,fun R' k' => ?_,hc,fun w F m vals hi hr => ?_⟩;simp only[BN,hb,hle,Aby];refine(h2 R' _).trans ?_;rcases he with rfl|rfl<;>simp only[hvs];have hlv:=Ae hr;refine calls_of_wp hf hb ?_;have hsi:SI w F m { tmps:=.of args fn.ntmps,heap:=H,frz:=fz } { tmps:=vals.toArray++Array.replicate (fn.ntmps-vals.toArray.size) undef,defers:=[] }:=by refine⟨fun t => ?_,?_,hi,rfl⟩;have:=Vq hr (fn.ntmps-args.length) t;simp only[Ab7,hlv];exact this;simp[hlv,Tm.of];omega
 refine h3 w F m _ _ hsi fun a' w' F' m' s1 x1 => ?_;obtain⟨us,r1,r2⟩:=Hn s1 hvs;have hgo:Aa w F m H fz w' F' m' st'.heap st'.frz:=⟨⟨x1.os,x1.tape,x1.output,x1.size,x1.keep,x1.sub,x1.bnd,x1.own,fun i o ho hf=>x1.comp i o (AY ho) ho hf⟩,s1.heap⟩
 have hpost:a'.defers=[]∧∃ v,(results fn a'.tmps).run P w' = .ok v w'∧(fun(en:Ending) (w':World)=>∃ u,en = .returned u∧∃ F' m',Aa w F m H fz w' F' m' (Bj { heap:=some (st'.heap,st'.frz) } H) (Dc { heap:=some (st'.heap,st'.frz) } fz)∧Rep w' F' m' (Bj { heap:=some (st'.heap,st'.frz) } H) (single vs) u) (.returned v) w':=
  ⟨s1.defers,_,r1,_,rfl,F',m',hgo,Ss r2⟩
 rcases he with rfl|rfl<;>exact hpost
theorem T4{w:World}{F:Nat→Prop}{m:Mp}{H:List Ob}{fz:List Bool}{bs:List Bnd}{m':Mp}{E:St}{val:Nat→Value}(h:Inv w F m H fz bs m' E val){j:Nat}{o:Ob}(hj:E.heap[j]? = some o):alive o:=by
 have hlt:=AY hj;rw[h.lenH]at hlt;have hx:bs[j]? = some bs[j]:=Abg hlt;have hb:=h.ob j _ hx;cases hc:bs[j]with
  |none=>rw[hc]at hb;simp only[A4]at hb;obtain⟨_,⟨T,e,e2,_⟩|⟨T,e,e2⟩⟩:=hb<;>(rw[hj]at e2;cases e2;trivial)
  |whole id=>rw[hc]at hb;simp only[A4]at hb;rcases hb.2 with⟨T,t,xs,_,a2,_⟩|⟨k,v,es,_,a2⟩|⟨cs,cs',b,c,vs,T,_,a2,_⟩|⟨_,_,_,_,_,a2,_⟩|⟨_,_,_,_,_,_,a2,_⟩<;>(rw[hj]at a2;cases a2;trivial)
  |cut id=>rw[hc]at hb;simp only[A4]at hb;obtain⟨T,t,xs,n,_,_,a3,_⟩:=hb;rw[hj]at a3;cases a3;trivial
theorem Dq{st:St}(h:st.heap.all A8=true)(v:AV)(l:Loc):(place st v l).heap.all A8=true:=by
 cases l with
  |cell j c=>simp only[place];split;rw[Abk]at h ⊢;intro o ho;rcases List.mem_or_eq_of_mem_set ho with h1|rfl;exact h o h1;rfl;exact h
  |_=>exact h
theorem HD{st:St}(h:st.heap.all A8=true){o:Ob}(ho:A8 o=true):(DE st o).heap.all A8=true:=by simp[DE,h,ho]
theorem AML:∀ (its:AB) (d:Ag (leaves its)) (st:St),EX its=true→st.heap.all A8=true→(enc its d st).heap.all A8=true:=by
 intro its;induction its with
  |nil=>intro d st _ h;exact h
  |cons p r ih=>
   intro d st hn h;obtain⟨l,c⟩:=p;cases c with
    |rows T e t=>simp[EX]at hn
    |mrows j e t=>simp[EX]at hn
    |aptr T e n=>exact ih _ _ hn (Dq (HD h rfl) _ _)
    |own T e=>exact ih _ _ hn (Dq (HD h rfl) _ _)
    |box n=>exact ih _ _ hn (Dq (HD h rfl) _ _)
    |map k v=>exact ih _ _ hn (Dq (HD h rfl) _ _)
    |prs T j=>exact ih _ _ hn (Dq (HD h rfl) _ _)
    |_=>exact ih _ _ hn (Dq h _ _)
theorem JW{its:AB}{d:Ag (leaves its)}{n:Nat}(hn:EX its=true){j:Nat}{o:Ob}(h:(encode n its d).heap[j]? = some o):A8 o=true:=
 Abk.1 (AML its d (blank n) hn rfl) o (Abj h)
theorem Zl{its:AB}{d:Ag (leaves its)}{n:Nat}(hn:EX its=true){fz:List Bool}{x:Ix}(h:owned (encode n its d).heap fz x):x = .o x.id:=by
 cases x with
  |o i=>rfl
  |r i k=>obtain⟨o,ho,_⟩:=Cf h;exact absurd h (Dr ho (JW hn ho))
theorem NQ{np:Nat}{outs:AB}{rs:List RS}{st:St}{y:Ag (leaves outs)}(h:finish np P fn outs rs st=some y):
  ∃ vs tm bs fr,Ct P st fn.results.toList=some vs∧EC rs vs=some tm∧dec (lk tm) st.heap outs st.frz []=some (y,bs,fr)∧(pins np 0 bs&&(st.heap.take np).all A8)=true:=by unfold finish at h;split at h;rename_i vs hvs;split at h;rename_i tm htm;split at h;rename_i y' bs fr hd;split at h;rename_i hp;simp only[AbZ]at h;subst h;exact⟨vs,tm,bs,fr,hvs,htm,hd,hp⟩;cases h;cases h;cases h;cases h
theorem L3{R:Type}{r:R}{gv:List Nat}{bs:List Bnd}{fr:List Nat}{rs:List RS}{X:St}{ids:List Nat}{H:List Ob}{fz:List Bool}{k:AV→Eff→Option R}(hk:GQ R gv bs fr rs X ids H fz k=some r):
  ∃ e,k (single (DJ rs (GW ids X.tmps.list))) e=some r∧e.heap=none∧e.objs=gv.map (fun i=>(i,.dead))++ids.zip (X.heap.map (Cw ids)) ∧
   (∀ R' (k':AV→Eff→Option R'),GQ R' gv bs fr rs X ids H fz k'=k' (single (DJ rs (GW ids X.tmps.list))) e) ∧
   D9 H (AS e.frz fz) ids bs=true∧GC ids=true ∧
   ((e.frz=[]∧Gm X.tmps.list=true∧X.heap.all Is=true)∨e.frz=fr):=by unfold GQ at hk;split at hk;rename_i hflat;split at hk;rename_i hok;simp only[Aba]at hok hflat;refine⟨_,hk,rfl,rfl,fun R' k'=>by simp only[GQ,hflat.1,hflat.2,hok.1,hok.2,Aca],hok.1,hok.2,.inl ⟨rfl,hflat.1,hflat.2⟩⟩;cases hk;rename_i hflat;split at hk;rename_i hok;simp only[Aba]at hok;refine⟨_,hk,rfl,rfl,fun R' k'=>by simp only[GQ,hflat,hok.1,hok.2,Aca],hok.1,hok.2,.inr rfl⟩;cases hk
theorem Kj{w:World}{F:Nat→Prop}{m:Mp}{H:List Ob}{fz:List Bool}{args:List AV}{vals:List Value}{na:Nat}{its:AB}{x:Ag (leaves its)}{bs:List Bnd}{fr:List Nat}(hi:HI w F m H fz)(hr:AP w F m H args vals)(hal:args.length=na)(hna:na≤fn.ntmps)(hdec:dec (lk args) H its fz []=some (x,bs,fr)):
  ∃ F2 m2,Aa w F m H fz w F2 m H (AS fr fz)∧Inv w F2 m H (AS fr fz) bs m2 (encode fn.ntmps its x) (fun t=>(vals.toArray++Array.replicate (fn.ntmps-vals.toArray.size) undef).getD t undef) ∧
   SI w F2 m2 (encode fn.ntmps its x) { tmps:=vals.toArray++Array.replicate (fn.ntmps-vals.toArray.size) undef,defers:=[] }:=by
 have hlv:=Ae hr
 obtain⟨F2,m2,gA,invA,_⟩:=AGo (val:=fun t=>(vals.toArray++Array.replicate (fn.ntmps-vals.toArray.size) undef).getD t undef) its fz [] F (fun _=>none) (blank fn.ntmps) x bs fr hi
  (fun t v ht=>by
   have:=Vq hr (fn.ntmps-vals.toArray.size) t
   rw[Abi,show args[t]? = some v from ht]at this
   exact this) (Inv.blank fn.ntmps) hdec
 have hsi:SI w F2 m2 (encode fn.ntmps its x) { tmps:=vals.toArray++Array.replicate (fn.ntmps-vals.toArray.size) undef,defers:=[] }:=by refine⟨invA.tmps,?_,invA.hi gA.2,rfl⟩;rw[Iw];simp[hlv];omega
 exact⟨F2,m2,gA,invA,hsi⟩
theorem QR{w:World}{F:Nat→Prop}{m:Mp}{H:List Ob}{fz:List Bool}{val:Nat→Value}{np n:Nat}{its outs:AB}{rs:List RS}{x:Ag (leaves its)}{y:Ag (leaves outs)}{bs bs':List Bnd}{fr fr':List Nat}{F2:Nat→Prop}{m2:Mp}{slot:Nat}{e:Eff}{ids gv:List Nat}
  (hi:HI w F m H fz) (gA:Aa w F m H fz w F2 m H (AS fr fz)) (invA:Inv w F2 m H (AS fr fz) bs m2 (encode n its x) val)
  (huncut:bs.all Bnd.AIK=true) (hri:EX its=true) (hro:EX outs=true) (hids:B7 (CI outs) (bs.take np) slot=ids) (hgv:given (bs.drop np)=gv)
  (he1:e.heap=none) (he2:e.objs=gv.map (fun i=>(i,.dead))++ids.zip ((encode (cellsOf rs) outs y).heap.map (Cw ids))) (hok:D9 H (AS e.frz fz) ids (bs.take np)=true) (hnd:GC ids=true)
  (hfl:(e.frz=[]∧Gm (encode (cellsOf rs) outs y).tmps.list=true∧(encode (cellsOf rs) outs y).heap.all Is=true)∨e.frz=fr)
  {w':World} {F':Nat→Prop} {m':Mp} {st':St} (s1h:HI w' F' m' st'.heap st'.frz) (x1:Fl np w F2 m2 (encode n its x).heap (encode n its x).frz w' F' m' st'.heap st'.frz)
  {vs:List AV} {us:List Value} {tm:List AV} (r2:AP w' F' m' st'.heap vs us) (htm:EC rs vs=some tm) (hd':dec (lk tm) st'.heap outs st'.frz []=some (y,bs',fr')) (hp:pins np 0 bs'=true) :
  ∃ F' m',Aa w F m H fz w' F' m' (Bj e H) (Dc e fz)∧Rep w' F' m' (Bj e H) (single (DJ rs (GW ids (encode (cellsOf rs) outs y).tmps.list))) (Wk us):=by
 obtain⟨q1,q2,q3⟩:=AEr htm r2
 obtain⟨F3,m3,gC,invC,_⟩:=AGo (val:=fun t=>(Gl rs us).getD t undef) outs st'.frz [] F' (fun _=>none) (blank (cellsOf rs)) y bs' fr' s1h
  (fun t v ht=>by
   obtain⟨u,hu,hru⟩:=B4 q1 ht
   rw[Abi,hu]
   exact hru) (Inv.blank (cellsOf rs)) hd'
 have srcA:∀ {j:Ix} {b c},owned (encode n its x).heap (encode n its x).frz j→m2 j=some (b,c)→∃ id:Nat,bs[j.id]? = some (.whole id)∧owned H (AS fr fz) id∧m id=some (b,c):=by
  intro j b c ho hm;have hj:=Zl hri ho;obtain⟨y,id,k1,k2,k3,k4⟩:=invA.src ho hm;rw[hj]at k3 k4;rw[Abk]at huncut;have:=huncut y (Abj k1);cases y with
   |none=>simp[Bnd.id?]at k2
   |whole i=>simp only[Bnd.id?,AbZ]at k2;subst k2;exact⟨_,k1,k3,k4⟩
   |cut i=>simp[Bnd.AIK]at this
 have hinj:∀ (i j id:Nat),bs[i]? = some (.whole id)→bs[j]? = some (.whole id)→i=j:=fun i j id h1 h2=>invA.inj i j _ _ id h1 h2 rfl rfl;have start:∀ (j id:Nat),bs[j]? = some (.whole id)→m2 j=m id∧∃ o o0,H[id]? = some o∧alive o∧(encode n its x).heap[j]? = some o0∧sameShape o o0∧alive o0∧owned H (AS fr fz) id:=by
  intro j id hj;have hA:=invA.ob j _ hj;simp only[A4]at hA;obtain⟨eA,hA⟩:=hA;refine⟨eA,?_⟩;rcases hA with⟨T,t,xs,a1,a2,a3⟩|⟨k,v,es,a1,a2⟩|⟨cs,cs',b,cc,vs,T,a1,a2,_⟩|⟨_,_,_,_,a1,a2,_⟩|⟨_,_,_,_,_,_,a2,_⟩
  exact⟨_,_,a1,trivial,a2,⟨rfl,rfl⟩,trivial,Ph a1 trivial a3⟩;exact⟨_,_,a1,trivial,a2,trivial,trivial,by simp only[owned,BY];rw[a1];trivial⟩;rotate_left;exact⟨_,_,a1,trivial,a2,rfl,trivial,by simp only[owned,BY];rw[a1];trivial⟩;exact absurd (JW hri a2) (by simp[A8]);exact⟨_,_,a1,trivial,a2,trivial,trivial,by simp only[owned,BY];rw[a1];trivial⟩
 have hpin:∀ (j id:Nat),(bs.take np)[j]? = some (.whole id)→∃ o o1,H[id]? = some o∧alive o∧(encode (cellsOf rs) outs y).heap[j]? = some o1∧sameShape o o1∧m3 j=m id:=by
  intro j id hj0;rw[Abx]at hj0;split at hj0;case isFalse=>cases hj0
  rename_i hjn;obtain⟨eA,o,o0,s1,s2,s3,s4,s5,s6⟩:=start j id hj0;have hC:=invC.ob j _ (by have:=Zs _ 0 bs' hp j hjn;rw[Ab5]at this;exact this);simp only[A4]at hC;obtain⟨eC,hC⟩:=hC;have mid:=x1.comp j o0 hjn s3 (ACE s5).1;have fin:∃ o2 o1,st'.heap[j]? = some o2∧alive o2∧(encode (cellsOf rs) outs y).heap[j]? = some o1∧sameShape o2 o1:=by
   rcases hC with⟨T,t,xs,a1,a2,a3⟩|⟨k,v,es,a1,a2⟩|⟨cs,cs',b,cc,vs,T,a1,a2,_⟩|⟨_,_,_,_,a1,a2,_⟩|⟨_,_,_,_,_,_,a2,_⟩
   exact⟨_,_,a1,trivial,a2,⟨rfl,rfl⟩⟩;exact⟨_,_,a1,trivial,a2,trivial⟩;rotate_left;exact⟨_,_,a1,trivial,a2,rfl⟩;exact absurd (JW hro a2) (by simp[A8]);exact⟨_,_,a1,trivial,a2,trivial⟩
  obtain⟨o2,o1,t1,t2,t3,t4⟩:=fin;rcases mid with md|⟨_,o2',md1,md2,md3,_⟩
  rw[t1]at md;cases md;exact t2.elim;rw[t1]at md1;cases md1;exact⟨o,o1,s1,s2,t3,(s4.trans md2).trans t4,by rw[eC,md3,eA]⟩
 have hiC1:=invC.hi gC.2;have hblk:∀ j b cc:Nat,owned (encode (cellsOf rs) outs y).heap (encode (cellsOf rs) outs y).frz j→m3 j=some (b,cc)→(∃ id c':Nat,(bs.take np)[j]? = some (.whole id)∧m id=some (b,c'))∨(∃ k id c':Nat,np≤k∧bs[k]? = some (.whole id)∧m id=some (b,c'))∨w.heap.size≤b:=by
  intro j b cc ho hm;obtain⟨_,i',k1,k2,k3,k4⟩:=invC.src ho hm;rcases x1.own i' b cc (Ce k3) k4 with⟨i,c0,l1,l2⟩|h;obtain⟨id,n1,n2,n3⟩:=srcA l1 l2;have hio:=Zl hri l1;generalize i.id=i0 at n1 hio;subst hio;rcases Abv i0 np with hin|hin;left;have n1':(bs.take np)[i0]? = some (.whole id):=by rw[Abx,AcO hin];exact n1
  obtain⟨o,o1,p1,p2,p3,p4,p5⟩:=hpin i0 id n1';have hoi:owned (encode (cellsOf rs) outs y).heap (encode (cellsOf rs) outs y).frz i0:=Ph p3 (T4 invC p3) (invC.frz i0);by_cases hij:j=i0;subst hij;exact⟨id,c0,n1',n3⟩;exact absurd rfl (hiC1.sep j i0 b cc b c0 ho hoi (AXK hij) hm (by rw[p5];exact n3));exact .inr (.inl ⟨i0,id,c0,hin,n1,n3⟩);exact .inr (.inr h)
 have hkeep:∀ b,b<w.heap.size→(∀ (j id:Nat) (c:Nat),bs[j]? = some (.whole id)→m id≠some (b,c))→w'.heap[b]? = w.heap[b]? := by intro b hb hn;refine x1.keep b hb fun i cc ho hm => ?_;obtain⟨id,n1,_,n3⟩:=srcA ho hm;exact hn i.id id cc n1 n3
 have hbnd:∀ b,F3 b→F2 b∨(∃ (j id c:Nat),bs[j]? = some (.whole id)∧m id=some (b,c))∨w.heap.size≤b:=by
  have hx:∀ {i:Ix} {b cc:Nat},owned (encode n its x).heap (encode n its x).frz i→m2 i=some (b,cc)→∃ (j id c:Nat),bs[j]? = some (.whole id)∧m id=some (b,c):=by intro i b cc ho hm;obtain⟨id,n1,_,n3⟩:=srcA ho hm;exact⟨i.id,id,cc,n1,n3⟩
  intro b hb;rcases gC.1.bnd b hb with h|⟨i,cc,ho,hm⟩|h;rcases x1.bnd b h with h|⟨i,cc,ho,hm⟩|h;exact .inl h;exact .inr (.inl (hx ho hm));exact .inr (.inr h);rcases x1.own i b cc ho hm with⟨i',c0,ho,hm⟩|h;exact .inr (.inl (hx ho hm));exact .inr (.inr h);exact .inr (.inr (AcX x1.size h))
 have hidl:ids.length=(encode (cellsOf rs) outs y).heap.length:=by rw[← hids,ANb];unfold encode;rw[ATx];simp[blank]
 obtain⟨FR,hFR,hRR⟩:∃ FR,((FR=F∧AS e.frz fz=fz∧(encode (cellsOf rs) outs y).heap.all Is=true)∨(FR=F3∧AS e.frz fz=AS fr fz))∧AP w' FR m3 (encode (cellsOf rs) outs y).heap (encode (cellsOf rs) outs y).tmps.list (Gl rs us):=by
  have hrt:AP w' F3 m3 (encode (cellsOf rs) outs y).heap (encode (cellsOf rs) outs y).tmps.list (Gl rs us):=by refine Cm (by rw[Tm.ASl,Iw,q2]) fun i a u ha hu => ?_;have:=invC.tmps i;rw[Abi,hu]at this;rw[Tm.ASm ha];exact this
  rcases hfl with⟨f1,f2,f3⟩|f1;exact⟨F,.inl ⟨rfl,by rw[f1];rfl,f3⟩,AP.flat _ f2 hrt⟩;exact⟨F3,.inr ⟨rfl,by rw[f1]⟩,hrt⟩
 obtain⟨hgo,hmv⟩:=AOm (ids:=ids) (np:=np) hi gA (fun j id hj=>(start j id hj).2.elim fun _ h=>h.elim fun _ h=>h.2.2.2.2.2) hinj hpin hblk x1.os x1.tape x1.output x1.size hkeep (fun b h=>gC.1.sub b (x1.sub b h)) hbnd hiC1 (fun j o hj=>T4 invC hj) (fun j o hj=>JW hro hj) invC.frz hidl hok hnd hFR;rw[hgv]at hgo hmv;have hH:Bj e H=Au (ids.zip ((encode (cellsOf rs) outs y).heap.map (Cw ids))) (Ch gv H):=by rw[By he1,he2,M6];rfl
 have hZ:Dc e fz=AS e.frz fz:=CE he1 fz;refine⟨FR,mOf ids m3 m,?_,?_⟩;rw[hH,hZ];exact hgo;rw[hH];exact Ss (q3 _ _ _ _ _ (AP.ren hmv _ hRR))
theorem AMu(hE:∀ g,Ad P g (E.spec g))(hL:DG E)(hP:EL P E)(hf:P.funcs[g]? = some fn)(hb:fn.body=some c)(hc:FF P g)
  {np na:Nat} (hna:na≤fn.ntmps) {its outs:AB} {rs:List RS} {f:Ag (leaves its)→Option (Ag (leaves outs))} (hfun:∀ x,f x=Cd np P E h fn its outs rs x) (hl:Ax P np h c 0) :
  Ad P g (AF np na its outs rs f):=by
 intro R args H fz slot k r hk;simp only[AF]at hk;split at hk;cases hk;rename_i x bs fr hdec;split at hk;cases hk;rename_i hchk;simp only[Aba,Abb]at hchk;obtain⟨⟨⟨huncut,hbl⟩,hal⟩,hri,hro⟩:=hchk;split at hk;cases hk;rename_i y hy;generalize hids:B7 (CI outs) (bs.take np) slot=ids at hk;generalize hgv:given (bs.drop np)=gv at hk;obtain⟨e,h4,he1,he2,h5,hok,hnd,hfl⟩:=L3 hk;refine⟨_,e,h4,fun R' k' => ?_,hc,fun w F m vals hi hr => ?_⟩;simp only[AF,hdec,huncut,hbl,hal,hri,hro,hy,Aby,Aca,hids,hgv];exact h5 R' k';have hlv:=Ae hr;rw[hfun x]at hy;unfold Cd at hy;rw[hb]at hy;simp only at hy;obtain⟨ex,st',g1,_,g3⟩:=B2 hE hL hP c 0 hl _ _ _ _ hy;have hfin:finish np P fn outs rs st'=some y∧(ex = .normal∨ex = .ret):=by
  cases ex with
   |normal=>exact⟨g1,.inl rfl⟩
   |ret=>exact⟨g1,.inr rfl⟩
   |_=>simp at g1
 obtain⟨hfin,hex⟩:=hfin;obtain⟨vs,tm,bs',fr',hvs,htm,hd',hp⟩:=NQ hfin;rw[Aba]at hp;replace hp:=hp.1;refine calls_of_wp hf hb ?_;obtain⟨F2,m2,gA,invA,hsi⟩:=Kj hi hr hal hna hdec;refine g3 w F2 m2 _ _ hsi fun a' w' F' m' s1 x1 => ?_;obtain⟨us,r1,r2⟩:=Hn s1 hvs;have hend:=QR hi gA invA huncut hri hro hids hgv he1 he2 hok hnd hfl s1.heap x1 r2 htm hd' hp
 have hpost:a'.defers=[]∧∃ v,(results fn a'.tmps).run P w' = .ok v w'∧(fun(en:Ending) (w':World)=>∃ u,en = .returned u∧∃ F' m',Aa w F m H fz w' F' m' (Bj e H) (Dc e fz)∧Rep w' F' m' (Bj e H) (single (DJ rs (GW ids (encode (cellsOf rs) outs y).tmps.list))) u) (.returned v) w':=
  ⟨s1.defers,_,r1,_,rfl,hend⟩
 rcases hex with rfl|rfl<;>exact hpost
end
end Go.Pev
end
section
namespace Go.Pev
open Go.RowKit
def Hq:Code→Nat→Option Code
 |.seq a b,n=>match Hq a n with
  |some c=>some c
  |none=>Hq b (n-loops a)
 |.cond _ a b,n=>match Hq a n with
  |some c=>some c
  |none=>Hq b (n-loops a)
 |.block _ c,n=>Hq c n
 |.loop c,n=>match n with
  |0=>some c
  |n+1=>Hq c n
 |_,_=>none
def BC(f:Func):Code:=match f.body with
 |some c=>c
 |none=>.skip
def CA(f:Func)(n:Nat):Code:=(Hq (BC f) n).getD .skip
def Bh:Code→Nat→List (Nat×Code)
 |.seq a b,n=>Bh a n++Bh b (n+loops a)
 |.cond _ a b,n=>Bh a n++Bh b (n+loops a)
 |.block _ c,n=>Bh c n
 |.loop c,n=>[(n,c)]
 |_,_=>[]
def VU(P:Program)(np:Nat)(h:Hints):List (Nat×Code)→Prop
 |[]=>True
 |p::l=>GU P np (.loop p.2) (h.loop p.1)∧VU P np h l
theorem VT{P:Program}{np:Nat}{h:Hints}:∀ {a b:List (Nat×Code)},VU P np h (a++b)→VU P np h a∧VU P np h b:=by
 intro a;induction a with
  |nil=>exact fun h=>⟨trivial,h⟩
  |cons p a ih=>intro b h;exact⟨⟨h.1,(ih h.2).1⟩,(ih h.2).2⟩
theorem ACJ{P:Program}{np:Nat}{h:Hints}:∀ (c:Code) (n:Nat),VU P np h (Bh c n)→Ax P np h c n:=by
 intro c;induction c with
  |seq a b iha ihb=>intro n hl;have:=VT hl;exact⟨iha n this.1,ihb _ this.2⟩
  |cond c a b iha ihb=>intro n hl;have:=VT hl;exact⟨iha n this.1,ihb _ this.2⟩
  |block id c ih=>intro n hl;exact ih n hl
  |loop c ih=>intro n hl;exact hl.1
  |_=>intro n _;trivial
theorem DF{P:Program}{np:Nat}{h:Hints}{c:Code}{n:Nat}{l:List (Nat×Code)}(e:Bh c n=l)(a:VU P np h l):Ax P np h c n:=ACJ c n (by rw[e];exact a)
def AH(P:Program)(E:Env):Prop:=(∀ g,Ad P g (E.spec g))∧DG E∧EL P E
def Env.none:Env:={ spec:=fun _ _ _ _ _ _ _=>Option.none,loc:=fun _=>false,EM:=fun _=>true }
theorem Env.AXL{P:Program}:AH P Env.none:=⟨fun g R args H fz slot k r h=>by simp[Env.none]at h,⟨fun g h=>by simp[Env.none]at h,fun g _ R args H H' fz fz' slot k S _ _ _=>rfl⟩,fun g s h=>by cases h⟩
def Env.ext(E:Env)(g:FuncId)(loc EM:Bool)(s:Spec):Env where
 spec x:=match Nat.beq x g with
  |true=>s
  |false=>E.spec x
 loc x:=match Nat.beq x g with
  |true=>loc
  |false=>E.loc x
 EM x:=match Nat.beq x g with
  |true=>EM
  |false=>E.EM x
 pan x:=match Nat.beq x g with
  |true=>.none
  |false=>E.pan x
theorem Env.BQ{P:Program}{E:Env}{g:FuncId}{loc EM:Bool}{s:Spec}(h:AH P E)(hs:Ad P g s)(hl:loc=true→Ei s)(hl2:EM=true→Fk s):AH P (E.ext g loc EM s):=by
 refine⟨?_,⟨?_,?_⟩,fun x s' hx => ?_⟩;intro x;simp only[Env.ext];cases hx:Nat.beq x g with
  |true=>have:=Abp hx;subst this;exact hs
  |false=>exact h.1 x
 intro x hx;simp only[Env.ext]at hx ⊢;cases hb:Nat.beq x g with
  |true=>rw[hb]at hx;exact hl hx
  |false=>rw[hb]at hx;exact h.2.1.1 x hx
 intro x hx;simp only[Env.ext]at hx ⊢;cases hb:Nat.beq x g with
  |true=>rw[hb]at hx;exact hl2 hx
  |false=>rw[hb]at hx;exact h.2.1.2 x hx
 simp only[Env.ext]at hx ⊢;cases hb:Nat.beq x g with
  |true=>rw[hb]at hx;cases hx
  |false=>rw[hb]at hx;exact h.2.2 x s' hx
section
variable {P:Program} {E:Env} {h:Hints} {g:FuncId} {fn:Func}
theorem EI(hb:fn.body.isSome=true):fn.body=some (BC fn):=by
 unfold BC;cases h:fn.body with
  |none=>rw[h]at hb;cases hb
  |some c=>rfl
theorem Fu (hE : AH P E) (hf : P.funcs[g]? = some fn) (hb : fn.body.isSome = true) (hn : (fn.name == "runtime.NumGoroutine") = false)
  {np na:Nat} (hna:(Nat.ble na fn.ntmps)=true) {its outs:AB} {rs:List RS} {f:Ag (leaves its)→Option (Ag (leaves outs))} (hfun:∀ x,f x=Cd np P E h fn its outs rs x) (hl:Ax P np h (BC fn) 0) :
  Ad P g (AF np na its outs rs f):=
 AMu hE.1 hE.2.1 hE.2.2 hf (EI hb) (BS hf hb hn) (Abu hna) hfun hl
theorem A7 (hE : AH P E) (hf : P.funcs[g]? = some fn) (hb : fn.body.isSome = true) (hn : (fn.name == "runtime.NumGoroutine") = false) (hl : loops (BC fn) = 0) : Ad P g (BN P E h fn) :=
 AAe hE.1 hE.2.1 hE.2.2 hf (EI hb) (BS hf hb hn) hl
theorem LD{h':Hints}(hE:AH P E){np nt n:Nat}{body:Code}{its:AB}{os:AT}{stp:Ag (leaves its)→Option (Ag (leaves its)⊕Qe os)}
  (hstep:∀ v,stp v=roundOf P E h' n np nt body its os v) (hl:Ax P np h' body n):GU P np (.loop body) (Hu np nt its os stp):=ANK hE.1 hE.2.1 hE.2.2 hstep hl
def NU:AB→Bool
 |[]=>true
 |(.tmp _,.dat _)::r=>NU r
 |_::_=>false
theorem AOA{H H':List Ob}{tm:List AV}(ha:∀ id∈Ay tm,H[id]? = H'[id]?):∀ (its:AB) (fz fz':List Bool),NU its=true→dec (lk tm) H its fz []=dec (lk tm) H' its fz' []:=by
 intro its;induction its with
  |nil=>intro fz fz' _;rfl
  |cons p r ih=>
   intro fz fz' hd;obtain⟨l,c⟩:=p;cases l<;>cases c<;>simp only[NU]at hd<;>try (cases hd;done)
   rename_i t ty;simp only[dec,look];cases hv:lk tm t with
    |none=>rfl
    |some v=>
     have hsub:∀ id∈Ab v,H[id]? = H'[id]? := fun id hid=>ha id (by
      clear ih hd ha;unfold lk at hv;induction tm generalizing t with
       |nil=>simp at hv
       |cons a tm iht=>
        cases t with
         |zero=>simp at hv;subst hv;simp[Ay,hid]
         |succ t=>simp only[Ay,Abt];exact .inr (iht t (by simpa using hv)))
     simp only;rw[NX ty v hsub];cases NY H' ty v with
      |none=>rfl
      |some q=>
       obtain⟨x,f⟩:=q;simp only;have hfr:f.all (fresh? [])=true:=by simp[fresh?]
       rw[hfr];simp only;rw[ih (AS f fz) (AS f fz') hd]
theorem ANZ:∀ (n slot:Nat),B7 n [] slot=List.range' slot n:=by
 intro n;induction n with
  |zero=>intro slot;rfl
  |succ n ih=>intro slot;simp only[B7,Acs];rw[ih]
theorem NO{H H':List Ob}{fz fz':List Bool}:∀ (ids:List Nat),(∀ i∈ids,Ai H fz i=Ai H' fz' i)→D9 H fz ids []=D9 H' fz' ids []:=by
 intro ids;induction ids with
  |nil=>intro _;rfl
  |cons a ids ih=>intro h;simp only[D9,List.tail_nil];rw[h a (by simp),ih fun i hi=>h i (by simp[hi])]
theorem AGp{H:List Ob}{tm:List AV}:∀ (its:AB) (fz:List Bool) (bs:List Bnd) (x:Ag (leaves its)) (bs':List Bnd) (fr:List Nat),NU its=true→dec (lk tm) H its fz bs=some (x,bs',fr)→bs'=bs:=by
 intro its;induction its with
  |nil=>intro fz bs x bs' fr _ h;simp only[dec,AbZ]at h;cases h;rfl
  |cons p r ih=>
   intro fz bs x bs' fr hd h;obtain⟨l,c⟩:=p;cases l<;>cases c<;>simp only[NU]at hd<;>try (cases hd;done)
   simp only[dec]at h;split at h;split at h;split at h;split at h;rename_i xs bs1 g hdd;simp only[AbZ]at h;cases h;exact ih _ _ _ _ _ hd hdd;cases h;cases h;cases h;cases h
theorem Hr{np na:Nat}{its outs:AB}{rs:List RS}{f:Ag (leaves its)→Option (Ag (leaves outs))}(hd:NU its=true)(hn:Nat.ble (CI outs) 4=true):Ei (AF np na its outs rs f):=by
 intro R args H H' fz fz' slot k ha;unfold AF;rw[AOA ha.heap its fz fz' hd];split;rfl;rename_i x bs fr hdec;have hbs:=AGp its fz' [] x bs fr hd hdec;subst hbs;split;rfl;split;rfl;rename_i y hy;simp only[List.take_nil,List.drop_nil];have hfree:∀ (g:List Nat) (i:Nat),i∈B7 (CI outs) [] slot→Ai H (AS g fz) i=Ai H' (AS g fz') i:=by intro g i hi;rw[ANZ,AdY]at hi;have:=Abu hn;exact DM ha hi.1 (by omega) g
 unfold GQ;rw[show D9 H fz (B7 (CI outs) [] slot) []=D9 H' fz' (B7 (CI outs) [] slot) []from NO _ (hfree []),NO _ (hfree fr)]
end
end Go.Pev
end
section
namespace Go.Pev
open Go.RowKit
def AHB{α:Type}(xs:List α):Option (List α):=match ABA (AJ xs)with
 |true=>some xs
 |false=>none
def I6[Lk]{α:Type}(xs:List α):Option (List α):=Lk.f (AHB xs)
theorem AOZ{α:Type}(xs:List α):I6 xs=AHB xs:=AD _
noncomputable def Cv[Lk](e:TypeId)(t:Ty):Spec:=fun R args H fz slot k=>
 match args with
 |[x]=>match Dn H (.slice t) x with
  |some (xs,_)=>match(I6 xs:Option (List t.den))with
   |none=>none
   |some y=>(match Ai H fz slot with|true=>k (.own slot) { objs:=[(slot,.arr e t y)] }|false=>none)
  |none=>none
 |_=>none
def Pj:Code→Nat→List Oper
 |.region id ops _,n=>if id=n then ops.toList else []
 |.seq a b,n=>Pj a n++Pj b n
 |.cond _ a b,n=>Pj a n++Pj b n
 |.block _ c,n=>Pj c n
 |.loop c,n=>Pj c n
 |_,_=>[]
def BM(fn:Func)(n i:Nat):Oper:=((Pj (BC fn) n)[i]?).getD default
structure Ej(P:Program)(fn:Func)(T e:TypeId)(t:Ty):Prop where
 body:fn.body=some (.seq (.region 0 #[BM fn 0 0] false) (.seq (.seq (.region 1 #[BM fn 1 0,BM fn 1 1] false) (.cond (.tmp 4) (.seq (.region 2 #[BM fn 2 0] false) .ret) .skip)) (.seq (.region 3 #[BM fn 3 0,BM fn 3 1,BM fn 3 2,BM fn 3 3] false) .ret)))
 nt:fn.ntmps=8
 res:fn.results = #[.tmp 2]
 d:(BM fn 0 0).dst=some 2∧(BM fn 1 0).dst=some 3∧(BM fn 1 1).dst=some 4∧(BM fn 2 0).dst=some 2∧(BM fn 3 0).dst=some 5∧(BM fn 3 1).dst=some 6∧(BM fn 3 2).dst=some 7∧(BM fn 3 3).dst=some 2
 g:(BM fn 0 0).guard=none∧(BM fn 1 0).guard=none∧(BM fn 1 1).guard=none∧(BM fn 2 0).guard=none∧(BM fn 3 0).guard=none∧(BM fn 3 1).guard=none∧(BM fn 3 2).guard=none∧(BM fn 3 3).guard=none
 o00:(BM fn 0 0).op = .assign (.const (.slice none 0 0))
 o10:(BM fn 1 0).op = .move (.tmp 0)
 o11:(BM fn 1 1).op = .binOp .eql T (.tmp 3) (.const (.slice none 0 0)) T
 o20:(BM fn 2 0).op = .assign (.const (.slice none 0 0))
 o30:(BM fn 3 0).op = .buildSlice T 0 #[]
 o31:(BM fn 3 1).op = .move (.tmp 0)
 o32:(BM fn 3 2).op = .call { callee:=.builtin .append,args:=#[.tmp 5,.tmp 6],argTypes:=#[T,T] }
 o33:(BM fn 3 3).op = .assign (.tmp 7)
 sl:sliceAt P T=some (e,t)
 z:(zeroAt P e).isSome=true
 by1:(P.info? e).map (fun i=>decide (i.bytes≤1024))=some true
section
variable {P:Program} {g:FuncId}
theorem Bq{ops:Array Oper}{Q:Exit→Act→World→Prop}{i:Nat}{rest:List Nat}{a:Act}{w:World}{o:Oper}(ho:ops[i]? = some o)(hg:o.guard=none)(h:o.wp P a w (wpOps P ops Q rest) Q):wpOps P ops Q (i::rest) a w:=by simp only[wpOps,ho];rw[AcO (by simp[Region.wanted,hg])];exact .inl h
theorem Bg{o:Oper}{a:Act}{w w':World}{next:Act→World→Prop}{Q:Exit→Act→World→Prop}{u:Value}(h:(execOp a.eval o).run P w = .ok (.value u) w')(hn:next (a.put o.dst u) w'):o.wp P a w next Q:=by unfold Oper.wp;rw[h];exact hn
variable {fn:Func} {T e:TypeId} {t:Ty}
theorem HR{P:Program}{w:World}{ρ:Operand→Value}{o:Oper}{x:Operand}(h:o.op = .move x):(execOp ρ o).run P w = .ok (.value (ρ x)) w:=by simp[execOp,h]
theorem E5{P:Program}{w:World}{ρ:Operand→Value}{o:Oper}{x:Operand}(h:o.op = .assign x):(execOp ρ o).run P w = .ok (.value (ρ x)) w:=by simp[execOp,h]
theorem I5 (hs : Ej P fn T e t) (hf : P.funcs[g]? = some fn) (hn : (fn.name == "runtime.NumGoroutine") = false) : Ad P g (Cv e t) := by
 intro R args H fz slot k r hk;unfold Cv at hk;split at hk;rename_i x;split at hk;rename_i xs fr hx;split at hk;cases hk;rename_i y hy;split at hk;rename_i hfree;refine⟨_,_,hk,fun R' k'=>by simp only[Cv,hx,hy,hfree],BS hf (by rw[hs.body];rfl) hn,fun w F m vals hi hr => ?_⟩;rw[AOZ]at hy;unfold AHB at hy;split at hy;rename_i hfit;simp only[AbZ]at hy;subst hy;have hr0:=hr;unfold AP at hr;obtain⟨v,vs',rfl,hrv,hnil⟩:=hr;unfold AP at hnil;subst hnil;obtain⟨hu,hty0,hpos⟩:=Bb hs.sl;obtain⟨zz,hzz⟩:=AcP.1 hs.z;obtain⟨t',cs'⟩:=zz;obtain⟨hty',hcs',i,z,hi0,hz0,hok,hsz,hza⟩:=BR hzz;subst hcs';have:t'=t:=by rw[hty0]at hty';exact(Acf hty').symm
 subst this;have hzs:z.cells.size=i.size:=by have hzd:=BJ (w:=default) (F:=fun _=>False) t' _ hok;rw[hsz,← Abe];exact Dat.length t' hzd
 have hby':i.bytes≤1024:=by simpa [hi0]using hs.by1
 obtain⟨A,c,rfl,q2,q3,news,q4,q5⟩:=DC hi hx hrv;have hfit':xs.length≤4294967296:=by have:(xs.length:Int)≤4294967296:=(Tc _).1 hfit;omega
 refine calls_of_wp hf hs.body ?_;obtain⟨d0,d1,d2,d3,d4,d5,d6,d7⟩:=hs.d;obtain⟨g0,g1,g2,g3,g4,g5,g6,g7⟩:=hs.g;have hres:∀ (tm:Array Value) (w0:World),(results fn tm).run P w0 = .ok (tm.getD 2 undef) w0:=fun tm w0=>by simp[results,hs.res]
 refine wp_seq (wp_region ?_);simp only[Ab7,Abz,AcF,Ach,AdF,AcS];refine Bq (by rfl) g0 (Bg (E5 hs.o00) ?_);refine wp_seq (wp_seq (wp_region ?_));simp only[Ab7,Abz,AcF,Ach,AdF,AcS,AcN];refine Bq (by rfl) g1 (Bg (HR hs.o10) ?_);refine Bq (by rfl) g2 (Bg (u:=.bool A.isNone) (w':=w) (by simp[execOp,hs.o11,Act.eval,Act.put,d0,d1,hs.nt,eqGuard,Lib.run_eql_slice_nil _ _ _ _ _ _ _ _ hu]) ?_);cases A with
  |none=>
   have hxs:xs=[]:=by
    cases xs with
     |nil=>rfl
     |cons a b=>exact absurd (q3 (by simp)) (by simp)
   subst hxs;refine wp_cond_true (by simp[Act.eval,Act.put,d0,d1,d2,hs.nt]) ?_;refine wp_seq (wp_region ?_);simp only[Ab7,Abz,AcF,Ach,AdF,AcS];refine Bq (by rfl) g3 (Bg (E5 hs.o20) ?_);refine wp_ret ?_;refine⟨by simp[Act.put,d0,d1,d2,d3],_,hres _ _,?_⟩;obtain⟨m',hg,hrep⟩:=C8 (w:=w) hi hfree e hpos none;refine⟨_,rfl,F,m',hg,?_⟩;show Rep _ _ _ (H.set slot _) _ _;simpa [Act.put,Act.eval,d0,d1,d2,d3,hs.nt]using hrep
  |some ad=>
   refine wp_cond_false (by simp[Act.eval,Act.put,d0,d1,d2,hs.nt]) ?_;refine wp_skip ?_;refine wp_seq (wp_region ?_);simp only[Ab7,Abz,AcF,Ach,AdF,AcS,AcN];refine Bq (by rfl) g4 (Bg (u:=.slice (some ⟨w.heap.size,0,none⟩) 0 0) (w':=w.alloc (.cells #[] e)) (by have:=F7 (P:=P) (w:=w) (len:=0) (parts:=#[]) (us:=#[]) hu hi0 hz0 hsz (by omega) (by simp[Instr.fill]);simp[execOp,hs.o30,this]) ?_)
   refine Bq (by rfl) g5 (Bg (HR hs.o31) ?_);have hga:=Aa.grow (w':=w.alloc (.cells #[] e)) hi rfl rfl rfl (by simp) (fun b hb=>Below.heap_alloc w _ b hb)
   obtain⟨v,w',m',hrun,hg,hrep⟩:=EJ (P:=P) (T:=T) (ty:=(BM fn 3 2).type) hga.2 hfree hu hi0 hz0 hzs hsz hpos hby' hfit' (some ⟨w.heap.size,0,none⟩) (A:=some ad) (c:=c) (ys:=xs) (news:=news) (fun _=>rfl)
    (A2 (fun x _ cs hx=>hx.mono (fun a ha=>by simp[World.cell?,Below.heap_alloc w _ _ (hi.lt _ ha)]) (fun _ h=>h) t') q4) (fun ad' h j u hu'=>by
     have:=q5 ad' h j u hu'
     exact Lib.cell?_alloc_some _ this)
   refine Bq (by rfl) g6 (Bg (u:=v) (w':=w') (by simp[execOp,hs.o32,resolve,invoke,builtin,Act.eval,Act.put,d0,d1,d2,d4,d5,hs.nt,hrun]) ?_)
   refine Bq (by rfl) g7 (Bg (E5 hs.o33) ?_);refine wp_ret ?_;refine⟨by simp[Act.put,d0,d1,d2,d4,d5,d6,d7],_,hres _ _,?_⟩;refine⟨_,rfl,F,m',hga.trans hg,?_⟩;show Rep _ _ _ (H.set slot _) _ _;simpa [Act.put,Act.eval,d0,d1,d2,d4,d5,d6,d7,hs.nt]using hrep
 cases hy;cases hk;cases hk;cases hk
theorem BH(e:TypeId)(t:Ty):Ei (Cv e t):=by
 intro R args H H' fz fz' slot k ha;unfold Cv;cases args with
  |nil=>rfl
  |cons x r=>cases r with
   |cons y r=>rfl
   |nil=>
    simp only
    rw[Ba (.slice t) x fun id hid=>ha.heap id (by simpa [Ay]using hid)]
    have:=DM ha (s:=slot) (Abd _) (by omega) []
    simp only[AS]at this
    rw[this]
end
end Go.Pev
end
section
namespace Go.Pev.Pl
theorem FX{n:Int}(h:-9223372036854775808≤n∧n≤9223372036854775807):IntKind.wrap .i64 n=n:=IntWalk.i64_in n h
section
variable {α:Type} [Inhabited α]
end
theorem De(a b:Nat):ilt (a:Int) (b:Int)=decide (a<b):=by rw[GH];simp
theorem AXt(a b:Nat):ieq (a:Int) (b:Int)=decide (a=b):=by rw[Ea];by_cases h:a=b;simp[h];simp[h];omega
section
theorem JM{a:Nat}(h:a+1<9223372036854775808):IntKind.wrap .i64 ((a:Int)+1)=((a+1:Nat):Int):=by rw[FX (by omega)];omega
end
end Go.Pev.Pl
end
section
namespace Go.Pev.Pl
section
variable {α:Type}
theorem AXu(xs:List α)(n:Nat):idx xs (n:Int)=xs[n]? := by rw[idx_eq,AS6,Acg (by omega)];simp
theorem FO(xs:List α):AJ xs=(xs.length:Int):=rfl
end
theorem ATp{n:Int}(h:n≤4294967296):fits n=true:=(ED n).2 h
theorem AJW(a b:Int):ieq a b=decide (a=b):=by rw[Ea];by_cases h:a=b<;>simp[h]
def walk{α β ρ:Type}(f:β→α→α⊕ρ)(fin:α→ρ):List β→α→ρ
 |[],a=>fin a
 |x::xs,a=>match f x a with
  |.inl a=>walk f fin xs a
  |.inr r=>r
theorem ALD{σ ρ α β:Type}{step:σ→Option (σ⊕ρ)}(st:Nat→α→σ)(xs:List β)(f:β→α→α⊕ρ)(fin:α→ρ)(I:Nat→α→Prop)
  (h:∀ i x a,i<xs.length→xs[i]? = some x→I i a→(∀ a',f x a = .inl a'→step (st i a)=some (.inl (st (i+1) a'))∧I (i+1) a')∧(∀ r,f x a = .inr r→step (st i a)=some (.inr r)))
  (hN:∀ a,I xs.length a→step (st xs.length a)=some (.inr (fin a))) :
  ∀ (m i n:Nat) (a:α),xs.length-i=m→i≤xs.length→m<n→I i a→E2 step n (st i a)=some (walk f fin (xs.drop i) a):=by
 intro m;induction m with
  |zero=>
   intro i n a hk hi hn hI;obtain⟨n,rfl⟩:∃ k,n=k+1:=⟨n-1,by omega⟩
   have e:i=xs.length:=by omega
   subst e;rw[E2,hN a hI,List.drop_length];rfl
  |succ m ih=>
   intro i n a hk hi hn hI;obtain⟨n,rfl⟩:∃ k,n=k+1:=⟨n-1,by omega⟩
   have hi':i<xs.length:=by omega
   obtain⟨g1,g2⟩:=h i xs[i] a hi' (by simp[hi']) hI;rw[List.drop_eq_getElem_cons hi',walk,E2];cases hf:f xs[i] a with
    |inl a'=>obtain⟨e,hI'⟩:=g1 a' hf;rw[e];exact ih (i+1) n a' (by omega) (by omega) (by omega) hI'
    |inr r=>rw[g2 r hf]
theorem APm{σ ρ α β:Type}{step:σ→Option (σ⊕ρ)}(st:Nat→α→σ)(xs:List β)(f:β→α→α⊕ρ)(fin:α→ρ)(I:Nat→α→Prop)(hs:xs.length<9223372036854775808)
  (h:∀ i x a,i<xs.length→xs[i]? = some x→I i a→(∀ a',f x a = .inl a'→step (st i a)=some (.inl (st (i+1) a'))∧I (i+1) a')∧(∀ r,f x a = .inr r→step (st i a)=some (.inr r)))
  (hN:∀ a,I xs.length a→step (st xs.length a)=some (.inr (fin a))) (a:α) (h0:I 0 a):AQ step many (st 0 a)=some (walk f fin xs a):=by
 have hm:9223372036854775808<many:=by simp only[many];omega
 rw[LI,ALD st xs f fin I h hN xs.length 0 many a (by omega) (by omega) (by omega) h0];rfl
end Go.Pev.Pl
end
section
namespace Go.Pev.Pl
section
variable {β:Type}
end
def dd:List Int→List Int→List Int
 |ks,[]=>ks
 |ks,x::xs=>dd (if x∈ks then ks else ks++[x]) xs
theorem ALE{α β ρ:Type}(g:β→α→α)(fin:α→ρ):∀ (xs:List β) (a:α),walk (fun x a=>.inl (g x a)) fin xs a=fin (xs.foldl (fun a x=>g x a) a):=by
 intro xs;induction xs with
  |nil=>intro a;rfl
  |cons x xs ih=>intro a;rw[walk,List.foldl_cons];exact ih _
theorem AZL{σ ρ β:Type}{step:σ→Option (σ⊕ρ)}(st:Nat→σ)(xs:List β)(P:β→Bool)(rt:Nat→ρ)(rf:ρ)(hs:xs.length<9223372036854775808)
  (h:∀ i x,i<xs.length→xs[i]? = some x→step (st i)=if P x then some (.inr (rt i))else some (.inl (st (i+1)))) (hN:step (st xs.length)=some (.inr rf)) :
  AQ step many (st 0)=some (if xs.any P then rt (xs.findIdx P)else rf):=by
 have key:∀ (l:List β) (a:Nat),walk (fun x (a:Nat)=>if P x then .inr (rt a)else .inl (a+1)) (fun _=>rf) l a=if l.any P then rt (a+l.findIdx P)else rf:=by
  intro l;induction l with
   |nil=>intro a;rfl
   |cons x l ih=>intro a;rw[walk,List.any_cons,List.findIdx_cons];by_cases hx:P x=true;simp[hx];simp only[hx,Ab3,Acr,Acy,cond_false];rw[ih,show a+1+List.findIdx P l=a+(List.findIdx P l+1) by omega]
 have:=APm (step:=step) (fun i (a:Nat)=>st a) xs (fun x (a:Nat)=>if P x then .inr (rt a)else .inl (a+1)) (fun _=>rf) (fun i a=>a=i) hs
  (fun i x a hi hx ha=>by
   subst ha
   refine⟨fun a' h' => ?_,fun r h' => ?_⟩
   ·rw[h a x hi hx]
    split at h'
    ·cases h'
    ·rename_i hp
     cases h'
     simp[hp]
   ·rw[h a x hi hx]
    split at h'
    ·rename_i hp
     cases h'
     simp[hp]
    ·cases h')
  (fun a ha=>by subst ha;exact hN) 0 rfl
 rw[this,key,Ab5]
theorem C6{α:Type}{xs:List α}{n:Nat}{x:α}(h:xs[n]? = some x):idx xs (n:Int)=some x:=by rw[AXu,h]
end Go.Pev.Pl
end
section
namespace Go.Pev
noncomputable section
abbrev U0:Ty:=(.int .i64)
abbrev U1:=(Int×Int×Int×Bool×Unit)
abbrev U2:Ty:=(.prod U0 (.prod U0 (.prod U0 (.prod .bool .unit))))
abbrev U3:Ty:=(.prod U0 (.prod U0 .unit))
abbrev U4:=(Int×Int×Unit)
abbrev U5:=(Int×Int×Int×Int×Unit)
abbrev U6:=(List Int)
abbrev U7:Ty:=(.slice U0)
abbrev U8:=(List Int×Int×Int×Int×Unit)
abbrev U9:=(Int×Int×Int×Int×Int×Unit)
abbrev Ua:=(Int×Unit)
abbrev Ub:Ty:=(.prod U0 (.prod U0 U3))
abbrev Uc:=(List Int×Unit)
abbrev Ud:=(List Int×Int×Int×Unit)
abbrev Ue:=(Int×Int×Int×Unit)
abbrev Uf:Ty:=(.slice U7)
abbrev Ug:=(List U4×Int×Int×Unit)
abbrev Uh:=(List U5×Int×List Bool×List U6×Bool×Int×Int×List U1×Int×Unit)
abbrev Ui:=(Int×(List U1)×Unit)
abbrev Uj:Ty:=(.int .u32)
abbrev Uk:=(Bool×Unit)
abbrev Ul:=(List Int×Int×Int×Int×Int×Unit)
abbrev Um:=(List U6×Int×Int×Unit)
abbrev Un:=(List U1×Int×Int×Unit)
abbrev Uo:Ty:=(.prod U0 (.prod U0 (.prod (.slice (.arr 2 U0)) .unit)))
abbrev Up:=(List U6×Int×Int×Int×Unit)
abbrev Uq:=(List U4×Int×Int×Int×Unit)
abbrev Ur:=(List U1×Int×Int×Int×Unit)
abbrev Us:Ty:=(.slice U2)
abbrev Ut:=(List Int×Int×Unit)
abbrev Uu:=(List U4×Unit)
abbrev Uv:=(Int×Int×(List U6)×Unit)
abbrev Uw:=(Int×(List U6)×Unit)
abbrev Ux:=(Int×Int)
abbrev Uy:Ty:=(.slice .bool)
abbrev Uz:=(List U1×Unit)
abbrev V0:=(Int×List U1×Bool×Bool×Int×Int×Int×Int×Int×List Ux×List Int×Int×Int×Unit)
abbrev V1:=(List U5×Int×List Bool×List U6×Bool×Int×Int×Int×Int×Int×Bool×Int×Unit)
abbrev V2:=(List U6×Unit)
abbrev V3:=(Bool×Bool×U4×Int×Unit)
abbrev V4:Ty:=(.prod U0 (.prod Us .unit))
abbrev V5:Ty:=(.slice Ub)
abbrev V6:=(List Int×Int×Int×Int×Int×Int×Unit)
abbrev V7:=(List Int×List Int×Int×Int×List Int×List Int×Int×Int×Unit)
abbrev V8:Ty:=(.slice U3)
abbrev V9:=(Int×List U6×List Ux×Int×List U6×Int×Int×List Int×Int×Int×Bool×List Int×Bool×Bool×List Int×Int×List Int×Int×Bool×Int×List Int×Bool×Bool×List Int×Int×Int×Unit)
abbrev Va:Ty:=(.slice Uj)
abbrev Vb:=(List Int×Int×Int×Int×Bool×Bool×Unit)
abbrev Vc:Ty:=(.prod (.prod V5 (.prod U0 (.prod Uy .unit))) (.prod Uf (.prod .bool U3)))
abbrev Vd:=(List U5×Int×List Bool×List U6×Bool×Int×Int×List Ux×List U6×Int×Int×Unit)
abbrev Ve:Ty:=(.prod .bool (.prod .bool (.prod U3 (.prod U0 .unit))))
abbrev Vf:Ty:=(.slice (.prod U0 U3))
abbrev Vg:=(List Int×Int×Int×Int×List Int×Int×Int×Unit)
abbrev Vh:=(Int×(List U4)×(List Ue)×Unit)
abbrev Vi:=(U4×Int)
abbrev Vj:=(List Int×Int×List Int×Int×Int×List Int×List Int×Int×Int×Unit)
abbrev Vk:Ty:=(.prod U0 (.prod Uf .unit))
abbrev Vl:=(List Int×Bool×Unit)
abbrev Vm:=(List Int×List Int×List Int×Int×Int×Unit)
abbrev Vn:=(Int×List U1×Int×List U1×Int×Int×Unit)
abbrev AK:AB:=[(.tmp 0,.di)]
abbrev AN:AB:=[(.tmp 0,.dat .bool)]
abbrev AA:List RS:=[.one]
def Yn[Lk]:Ua→Option (Uk):=fun(a0,_)=>
 match(ile 1 a0)with
 |true=>some ((ile a0 64),())
 |false=>some (false,())
def MQ[Lk]:=fun v=>Lk.f (Yn v)
theorem ALH v:MQ v=Yn v:=AD _
abbrev DT:AB:=[(.tmp 0,.di),(.tmp 1,.di)]
def AY2[Lk]:U4→Option (Uk):=fun(a0,a1,_)=>
 match MQ (a0,())with|none=>none|some (y0,_)=>match y0 with
 |true=>match(ile 0 a1)with
  |true=>some ((ilt a1 a0),())
  |false=>some (false,())
 |false=>some (false,())
def tin[Lk]:=fun v=>Lk.f (AY2 v)
theorem AZd v:tin v=AY2 v:=AD _
abbrev Vu:AB:=[(.tmp 0,.di),(.tmp 1,.di),(.tmp 2,.di)]
def AQF[Lk]:Ue→Option (Ua):=fun(a0,a1,a2,_)=>
 match(ieq a1 a2)with
 |true=>some ((-1:Int),())
 |false=>match tin (a0,a1,())with|none=>none|some (y0,_)=>match(!y0)with
 |true=>some ((-1:Int),())
 |false=>match tin (a0,a2,())with|none=>none|some (y1,_)=>match(!y1)with
 |true=>some ((-1:Int),())
 |false=>some ((IntKind.wrap .i64 ((IntKind.wrap .i64 (a0*(IntKind.wrap .i64 (a1+1))))+a2)),())
def AV8[Lk]:=fun v=>Lk.f (AQF v)
theorem AV7 v:AV8 v=AQF v:=AD _
abbrev Yl:AB:=[(.tmp 0,.di),(.tmp 1,.di),(.tmp 2,.dat .bool),(.tmp 3,.dat .bool)]
abbrev Ex:List RS:=[.one,.one,.one,.one]
def Ym[Lk]:U4→Option ((Int×Int×Bool×Bool×Unit)):=fun(a0,a1,_)=>
 match MQ (a0,())with|none=>none|some (y0,_)=>match(!y0)with
 |true=>some (0,0,false,false,())
 |false=>match(ilt a1 0)with
 |true=>some (0,0,false,false,())
 |false=>match(ile (IntKind.wrap .i64 (a0*(IntKind.wrap .i64 (a0+1)))) a1)with
 |true=>some (0,0,false,false,())
 |false=>match(ilt a1 a0)with
 |true=>some (a1,0,false,true,())
 |false=>match quo? .i64 a1 a0 with|none=>none|some x1=>match rem? a1 a0 with|none=>none|some x2=>match(ieq (IntKind.wrap .i64 (x1-1)) x2)with
 |true=>some (0,0,false,false,())
 |false=>some ((IntKind.wrap .i64 (x1-1)),x2,true,true,())
def AEC[Lk]:=fun v=>Lk.f (Ym v)
theorem ALG v:AEC v=Ym v:=AD _
abbrev AIQ:AB:=[(.tmp 0,.di),(.tmp 1,.own 68 U7),(.tmp 2,.di)]
abbrev OS:List RS:=[.agg 2,.one]
abbrev AP4:AB:=[(.tmp 2,.box 2),(.cell 0 0,.di),(.cell 0 1,.nil U7),(.tmp 4,.box 2),(.cell 1 0,.di),(.cell 1 1,.own 68 U7),(.tmp 12,.di),(.tmp 13,.di)]
abbrev AP3:AT:=[(.exit 0,[(.tmp 2,.box 2),(.cell 0 0,.di),(.cell 0 1,.nil U7),(.tmp 4,.box 2),(.cell 1 0,.di),(.cell 1 1,.own 68 U7)])]
def AP2[Lk]:(Int×Int×List U6×Int×Int×Unit)→Option ((Int×Int×List U6×Int×Int×Unit)⊕(Int×Int×List U6×Unit)⊕Unit):=fun(a0,a1,a2,a3,a4,_)=>
 match(ilt a4 a3)with
 |true=>match(fits ((AJ a2)+(AJ ([([a4]:List (Int))]:List U6))))with
  |true=>some (.inl (a0,a1,(BE a2 ([([a4]:List (Int))]:List U6)),a3,(IntKind.wrap .i64 (a4+1)),()))
  |false=>none
 |false=>some (.inr (.inl (a0,a1,a2,())))
def AIR[Lk]:Ua→Option ((Int×List U6×Int×Unit)):=fun(a0,_)=>
 match MQ (a0,())with|none=>none|some (y0,_)=>match(!y0)with
 |true=>some (0,([]:List U6),1,())
 |false=>match AQ AP2 many (0,a0,([]:List U6),a0,0,())with|none=>none|some r=>match r with
 |.inl (o1,o2,o3,_)=>some (o2,o3,0,())
 |.inr _=>none
def AP6[Lk]:=fun v=>Lk.f (AIR v)
theorem AP5 v:AP6 v=AIR v:=AD _
abbrev Da:AB:=[(.tmp 0,.dat U7),(.tmp 1,.di)]
abbrev ANV:AB:=[(.tmp 0,.dat U7),(.tmp 1,.di),(.tmp 7,.di),(.tmp 8,.di)]
abbrev EZ:AT:=[(.ret,[(.tmp 4,.di)]),(.exit 0,[])]
def ANU[Lk]:U8→Option (U8⊕Ua⊕(Unit)⊕Unit):=fun(a0,a1,a2,a3,_)=>
 match(ilt a3 a2)with
 |true=>match idx a0 a3 with|none=>none|some x0=>match(ieq a1 x0)with
  |true=>some (.inr (.inl (a3,())))
  |false=>some (.inl (a0,a1,a2,(IntKind.wrap .i64 (a3+1)),()))
 |false=>some (.inr (.inr (.inl ())))
def AAv[Lk]:Ut→Option (Ua):=fun(a0,a1,_)=>
 match AQ ANU many (a0,a1,(AJ a0),0,())with|none=>none|some r=>match r with
 |.inl (o0,_)=>some (o0,())
 |.inr r=>match r with
 |.inl _=>some ((-1:Int),())
 |.inr _=>none
def Ps[Lk]:=fun v=>Lk.f (AAv v)
theorem ANW v:Ps v=AAv v:=AD _
def NV[Lk]:Ut→Option (Uk):=fun(a0,a1,_)=>
 match Ps (a0,a1,())with|none=>none|some (y0,_)=>some ((ile 0 y0),())
def Ft[Lk]:=fun v=>Lk.f (NV v)
theorem XN v:Ft v=NV v:=AD _
abbrev Gx:AB:=[(.tmp 0,.dat U7)]
abbrev AXP:AB:=[(.tmp 0,.dat U7),(.tmp 3,.di),(.tmp 4,.di)]
abbrev AXO:AT:=[(.exit 0,[(.tmp 3,.di)])]
def AXN[Lk]:Ud→Option (Ud⊕Ua⊕Unit):=fun(a0,a1,a2,_)=>
 match(ilt a2 (AJ a0))with
 |true=>match idx a0 a2 with|none=>none|some x0=>some (.inl (a0,(EN a1 x0),(IntKind.wrap .i64 (a2+1)),()))
 |false=>some (.inr (.inl (a1,())))
def ASe[Lk]:Uc→Option (Ua):=fun(a0,_)=>
 match(ilt (AJ a0) 1)with
 |true=>none
 |false=>match idx a0 0 with|none=>none|some x0=>match AQ AXN many (a0,x0,1,())with|none=>none|some r=>match r with
 |.inl (o1,_)=>some (o1,())
 |.inr _=>none
def AXR[Lk]:=fun v=>Lk.f (ASe v)
theorem AXQ v:AXR v=ASe v:=AD _
abbrev AJb:AB:=[(.tmp 0,.nil U0),(.tmp 1,.di)]
abbrev Bl:AB:=[(.tmp 0,.own 3 U0)]
def AJc[Lk]:Ua→Option (Uc):=fun(a0,_)=>
 match(ilt a0 0)with
 |true=>none
 |false=>match(ilt 0 (IntKind.wrap .i64 (a0-(IntKind.wrap .i64 (0-0)))))with
 |true=>match EU ([]:List Unit) 0 0 with|none=>none|some _u0=>match(B8 (IntKind.wrap .i64 (a0-(IntKind.wrap .i64 (0-0)))))with
  |true=>match EU (DV (AE (IntKind.wrap .i64 (a0-(IntKind.wrap .i64 ((0:Int)-(0:Int)))))) (0:Int)) (0:Int) (0:Int)with|none=>none|some x1=>some ((CL (AE (AJ x1)) (DV (AE (IntKind.wrap .i64 (a0-(IntKind.wrap .i64 ((0:Int)-(0:Int)))))) (0:Int))),())
  |false=>none
 |false=>some (([]:List (Int)),())
def ATZ[Lk]:=fun v=>Lk.f (AJc v)
theorem ATY v:ATZ v=AJc v:=AD _
abbrev Tr:AB:=[(.tmp 0,.dat Uf)]
abbrev AG6:AB:=[(.tmp 6,.own 3 U0),(.tmp 25,.dat Uf),(.tmp 26,.di),(.tmp 27,.di)]
abbrev AG4:AT:=[(.exit 2,[(.tmp 6,.own 3 U0)])]
def AG2[Lk]:(List Int×List U6×Int×Int×Unit)→Option ((List Int×List U6×Int×Int×Unit)⊕Uc⊕Unit):=fun(a0,a1,a2,a3,_)=>
 match(ilt a3 a2)with
 |true=>match idx a1 a3 with|none=>none|some x0=>match(fits ((AJ a0)+(AJ x0)))with
  |true=>some (.inl ((BE a0 x0),a1,a2,(IntKind.wrap .i64 (a3+1)),()))
  |false=>none
 |false=>some (.inr (.inl (a0,())))
abbrev AG7:AB:=[(.tmp 0,.dat Uf),(.tmp 3,.di),(.tmp 9,.dat Uf),(.tmp 10,.di),(.tmp 11,.di)]
abbrev AG5:AT:=[(.exit 0,[(.tmp 0,.dat Uf),(.tmp 3,.di)])]
def AG3[Lk]:(List U6×Int×List U6×Int×Int×Unit)→Option ((List U6×Int×List U6×Int×Int×Unit)⊕(List U6×Int×Unit)⊕Unit):=fun(a0,a1,a2,a3,a4,_)=>
 match(ilt a4 a3)with
 |true=>match idx a2 a4 with|none=>none|some x0=>match(ilt (IntKind.wrap .i64 (a1+(AJ x0))) 0)with
  |true=>none
  |false=>some (.inl (a0,(IntKind.wrap .i64 (a1+(AJ x0))),a2,a3,(IntKind.wrap .i64 (a4+1)),()))
 |false=>some (.inr (.inl (a0,a1,())))
def Ts[Lk]:V2→Option (Uc):=fun(a0,_)=>
 match AQ AG3 many (a0,0,a0,(AJ a0),0,())with|none=>none|some r=>match r with
 |.inl (o0,o1,_)=>match ATZ (o1,())with|none=>none|some (y2,_)=>match AQ AG2 many (y2,o0,(AJ o0),0,())with|none=>none|some r=>match r with
  |.inl (o3,_)=>some (o3,())
  |.inr _=>none
 |.inr _=>none
def Oq[Lk]:=fun v=>Lk.f (Ts v)
theorem AG8 v:Oq v=Ts v:=AD _
abbrev D7:AB:=[(.tmp 0,.dat U7),(.tmp 1,.clo 293 [])]
abbrev Nx:AB:=[(.tmp 0,.dat U7),(.tmp 1,.clo 293 []),(.tmp 7,.di),(.tmp 8,.di)]
def Nw[Lk]:Ud→Option (Ud⊕Ua⊕(Unit)⊕Unit):=fun(a0,a1,a2,_)=>
 match(ilt a2 a1)with
 |true=>match idx a0 a2 with|none=>none|some x0=>match(ilt x0 0)with
  |true=>some (.inr (.inl (a2,())))
  |false=>match(ilt 10000 x0)with
  |true=>some (.inr (.inl (a2,())))
  |false=>some (.inl (a0,a1,(IntKind.wrap .i64 (a2+1)),()))
 |false=>some (.inr (.inr (.inl ())))
def Im[Lk]:Uc→Option (Ua):=fun(a0,_)=>
 match AQ Nw many (a0,(AJ a0),0,())with|none=>none|some r=>match r with
 |.inl (o0,_)=>some (o0,())
 |.inr r=>match r with
 |.inl _=>some ((-1:Int),())
 |.inr _=>none
def H5[Lk]:=fun v=>Lk.f (Im v)
theorem Ny v:H5 v=Im v:=AD _
abbrev AXI:AB:=[(.tmp 0,.dat U7),(.tmp 3,.map U0 U0),(.tmp 7,.dat U7),(.tmp 8,.di),(.tmp 9,.di)]
abbrev AXH:AT:=[(.exit 0,[(.tmp 0,.dat U7),(.tmp 3,.map U0 U0)])]
def AXG[Lk]:(List Int×List Ux×List Int×Int×Int×Unit)→Option ((List Int×List Ux×List Int×Int×Int×Unit)⊕(List Int×List Ux×Unit)⊕Unit):=fun(a0,a1,a2,a3,a4,_)=>
 match(ilt a4 a3)with
 |true=>match idx a2 a4 with|none=>none|some x0=>some (.inl (a0,(Ao a1 x0 (IntKind.wrap .i64 (((AO a1 x0).getD 0)+1))),a2,a3,(IntKind.wrap .i64 (a4+1)),()))
 |false=>some (.inr (.inl (a0,a1,())))
def ASa[Lk]:Uc→Option (Uk):=fun(a0,_)=>
 match AQ AXG many (a0,([]:List Ux),a0,(AJ a0),0,())with|none=>none|some r=>match r with
 |.inl (o0,o1,_)=>some ((ieq (AJ o1) (AJ o0)),())
 |.inr _=>none
def once[Lk]:=fun v=>Lk.f (ASa v)
theorem AXJ v:once v=ASa v:=AD _
def Yk[Lk]:Ut→Option (Uc):=fun(a0,a1,_)=>
 match EU a0 a1 (AJ a0)with|none=>none|some x0=>match EU a0 0 a1 with|none=>none|some x1=>match Oq (([x0,x1]:List U6),())with|none=>none|some (y2,_)=>some (y2,())
def VZ[Lk]:=fun v=>Lk.f (Yk v)
theorem ALF v:VZ v=Yk v:=AD _
abbrev HM:AB:=[(.tmp 0,.dat Uf),(.cap 1 0,.box 1),(.cell 0 0,.di),(.tmp 1,.clo 223 [(0,0)])]
abbrev HL:AB:=[(.obj 0,.box 1),(.cell 0 0,.di),(.tmp 0,.di)]
abbrev LR:AB:=[(.obj 0,.box 1),(.cell 0 0,.di),(.tmp 0,.dat Uf),(.tmp 1,.clo 223 [(0,0)]),(.tmp 7,.di),(.tmp 8,.di)]
abbrev LQ:AT:=[(.ret,[(.obj 0,.box 1),(.cell 0 0,.di),(.tmp 4,.di)]),(.exit 0,[(.obj 0,.box 1),(.cell 0 0,.di)])]
def LP[Lk]:(Int×List U6×Int×Int×Unit)→Option ((Int×List U6×Int×Int×Unit)⊕U4⊕Ua⊕Unit):=fun(a0,a1,a2,a3,_)=>
 match(ilt a3 a2)with
 |true=>match idx a1 a3 with|none=>none|some x0=>match Ft (x0,a0,())with|none=>none|some (y1,_)=>match y1 with
  |true=>some (.inr (.inl (a0,a3,())))
  |false=>some (.inl (a0,a1,a2,(IntKind.wrap .i64 (a3+1)),()))
 |false=>some (.inr (.inr (.inl (a0,()))))
def HN[Lk]:(List U6×Int×Unit)→Option (U4):=fun(a0,a1,_)=>
 match AQ LP many (a1,a0,(AJ a0),0,())with|none=>none|some r=>match r with
 |.inl (o0,o1,_)=>some (o0,o1,())
 |.inr r=>match r with
 |.inl (o2,_)=>some (o2,(-1:Int),())
 |.inr _=>none
def GI[Lk]:=fun v=>Lk.f (HN v)
theorem LS v:GI v=HN v:=AD _
abbrev Cn:AB:=[(.tmp 0,.dat Vk),(.tmp 1,.di)]
def Yr[Lk]:(Uw×Int×Unit)→Option (Ua):=fun(a0,a1,_)=>
 match GI (a0.2.1,a1,())with|none=>none|some (y0,y1,_)=>some (y1,())
def O9[Lk]:=fun v=>Lk.f (Yr v)
theorem ALS v:O9 v=Yr v:=AD _
abbrev ATc:AB:=[(.tmp 0,.di),(.tmp 1,.dat U7)]
abbrev AYA:AB:=[(.tmp 0,.di),(.tmp 5,.box 3),(.cell 0 0,.own 3 U0),(.cell 0 1,.map U0 U0),(.cell 0 2,.map U0 U0),(.tmp 30,.dat U7),(.tmp 31,.di),(.tmp 32,.di)]
abbrev AX9:AT:=[(.ret,[(.tmp 4,.dat .bool)]),(.exit 0,[(.tmp 5,.box 3),(.cell 0 0,.own 3 U0),(.cell 0 1,.map U0 U0),(.cell 0 2,.map U0 U0)])]
def AX8[Lk]:(Int×List Int×List Ux×List Ux×List Int×Int×Int×Unit)→Option ((Int×List Int×List Ux×List Ux×List Int×Int×Int×Unit)⊕Uk⊕(List Int×List Ux×List Ux×Unit)⊕Unit):=fun(a0,a1,a2,a3,a4,a5,a6,_)=>
 match(ilt a6 a5)with
 |true=>match idx a4 a6 with|none=>none|some x0=>match AEC (a0,x0,())with|none=>none|some (y1,y2,y3,y4,_)=>match(!y4)with
  |true=>some (.inr (.inl (false,())))
  |false=>match y3 with
  |true=>match idx a1 (IntKind.wrap .i64 ((AJ a1)-1))with|none=>none|some x5=>match(!(ieq (AI a1 (AE (IntKind.wrap .i64 ((AJ a1)-1))) 0) y1))with
   |true=>some (.inr (.inl (false,())))
   |false=>match(ilt 0 (IntKind.wrap .i64 ((AJ a1)-1)))with
   |true=>match idx a1 (IntKind.wrap .i64 ((IntKind.wrap .i64 ((AJ a1)-1))-1))with|none=>none|some x6=>match(ieq (AI a1 (AE (IntKind.wrap .i64 ((IntKind.wrap .i64 ((AJ a1)-1))-1))) 0) y2)with
    |true=>match EU a1 0 (IntKind.wrap .i64 ((AJ a1)-1))with|none=>none|some x7=>match(!y3)with
     |true=>match idx (HT 0 (AE (AJ x7)) a1) (IntKind.wrap .i64 ((((AE (AJ x7)):Nat):Int)-1))with|none=>none|some x8=>match(!(ieq (AI a1 (0+(AE (IntKind.wrap .i64 ((((AE (AJ x7)):Nat):Int)-1)))) 0) y1))with
      |true=>some (.inr (.inl (false,())))
      |false=>match(!y3)with
      |true=>some (.inl (a0,(CL (AE (AJ x7)) a1),a2,(Ao a3 y1 (IntKind.wrap .i64 (((AO a3 y1).getD 0)+1))),a4,a5,(IntKind.wrap .i64 (a6+1)),()))
      |false=>some (.inl (a0,(CL (AE (AJ x7)) a1),a2,a3,a4,a5,(IntKind.wrap .i64 (a6+1)),()))
     |false=>match(!y3)with
     |true=>some (.inl (a0,(CL (AE (AJ x7)) a1),a2,(Ao a3 y1 (IntKind.wrap .i64 (((AO a3 y1).getD 0)+1))),a4,a5,(IntKind.wrap .i64 (a6+1)),()))
     |false=>some (.inl (a0,(CL (AE (AJ x7)) a1),a2,a3,a4,a5,(IntKind.wrap .i64 (a6+1)),()))
    |false=>match(ilt 0 ((AO a2 y2).getD 0))with
    |true=>some (.inr (.inl (false,())))
    |false=>match(fits ((AJ a1)+(AJ ([y2]:List (Int)))))with
    |true=>match(!y3)with
     |true=>match idx (BE a1 ([y2]:List (Int))) (IntKind.wrap .i64 ((AJ (BE a1 ([y2]:List (Int))))-1))with|none=>none|some x9=>match(!(ieq (AI (BE a1 ([y2]:List (Int))) (AE (IntKind.wrap .i64 ((AJ (BE a1 ([y2]:List (Int))))-1))) 0) y1))with
      |true=>some (.inr (.inl (false,())))
      |false=>match(!y3)with
      |true=>some (.inl (a0,(BE a1 ([y2]:List (Int))),(Ao a2 y2 (IntKind.wrap .i64 (((AO a2 y2).getD 0)+1))),(Ao a3 y1 (IntKind.wrap .i64 (((AO a3 y1).getD 0)+1))),a4,a5,(IntKind.wrap .i64 (a6+1)),()))
      |false=>some (.inl (a0,(BE a1 ([y2]:List (Int))),(Ao a2 y2 (IntKind.wrap .i64 (((AO a2 y2).getD 0)+1))),a3,a4,a5,(IntKind.wrap .i64 (a6+1)),()))
     |false=>match(!y3)with
     |true=>some (.inl (a0,(BE a1 ([y2]:List (Int))),(Ao a2 y2 (IntKind.wrap .i64 (((AO a2 y2).getD 0)+1))),(Ao a3 y1 (IntKind.wrap .i64 (((AO a3 y1).getD 0)+1))),a4,a5,(IntKind.wrap .i64 (a6+1)),()))
     |false=>some (.inl (a0,(BE a1 ([y2]:List (Int))),(Ao a2 y2 (IntKind.wrap .i64 (((AO a2 y2).getD 0)+1))),a3,a4,a5,(IntKind.wrap .i64 (a6+1)),()))
    |false=>none
   |false=>match(ilt 0 ((AO a2 y2).getD 0))with
   |true=>some (.inr (.inl (false,())))
   |false=>match(fits ((AJ a1)+(AJ ([y2]:List (Int)))))with
   |true=>match(!y3)with
    |true=>match idx (BE a1 ([y2]:List (Int))) (IntKind.wrap .i64 ((AJ (BE a1 ([y2]:List (Int))))-1))with|none=>none|some x10=>match(!(ieq (AI (BE a1 ([y2]:List (Int))) (AE (IntKind.wrap .i64 ((AJ (BE a1 ([y2]:List (Int))))-1))) 0) y1))with
     |true=>some (.inr (.inl (false,())))
     |false=>match(!y3)with
     |true=>some (.inl (a0,(BE a1 ([y2]:List (Int))),(Ao a2 y2 (IntKind.wrap .i64 (((AO a2 y2).getD 0)+1))),(Ao a3 y1 (IntKind.wrap .i64 (((AO a3 y1).getD 0)+1))),a4,a5,(IntKind.wrap .i64 (a6+1)),()))
     |false=>some (.inl (a0,(BE a1 ([y2]:List (Int))),(Ao a2 y2 (IntKind.wrap .i64 (((AO a2 y2).getD 0)+1))),a3,a4,a5,(IntKind.wrap .i64 (a6+1)),()))
    |false=>match(!y3)with
    |true=>some (.inl (a0,(BE a1 ([y2]:List (Int))),(Ao a2 y2 (IntKind.wrap .i64 (((AO a2 y2).getD 0)+1))),(Ao a3 y1 (IntKind.wrap .i64 (((AO a3 y1).getD 0)+1))),a4,a5,(IntKind.wrap .i64 (a6+1)),()))
    |false=>some (.inl (a0,(BE a1 ([y2]:List (Int))),(Ao a2 y2 (IntKind.wrap .i64 (((AO a2 y2).getD 0)+1))),a3,a4,a5,(IntKind.wrap .i64 (a6+1)),()))
   |false=>none
  |false=>match(!y3)with
  |true=>match idx a1 (IntKind.wrap .i64 ((AJ a1)-1))with|none=>none|some x11=>match(!(ieq (AI a1 (AE (IntKind.wrap .i64 ((AJ a1)-1))) 0) y1))with
   |true=>some (.inr (.inl (false,())))
   |false=>match(!y3)with
   |true=>some (.inl (a0,a1,a2,(Ao a3 y1 (IntKind.wrap .i64 (((AO a3 y1).getD 0)+1))),a4,a5,(IntKind.wrap .i64 (a6+1)),()))
   |false=>some (.inl (a0,a1,a2,a3,a4,a5,(IntKind.wrap .i64 (a6+1)),()))
  |false=>match(!y3)with
  |true=>some (.inl (a0,a1,a2,(Ao a3 y1 (IntKind.wrap .i64 (((AO a3 y1).getD 0)+1))),a4,a5,(IntKind.wrap .i64 (a6+1)),()))
  |false=>some (.inl (a0,a1,a2,a3,a4,a5,(IntKind.wrap .i64 (a6+1)),()))
 |false=>some (.inr (.inr (.inl (a1,a2,a3,()))))
def ATd[Lk]:(Int×List Int×Unit)→Option (Uk):=fun(a0,a1,_)=>
 match idx a1 0 with|none=>none|some x0=>match tin (a0,x0,())with|none=>none|some (y1,_)=>match(!y1)with
 |true=>some (false,())
 |false=>match idx a1 0 with|none=>none|some x2=>match idx a1 0 with|none=>none|some x3=>match AQ AX8 many (a0,([x2]:List (Int)),(Ao ([]:List Ux) x3 1),([]:List Ux),a1,(AJ a1),0,())with|none=>none|some r=>match r with
 |.inl (o4,_)=>some (o4,())
 |.inr r=>match r with
 |.inl (o5,o6,o7,_)=>match(ieq (AJ o5) 1)with
  |true=>some ((ieq (AJ o7) (AJ o6)),())
  |false=>some (false,())
 |.inr _=>none
def Aaj[Lk]:=fun v=>Lk.f (ATd v)
theorem AYB v:Aaj v=ATd v:=AD _
def ASc[Lk]:Ua→Option (Uk):=fun(a0,_)=>
 some ((!(ieq a0 a0)),())
def AMt[Lk]:=fun v=>Lk.f (ASc v)
theorem AXM v:AMt v=ASc v:=AD _
def QM[Lk]:U4→Option (Ua):=fun(a0,a1,_)=>
 match AMt (a0,())with|none=>none|some (y0,_)=>match AMt (a1,())with|none=>none|some (y1,_)=>match y0 with
 |true=>match y1 with
  |true=>some (0,())
  |false=>some ((-1:Int),())
 |false=>match y1 with
 |true=>some (1,())
 |false=>match(ilt a0 a1)with
 |true=>some ((-1:Int),())
 |false=>match(ilt a1 a0)with
 |true=>some (1,())
 |false=>some (0,())
def EG[Lk]:=fun v=>Lk.f (QM v)
theorem ABi v:EG v=QM v:=AD _
abbrev JO:AB:=[(.tmp 0,.dat U7),(.tmp 1,.dat U7)]
def AIF[Lk]:(List Int×List Int×Unit)→Option (Ua):=fun(a0,a1,_)=>
 match idx a0 0 with|none=>none|some x0=>match idx a1 0 with|none=>none|some x1=>match EG (x0,x1,())with|none=>none|some (y2,_)=>some (y2,())
def Bt[Lk]:=fun v=>Lk.f (AIF v)
theorem APj v:Bt v=AIF v:=AD _
def Ig:List Int:=[0,1,2,2,3,3,3,3,4,4,4,4,4,4,4,4,5,5,5,5,5,5,5,5,5,5,5,5,5,5,5,5,6,6,6,6,6,6,6,6,6,6,6,6,6,6,6,6,6,6,6,6,6,6,6,6,6,6,6,6,6,6,6,6,7,7,7,7,7,7,7,7,7,7,7,7,7,7,7,7,7,7,7,7,7,7,7,7,7,7,7,7,7,7,7,7,7,7,7,7,7,7,7,7,7,7,7,7,7,7,7,7,7,7,7,7,7,7,7,7,7,7,7,7,7,7,7,7,8,8,8,8,8,8,8,8,8,8,8,8,8,8,8,8,8,8,8,8,8,8,8,8,8,8,8,8,8,8,8,8,8,8,8,8,8,8,8,8,8,8,8,8,8,8,8,8,8,8,8,8,8,8,8,8,8,8,8,8,8,8,8,8,8,8,8,8,8,8,8,8,8,8,8,8,8,8,8,8,8,8,8,8,8,8,8,8,8,8,8,8,8,8,8,8,8,8,8,8,8,8,8,8,8,8,8,8,8,8,8,8,8,8,8,8,8,8,8,8,8,8,8,8,8,8,8,8]
abbrev Jj:AB:=[(.tmp 0,.dat (.int .u64))]
def AJV[Lk]:Ua→Option (Ua):=fun(a0,_)=>
 match(ile 4294967296 a0)with
 |true=>match shr? .u64 a0 32 with|none=>none|some x0=>match(ile 65536 x0)with
  |true=>match shr? .u64 x0 16 with|none=>none|some x1=>match(ile 256 x1)with
   |true=>match shr? .u64 x1 8 with|none=>none|some x2=>match idx Ig (IntKind.wrap .u8 x2)with|none=>none|some x3=>some ((IntKind.wrap .i64 ((IntKind.wrap .i64 ((IntKind.wrap .i64 (32+16))+8))+(IntKind.wrap .i64 x3))),())
   |false=>match idx Ig (IntKind.wrap .u8 x1)with|none=>none|some x4=>some ((IntKind.wrap .i64 ((IntKind.wrap .i64 (32+16))+(IntKind.wrap .i64 x4))),())
  |false=>match(ile 256 x0)with
  |true=>match shr? .u64 x0 8 with|none=>none|some x5=>match idx Ig (IntKind.wrap .u8 x5)with|none=>none|some x6=>some ((IntKind.wrap .i64 ((IntKind.wrap .i64 (32+8))+(IntKind.wrap .i64 x6))),())
  |false=>match idx Ig (IntKind.wrap .u8 x0)with|none=>none|some x7=>some ((IntKind.wrap .i64 (32+(IntKind.wrap .i64 x7))),())
 |false=>match(ile 65536 a0)with
 |true=>match shr? .u64 a0 16 with|none=>none|some x8=>match(ile 256 x8)with
  |true=>match shr? .u64 x8 8 with|none=>none|some x9=>match idx Ig (IntKind.wrap .u8 x9)with|none=>none|some x10=>some ((IntKind.wrap .i64 ((IntKind.wrap .i64 ((IntKind.wrap .i64 (0+16))+8))+(IntKind.wrap .i64 x10))),())
  |false=>match idx Ig (IntKind.wrap .u8 x8)with|none=>none|some x11=>some ((IntKind.wrap .i64 ((IntKind.wrap .i64 (0+16))+(IntKind.wrap .i64 x11))),())
 |false=>match(ile 256 a0)with
 |true=>match shr? .u64 a0 8 with|none=>none|some x12=>match idx Ig (IntKind.wrap .u8 x12)with|none=>none|some x13=>some ((IntKind.wrap .i64 ((IntKind.wrap .i64 (0+8))+(IntKind.wrap .i64 x13))),())
 |false=>match idx Ig (IntKind.wrap .u8 a0)with|none=>none|some x14=>some ((IntKind.wrap .i64 (0+(IntKind.wrap .i64 x14))),())
def ASq[Lk]:=fun v=>Lk.f (AJV v)
theorem ASp v:ASq v=AJV v:=AD _
def Tx[Lk]:Ua→Option (Ua):=fun(a0,_)=>
 match ASq (a0,())with|none=>none|some (y0,_)=>some (y0,())
def bitsLen[Lk]:=fun v=>Lk.f (Tx v)
theorem AHP v:bitsLen v=Tx v:=AD _
abbrev SS:AB:=[(.tmp 0,.box 1),(.cell 0 0,.dat (.int .u64))]
abbrev SR:AB:=[(.obj 0,.box 1),(.cell 0 0,.dat (.int .u64)),(.tmp 0,.dat (.int .u64))]
def SU[Lk]:Ua→Option (U4):=fun(a0,_)=>
 match shl? .u64 a0 13 with|none=>none|some x0=>match shr? .u64 (IntKind.wrap .u64 ((BitVec.ofInt (IntKind.bits .u64) a0 ^^^ BitVec.ofInt (IntKind.bits .u64) x0).toNat)) 7 with|none=>none|some x1=>match shl? .u64 (IntKind.wrap .u64 ((BitVec.ofInt (IntKind.bits .u64) (IntKind.wrap .u64 ((BitVec.ofInt (IntKind.bits .u64) a0 ^^^ BitVec.ofInt (IntKind.bits .u64) x0).toNat)) ^^^ BitVec.ofInt (IntKind.bits .u64) x1).toNat)) 17 with|none=>none|some x2=>some ((IntKind.wrap .u64 ((BitVec.ofInt (IntKind.bits .u64) (IntKind.wrap .u64 ((BitVec.ofInt (IntKind.bits .u64) (IntKind.wrap .u64 ((BitVec.ofInt (IntKind.bits .u64) a0 ^^^ BitVec.ofInt (IntKind.bits .u64) x0).toNat)) ^^^ BitVec.ofInt (IntKind.bits .u64) x1).toNat)) ^^^ BitVec.ofInt (IntKind.bits .u64) x2).toNat)),(IntKind.wrap .u64 ((BitVec.ofInt (IntKind.bits .u64) (IntKind.wrap .u64 ((BitVec.ofInt (IntKind.bits .u64) (IntKind.wrap .u64 ((BitVec.ofInt (IntKind.bits .u64) a0 ^^^ BitVec.ofInt (IntKind.bits .u64) x0).toNat)) ^^^ BitVec.ofInt (IntKind.bits .u64) x1).toNat)) ^^^ BitVec.ofInt (IntKind.bits .u64) x2).toNat)),())
def xorNext[Lk]:=fun v=>Lk.f (SU v)
theorem AD5 v:xorNext v=SU v:=AD _
def TH[Lk]:Ua→Option (Ua):=fun(a0,_)=>
 match bitsLen ((IntKind.wrap .u64 a0),())with|none=>none|some (y0,_)=>match shl? .u64 1 y0 with|none=>none|some x1=>some (x1,())
def Of[Lk]:=fun v=>Lk.f (TH v)
theorem AFv v:Of v=TH v:=AD _
def AXl[Lk]{α:Type}(z:α)(c:α×α×Unit→Option Ua):(List α×Int×Int×Int×Int×Unit)→Option ((List α×Int×Int×Int×Int×Unit)⊕(List α×Int×Int×Int×Unit)⊕Unit):=fun(a0,a1,a2,a3,a4,_)=>
 match(ilt a1 a4)with
 |true=>match idx a0 a4 with|none=>none|some x0=>match idx a0 (IntKind.wrap .i64 (a4-1))with|none=>none|some x1=>match c ((AI a0 (AE a4) z),(AI a0 (AE (IntKind.wrap .i64 (a4-1))) z),())with|none=>none|some (y2,_)=>match(ilt y2 0)with
  |true=>match idx a0 (IntKind.wrap .i64 (a4-1))with|none=>none|some x3=>match idx a0 a4 with|none=>none|some x4=>match idx a0 a4 with|none=>none|some x5=>match idx (AX a0 (AE a4) (AI a0 (AE (IntKind.wrap .i64 (a4-1))) z)) (IntKind.wrap .i64 (a4-1))with|none=>none|some x6=>some (.inl ((AX (AX a0 (AE a4) (AI a0 (AE (IntKind.wrap .i64 (a4-1))) z)) (AE (IntKind.wrap .i64 (a4-1))) (AI a0 (AE a4) z)),a1,a2,a3,(IntKind.wrap .i64 (a4-1)),()))
  |false=>some (.inr (.inl (a0,a1,a2,a3,())))
 |false=>some (.inr (.inl (a0,a1,a2,a3,())))
def AXm[Lk]{α:Type}(z:α)(c:α×α×Unit→Option Ua):(List α×Int×Int×Int×Unit)→Option ((List α×Int×Int×Int×Unit)⊕(List α×Unit)⊕Unit):=fun(a0,a1,a2,a3,_)=>
 match(ilt a3 a2)with
 |true=>match AQ (AXl z c) many (a0,a1,a2,a3,a3,())with|none=>none|some r=>match r with
  |.inl (o0,o1,o2,o3,_)=>some (.inl (o0,o1,o2,(IntKind.wrap .i64 (o3+1)),()))
  |.inr _=>none
 |false=>some (.inr (.inl (a0,())))
def Wt[Lk]{α:Type}(z:α)(c:α×α×Unit→Option Ua):(List α×Int×Int×Unit)→Option ((List α×Unit)):=fun(a0,a1,a2,_)=>
 match AQ (AXm z c) many (a0,a1,a2,(IntKind.wrap .i64 (a1+1)),())with|none=>none|some r=>match r with
 |.inl (o0,_)=>some (o0,())
 |.inr _=>none
def AXn[Lk]{α:Type}(z:α)(c:α×α×Unit→Option Ua)(v:(List α×Int×Int×Unit)):Option ((List α×Unit)):=Lk.f ((Wt z c) v)
def AQn[Lk]{α:Type}(z:α)(c:α×α×Unit→Option Ua):(List α×Int×Int×Int×Unit)→Option ((List α×Int×Int×Int×Unit)⊕(List α×Unit)⊕(List α×Unit)⊕Unit):=fun(a0,a1,a2,a3,_)=>
 match(ile a1 (IntKind.wrap .i64 ((IntKind.wrap .i64 (2*a3))+1)))with
 |true=>some (.inr (.inl (a0,())))
 |false=>match(ilt (IntKind.wrap .i64 ((IntKind.wrap .i64 ((IntKind.wrap .i64 (2*a3))+1))+1)) a1)with
 |true=>match idx a0 (IntKind.wrap .i64 (a2+(IntKind.wrap .i64 ((IntKind.wrap .i64 (2*a3))+1))))with|none=>none|some x0=>match idx a0 (IntKind.wrap .i64 ((IntKind.wrap .i64 (a2+(IntKind.wrap .i64 ((IntKind.wrap .i64 (2*a3))+1))))+1))with|none=>none|some x1=>match c ((AI a0 (AE (IntKind.wrap .i64 (a2+(IntKind.wrap .i64 ((IntKind.wrap .i64 (2*a3))+1))))) z),(AI a0 (AE (IntKind.wrap .i64 ((IntKind.wrap .i64 (a2+(IntKind.wrap .i64 ((IntKind.wrap .i64 (2*a3))+1))))+1))) z),())with|none=>none|some (y2,_)=>match(ilt y2 0)with
  |true=>match idx a0 (IntKind.wrap .i64 (a2+a3))with|none=>none|some x3=>match idx a0 (IntKind.wrap .i64 (a2+(IntKind.wrap .i64 ((IntKind.wrap .i64 ((IntKind.wrap .i64 (2*a3))+1))+1))))with|none=>none|some x4=>match c ((AI a0 (AE (IntKind.wrap .i64 (a2+a3))) z),(AI a0 (AE (IntKind.wrap .i64 (a2+(IntKind.wrap .i64 ((IntKind.wrap .i64 ((IntKind.wrap .i64 (2*a3))+1))+1))))) z),())with|none=>none|some (y5,_)=>match(!(ilt y5 0))with
   |true=>some (.inr (.inr (.inl (a0,()))))
   |false=>match idx a0 (IntKind.wrap .i64 (a2+(IntKind.wrap .i64 ((IntKind.wrap .i64 ((IntKind.wrap .i64 (2*a3))+1))+1))))with|none=>none|some x6=>match idx a0 (IntKind.wrap .i64 (a2+a3))with|none=>none|some x7=>match idx a0 (IntKind.wrap .i64 (a2+a3))with|none=>none|some x8=>match idx (AX a0 (AE (IntKind.wrap .i64 (a2+a3))) (AI a0 (AE (IntKind.wrap .i64 (a2+(IntKind.wrap .i64 ((IntKind.wrap .i64 ((IntKind.wrap .i64 (2*a3))+1))+1))))) z)) (IntKind.wrap .i64 (a2+(IntKind.wrap .i64 ((IntKind.wrap .i64 ((IntKind.wrap .i64 (2*a3))+1))+1))))with|none=>none|some x9=>some (.inl ((AX (AX a0 (AE (IntKind.wrap .i64 (a2+a3))) (AI a0 (AE (IntKind.wrap .i64 (a2+(IntKind.wrap .i64 ((IntKind.wrap .i64 ((IntKind.wrap .i64 (2*a3))+1))+1))))) z)) (AE (IntKind.wrap .i64 (a2+(IntKind.wrap .i64 ((IntKind.wrap .i64 ((IntKind.wrap .i64 (2*a3))+1))+1))))) (AI a0 (AE (IntKind.wrap .i64 (a2+a3))) z)),a1,a2,(IntKind.wrap .i64 ((IntKind.wrap .i64 ((IntKind.wrap .i64 (2*a3))+1))+1)),()))
  |false=>match idx a0 (IntKind.wrap .i64 (a2+a3))with|none=>none|some x10=>match idx a0 (IntKind.wrap .i64 (a2+(IntKind.wrap .i64 ((IntKind.wrap .i64 (2*a3))+1))))with|none=>none|some x11=>match c ((AI a0 (AE (IntKind.wrap .i64 (a2+a3))) z),(AI a0 (AE (IntKind.wrap .i64 (a2+(IntKind.wrap .i64 ((IntKind.wrap .i64 (2*a3))+1))))) z),())with|none=>none|some (y12,_)=>match(!(ilt y12 0))with
  |true=>some (.inr (.inr (.inl (a0,()))))
  |false=>match idx a0 (IntKind.wrap .i64 (a2+(IntKind.wrap .i64 ((IntKind.wrap .i64 (2*a3))+1))))with|none=>none|some x13=>match idx a0 (IntKind.wrap .i64 (a2+a3))with|none=>none|some x14=>match idx a0 (IntKind.wrap .i64 (a2+a3))with|none=>none|some x15=>match idx (AX a0 (AE (IntKind.wrap .i64 (a2+a3))) (AI a0 (AE (IntKind.wrap .i64 (a2+(IntKind.wrap .i64 ((IntKind.wrap .i64 (2*a3))+1))))) z)) (IntKind.wrap .i64 (a2+(IntKind.wrap .i64 ((IntKind.wrap .i64 (2*a3))+1))))with|none=>none|some x16=>some (.inl ((AX (AX a0 (AE (IntKind.wrap .i64 (a2+a3))) (AI a0 (AE (IntKind.wrap .i64 (a2+(IntKind.wrap .i64 ((IntKind.wrap .i64 (2*a3))+1))))) z)) (AE (IntKind.wrap .i64 (a2+(IntKind.wrap .i64 ((IntKind.wrap .i64 (2*a3))+1))))) (AI a0 (AE (IntKind.wrap .i64 (a2+a3))) z)),a1,a2,(IntKind.wrap .i64 ((IntKind.wrap .i64 (2*a3))+1)),()))
 |false=>match idx a0 (IntKind.wrap .i64 (a2+a3))with|none=>none|some x17=>match idx a0 (IntKind.wrap .i64 (a2+(IntKind.wrap .i64 ((IntKind.wrap .i64 (2*a3))+1))))with|none=>none|some x18=>match c ((AI a0 (AE (IntKind.wrap .i64 (a2+a3))) z),(AI a0 (AE (IntKind.wrap .i64 (a2+(IntKind.wrap .i64 ((IntKind.wrap .i64 (2*a3))+1))))) z),())with|none=>none|some (y19,_)=>match(!(ilt y19 0))with
 |true=>some (.inr (.inr (.inl (a0,()))))
 |false=>match idx a0 (IntKind.wrap .i64 (a2+(IntKind.wrap .i64 ((IntKind.wrap .i64 (2*a3))+1))))with|none=>none|some x20=>match idx a0 (IntKind.wrap .i64 (a2+a3))with|none=>none|some x21=>match idx a0 (IntKind.wrap .i64 (a2+a3))with|none=>none|some x22=>match idx (AX a0 (AE (IntKind.wrap .i64 (a2+a3))) (AI a0 (AE (IntKind.wrap .i64 (a2+(IntKind.wrap .i64 ((IntKind.wrap .i64 (2*a3))+1))))) z)) (IntKind.wrap .i64 (a2+(IntKind.wrap .i64 ((IntKind.wrap .i64 (2*a3))+1))))with|none=>none|some x23=>some (.inl ((AX (AX a0 (AE (IntKind.wrap .i64 (a2+a3))) (AI a0 (AE (IntKind.wrap .i64 (a2+(IntKind.wrap .i64 ((IntKind.wrap .i64 (2*a3))+1))))) z)) (AE (IntKind.wrap .i64 (a2+(IntKind.wrap .i64 ((IntKind.wrap .i64 (2*a3))+1))))) (AI a0 (AE (IntKind.wrap .i64 (a2+a3))) z)),a1,a2,(IntKind.wrap .i64 ((IntKind.wrap .i64 (2*a3))+1)),()))
def OY[Lk]{α:Type}(z:α)(c:α×α×Unit→Option Ua):(List α×Int×Int×Int×Unit)→Option ((List α×Unit)):=fun(a0,a1,a2,a3,_)=>
 match AQ (AQn z c) many (a0,a2,a3,a1,())with|none=>none|some r=>match r with
 |.inl (o0,_)=>some (o0,())
 |.inr r=>match r with
 |.inl (o1,_)=>some (o1,())
 |.inr _=>none
def Y8[Lk]{α:Type}(z:α)(c:α×α×Unit→Option Ua)(v:(List α×Int×Int×Int×Unit)):Option ((List α×Unit)):=Lk.f ((OY z c) v)
def ATP[Lk]{α:Type}(z:α)(c:α×α×Unit→Option Ua):(List α×Int×Int×Int×Unit)→Option ((List α×Int×Int×Int×Unit)⊕(List α×Unit)⊕Unit):=fun(a0,a1,a2,a3,_)=>
 match(ile 0 a3)with
 |true=>match idx a0 (IntKind.wrap .i64 (a1+a3))with|none=>none|some x0=>match idx a0 a1 with|none=>none|some x1=>match idx a0 a1 with|none=>none|some x2=>match idx (AX a0 (AE a1) (AI a0 (AE (IntKind.wrap .i64 (a1+a3))) z)) (IntKind.wrap .i64 (a1+a3))with|none=>none|some x3=>match(Y8 z c) ((AX (AX a0 (AE a1) (AI a0 (AE (IntKind.wrap .i64 (a1+a3))) z)) (AE (IntKind.wrap .i64 (a1+a3))) (AI a0 (AE a1) z)),a2,a3,a1,())with|none=>none|some (y4,_)=>some (.inl (y4,a1,a2,(IntKind.wrap .i64 (a3-1)),()))
 |false=>some (.inr (.inl (a0,())))
def ATQ[Lk]{α:Type}(z:α)(c:α×α×Unit→Option Ua):(List α×Int×Int×Int×Int×Unit)→Option ((List α×Int×Int×Int×Int×Unit)⊕(List α×Int×Int×Int×Unit)⊕Unit):=fun(a0,a1,a2,a3,a4,_)=>
 match(ile 0 a4)with
 |true=>match(Y8 z c) (a0,a4,a3,a1,())with|none=>none|some (y0,_)=>some (.inl (y0,a1,a2,a3,(IntKind.wrap .i64 (a4-1)),()))
 |false=>some (.inr (.inl (a0,a1,a2,a3,())))
def Oi[Lk]{α:Type}(z:α)(c:α×α×Unit→Option Ua):(List α×Int×Int×Unit)→Option ((List α×Unit)):=fun(a0,a1,a2,_)=>
 match quo? .i64 (IntKind.wrap .i64 ((IntKind.wrap .i64 (a2-a1))-1)) 2 with|none=>none|some x0=>match AQ (ATQ z c) many (a0,a1,0,(IntKind.wrap .i64 (a2-a1)),x0,())with|none=>none|some r=>match r with
 |.inl (o1,o2,o3,o4,_)=>match AQ (ATP z c) many (o1,o2,o3,(IntKind.wrap .i64 (o4-1)),())with|none=>none|some r=>match r with
  |.inl (o5,_)=>some (o5,())
  |.inr _=>none
 |.inr _=>none
def AJY[Lk]{α:Type}(z:α)(c:α×α×Unit→Option Ua)(v:(List α×Int×Int×Unit)):Option ((List α×Unit)):=Lk.f ((Oi z c) v)
def AOv[Lk]{α:Type}(z:α)(c:α×α×Unit→Option Ua):(List α×Int×Int×Int×Int×Int×Unit)→Option ((List α×Int×Int×Int×Int×Int×Unit)⊕(List α×Unit)⊕Unit):=fun(a0,a1,a2,a3,a4,a5,_)=>
 match quo? .i64 a2 4 with|none=>none|some x0=>match(ile a5 (IntKind.wrap .i64 ((IntKind.wrap .i64 (a1+(IntKind.wrap .i64 (x0*2))))+1)))with
 |true=>match xorNext (a3,())with|none=>none|some (y1,y2,_)=>match(ile a2 (IntKind.wrap .i64 (IntKind.wrap .u64 ((BitVec.ofInt (IntKind.bits .u64) y2 &&& BitVec.ofInt (IntKind.bits .u64) (IntKind.wrap .u64 (a4-1))).toNat))))with
  |true=>match idx a0 (IntKind.wrap .i64 (a1+(IntKind.wrap .i64 ((IntKind.wrap .i64 (IntKind.wrap .u64 ((BitVec.ofInt (IntKind.bits .u64) y2 &&& BitVec.ofInt (IntKind.bits .u64) (IntKind.wrap .u64 (a4-1))).toNat)))-a2))))with|none=>none|some x3=>match idx a0 a5 with|none=>none|some x4=>match idx a0 a5 with|none=>none|some x5=>match idx (AX a0 (AE a5) (AI a0 (AE (IntKind.wrap .i64 (a1+(IntKind.wrap .i64 ((IntKind.wrap .i64 (IntKind.wrap .u64 ((BitVec.ofInt (IntKind.bits .u64) y2 &&& BitVec.ofInt (IntKind.bits .u64) (IntKind.wrap .u64 (a4-1))).toNat)))-a2))))) z)) (IntKind.wrap .i64 (a1+(IntKind.wrap .i64 ((IntKind.wrap .i64 (IntKind.wrap .u64 ((BitVec.ofInt (IntKind.bits .u64) y2 &&& BitVec.ofInt (IntKind.bits .u64) (IntKind.wrap .u64 (a4-1))).toNat)))-a2))))with|none=>none|some x6=>some (.inl ((AX (AX a0 (AE a5) (AI a0 (AE (IntKind.wrap .i64 (a1+(IntKind.wrap .i64 ((IntKind.wrap .i64 (IntKind.wrap .u64 ((BitVec.ofInt (IntKind.bits .u64) y2 &&& BitVec.ofInt (IntKind.bits .u64) (IntKind.wrap .u64 (a4-1))).toNat)))-a2))))) z)) (AE (IntKind.wrap .i64 (a1+(IntKind.wrap .i64 ((IntKind.wrap .i64 (IntKind.wrap .u64 ((BitVec.ofInt (IntKind.bits .u64) y2 &&& BitVec.ofInt (IntKind.bits .u64) (IntKind.wrap .u64 (a4-1))).toNat)))-a2))))) (AI a0 (AE a5) z)),a1,a2,y1,a4,(IntKind.wrap .i64 (a5+1)),()))
  |false=>match idx a0 (IntKind.wrap .i64 (a1+(IntKind.wrap .i64 (IntKind.wrap .u64 ((BitVec.ofInt (IntKind.bits .u64) y2 &&& BitVec.ofInt (IntKind.bits .u64) (IntKind.wrap .u64 (a4-1))).toNat)))))with|none=>none|some x7=>match idx a0 a5 with|none=>none|some x8=>match idx a0 a5 with|none=>none|some x9=>match idx (AX a0 (AE a5) (AI a0 (AE (IntKind.wrap .i64 (a1+(IntKind.wrap .i64 (IntKind.wrap .u64 ((BitVec.ofInt (IntKind.bits .u64) y2 &&& BitVec.ofInt (IntKind.bits .u64) (IntKind.wrap .u64 (a4-1))).toNat)))))) z)) (IntKind.wrap .i64 (a1+(IntKind.wrap .i64 (IntKind.wrap .u64 ((BitVec.ofInt (IntKind.bits .u64) y2 &&& BitVec.ofInt (IntKind.bits .u64) (IntKind.wrap .u64 (a4-1))).toNat)))))with|none=>none|some x10=>some (.inl ((AX (AX a0 (AE a5) (AI a0 (AE (IntKind.wrap .i64 (a1+(IntKind.wrap .i64 (IntKind.wrap .u64 ((BitVec.ofInt (IntKind.bits .u64) y2 &&& BitVec.ofInt (IntKind.bits .u64) (IntKind.wrap .u64 (a4-1))).toNat)))))) z)) (AE (IntKind.wrap .i64 (a1+(IntKind.wrap .i64 (IntKind.wrap .u64 ((BitVec.ofInt (IntKind.bits .u64) y2 &&& BitVec.ofInt (IntKind.bits .u64) (IntKind.wrap .u64 (a4-1))).toNat)))))) (AI a0 (AE a5) z)),a1,a2,y1,a4,(IntKind.wrap .i64 (a5+1)),()))
 |false=>some (.inr (.inl (a0,())))
def L0[Lk]{α:Type}(z:α)(c:α×α×Unit→Option Ua):(List α×Int×Int×Unit)→Option ((List α×Unit)):=fun(a0,a1,a2,_)=>
 match(ile 8 (IntKind.wrap .i64 (a2-a1)))with
 |true=>match Of ((IntKind.wrap .i64 (a2-a1)),())with|none=>none|some (y0,_)=>match quo? .i64 (IntKind.wrap .i64 (a2-a1)) 4 with|none=>none|some x1=>match AQ (AOv z c) many (a0,a1,(IntKind.wrap .i64 (a2-a1)),(IntKind.wrap .u64 (IntKind.wrap .i64 (a2-a1))),y0,(IntKind.wrap .i64 ((IntKind.wrap .i64 (a1+(IntKind.wrap .i64 (x1*2))))-1)),())with|none=>none|some r=>match r with
  |.inl (o2,_)=>some (o2,())
  |.inr _=>none
 |false=>some (a0,())
def Xd[Lk]{α:Type}(z:α)(c:α×α×Unit→Option Ua)(v:(List α×Int×Int×Unit)):Option ((List α×Unit)):=Lk.f ((L0 z c) v)
def JZ[Lk]{α:Type}(z:α)(c:α×α×Unit→Option Ua):(List α×Int×Int×Int×Unit)→Option ((List α×Int×Int×Int×Unit)):=fun(a0,a1,a2,a3,_)=>
 match idx a0 a2 with|none=>none|some x0=>match idx a0 a1 with|none=>none|some x1=>match c ((AI a0 (AE a2) z),(AI a0 (AE a1) z),())with|none=>none|some (y2,_)=>match(ilt y2 0)with
 |true=>some (a0,(IntKind.wrap .i64 (a3+1)),a2,a1,())
 |false=>some (a0,a3,a1,a2,())
def Ja[Lk]{α:Type}(z:α)(c:α×α×Unit→Option Ua)(v:(List α×Int×Int×Int×Unit)):Option ((List α×Int×Int×Int×Unit)):=Lk.f ((JZ z c) v)
def Je[Lk]{α:Type}(z:α)(c:α×α×Unit→Option Ua):(List α×Int×Int×Int×Int×Unit)→Option ((List α×Int×Int×Unit)):=fun(a0,a1,a2,a3,a4,_)=>
 match(Ja z c) (a0,a1,a2,a4,())with|none=>none|some (y0,y1,y2,y3,_)=>match(Ja z c) (y0,y3,a3,y1,())with|none=>none|some (y4,y5,y6,y7,_)=>match(Ja z c) (y4,y2,y6,y5,())with|none=>none|some (y8,y9,y10,y11,_)=>some (y8,y9,y11,())
def Jf[Lk]{α:Type}(z:α)(c:α×α×Unit→Option Ua)(v:(List α×Int×Int×Int×Int×Unit)):Option ((List α×Int×Int×Unit)):=Lk.f ((Je z c) v)
def Jh[Lk]{α:Type}(z:α)(c:α×α×Unit→Option Ua):(List α×Int×Int×Unit)→Option ((List α×Int×Int×Unit)):=fun(a0,a1,a2,_)=>
 match(Jf z c) (a0,(IntKind.wrap .i64 (a1-1)),a1,(IntKind.wrap .i64 (a1+1)),a2,())with|none=>none|some (y0,y1,y2,_)=>some (y0,y1,y2,())
def Ji[Lk]{α:Type}(z:α)(c:α×α×Unit→Option Ua)(v:(List α×Int×Int×Unit)):Option ((List α×Int×Int×Unit)):=Lk.f ((Jh z c) v)
def K5[Lk]{α:Type}(z:α)(c:α×α×Unit→Option Ua):(List α×Int×Int×Unit)→Option ((List α×Int×Int×Unit)):=fun(a0,a1,a2,_)=>
 match quo? .i64 (IntKind.wrap .i64 (a2-a1)) 4 with|none=>none|some x0=>match quo? .i64 (IntKind.wrap .i64 (a2-a1)) 4 with|none=>none|some x1=>match quo? .i64 (IntKind.wrap .i64 (a2-a1)) 4 with|none=>none|some x2=>match(ile 8 (IntKind.wrap .i64 (a2-a1)))with
 |true=>match(ile 50 (IntKind.wrap .i64 (a2-a1)))with
  |true=>match(Ji z c) (a0,(IntKind.wrap .i64 (a1+(IntKind.wrap .i64 (x0*1)))),0,())with|none=>none|some (y3,y4,y5,_)=>match(Ji z c) (y3,(IntKind.wrap .i64 (a1+(IntKind.wrap .i64 (x1*2)))),y4,())with|none=>none|some (y6,y7,y8,_)=>match(Ji z c) (y6,(IntKind.wrap .i64 (a1+(IntKind.wrap .i64 (x2*3)))),y7,())with|none=>none|some (y9,y10,y11,_)=>match(Jf z c) (y9,y5,y8,y11,y10,())with|none=>none|some (y12,y13,y14,_)=>match(ieq y13 0)with
   |true=>some (y12,y14,1,())
   |false=>match(ieq y13 12)with
   |true=>some (y12,y14,2,())
   |false=>some (y12,y14,0,())
  |false=>match(Jf z c) (a0,(IntKind.wrap .i64 (a1+(IntKind.wrap .i64 (x0*1)))),(IntKind.wrap .i64 (a1+(IntKind.wrap .i64 (x1*2)))),(IntKind.wrap .i64 (a1+(IntKind.wrap .i64 (x2*3)))),0,())with|none=>none|some (y15,y16,y17,_)=>match(ieq y16 0)with
  |true=>some (y15,y17,1,())
  |false=>match(ieq y16 12)with
  |true=>some (y15,y17,2,())
  |false=>some (y15,y17,0,())
 |false=>match(ieq 0 0)with
 |true=>some (a0,(IntKind.wrap .i64 (a1+(IntKind.wrap .i64 (x1*2)))),1,())
 |false=>match(ieq 0 12)with
 |true=>some (a0,(IntKind.wrap .i64 (a1+(IntKind.wrap .i64 (x1*2)))),2,())
 |false=>some (a0,(IntKind.wrap .i64 (a1+(IntKind.wrap .i64 (x1*2)))),0,())
def WS[Lk]{α:Type}(z:α)(c:α×α×Unit→Option Ua)(v:(List α×Int×Int×Unit)):Option ((List α×Int×Int×Unit)):=Lk.f ((K5 z c) v)
def AWe[Lk]{α:Type}(z:α)(c:α×α×Unit→Option Ua):(List α×Int×Int×Unit)→Option ((List α×Int×Int×Unit)⊕(List α×Unit)⊕Unit):=fun(a0,a1,a2,_)=>
 match(ilt a1 a2)with
 |true=>match idx a0 a2 with|none=>none|some x0=>match idx a0 a1 with|none=>none|some x1=>match idx a0 a1 with|none=>none|some x2=>match idx (AX a0 (AE a1) (AI a0 (AE a2) z)) a2 with|none=>none|some x3=>some (.inl ((AX (AX a0 (AE a1) (AI a0 (AE a2) z)) (AE a2) (AI a0 (AE a1) z)),(IntKind.wrap .i64 (a1+1)),(IntKind.wrap .i64 (a2-1)),()))
 |false=>some (.inr (.inl (a0,())))
def WK[Lk]{α:Type}(z:α)(c:α×α×Unit→Option Ua):(List α×Int×Int×Unit)→Option ((List α×Unit)):=fun(a0,a1,a2,_)=>
 match AQ (AWe z c) many (a0,a1,(IntKind.wrap .i64 (a2-1)),())with|none=>none|some r=>match r with
 |.inl (o0,_)=>some (o0,())
 |.inr _=>none
def AWf[Lk]{α:Type}(z:α)(c:α×α×Unit→Option Ua)(v:(List α×Int×Int×Unit)):Option ((List α×Unit)):=Lk.f ((WK z c) v)
def ND[Lk]{α:Type}(z:α)(c:α×α×Unit→Option Ua):(List α×Int×Int×Int×Int×Int×Unit)→Option ((List α×Int×Int×Int×Int×Int×Unit)⊕(List α×Int×Int×Int×Int×Unit)⊕Unit):=fun(a0,a1,a2,a3,a4,a5,_)=>
 match(ilt a5 a2)with
 |true=>match idx a0 a5 with|none=>none|some x0=>match idx a0 (IntKind.wrap .i64 (a5-1))with|none=>none|some x1=>match c ((AI a0 (AE a5) z),(AI a0 (AE (IntKind.wrap .i64 (a5-1))) z),())with|none=>none|some (y2,_)=>match(!(ilt y2 0))with
  |true=>some (.inr (.inl (a0,a1,a2,a3,a4,())))
  |false=>match idx a0 (IntKind.wrap .i64 (a5-1))with|none=>none|some x3=>match idx a0 a5 with|none=>none|some x4=>match idx a0 a5 with|none=>none|some x5=>match idx (AX a0 (AE a5) (AI a0 (AE (IntKind.wrap .i64 (a5-1))) z)) (IntKind.wrap .i64 (a5-1))with|none=>none|some x6=>some (.inl ((AX (AX a0 (AE a5) (AI a0 (AE (IntKind.wrap .i64 (a5-1))) z)) (AE (IntKind.wrap .i64 (a5-1))) (AI a0 (AE a5) z)),a1,a2,a3,a4,(IntKind.wrap .i64 (a5+1)),()))
 |false=>some (.inr (.inl (a0,a1,a2,a3,a4,())))
def AAP[Lk]{α:Type}(z:α)(c:α×α×Unit→Option Ua):(List α×Int×Int×Int×Int×Int×Unit)→Option ((List α×Int×Int×Int×Int×Int×Unit)⊕(List α×Int×Int×Int×Int×Unit)⊕Unit):=fun(a0,a1,a2,a3,a4,a5,_)=>
 match(ile 1 a5)with
 |true=>match idx a0 a5 with|none=>none|some x0=>match idx a0 (IntKind.wrap .i64 (a5-1))with|none=>none|some x1=>match c ((AI a0 (AE a5) z),(AI a0 (AE (IntKind.wrap .i64 (a5-1))) z),())with|none=>none|some (y2,_)=>match(!(ilt y2 0))with
  |true=>some (.inr (.inl (a0,a1,a2,a3,a4,())))
  |false=>match idx a0 (IntKind.wrap .i64 (a5-1))with|none=>none|some x3=>match idx a0 a5 with|none=>none|some x4=>match idx a0 a5 with|none=>none|some x5=>match idx (AX a0 (AE a5) (AI a0 (AE (IntKind.wrap .i64 (a5-1))) z)) (IntKind.wrap .i64 (a5-1))with|none=>none|some x6=>some (.inl ((AX (AX a0 (AE a5) (AI a0 (AE (IntKind.wrap .i64 (a5-1))) z)) (AE (IntKind.wrap .i64 (a5-1))) (AI a0 (AE a5) z)),a1,a2,a3,a4,(IntKind.wrap .i64 (a5-1)),()))
 |false=>some (.inr (.inl (a0,a1,a2,a3,a4,())))
def AAQ[Lk]{α:Type}(z:α)(c:α×α×Unit→Option Ua):(List α×Int×Int×Int×Int×Unit)→Option ((List α×Int×Int×Int×Int×Unit)⊕(List α×Int×Int×Int×Int×Unit)⊕Unit):=fun(a0,a1,a2,a3,a4,_)=>
 match(ilt a3 a2)with
 |true=>match idx a0 a3 with|none=>none|some x0=>match idx a0 (IntKind.wrap .i64 (a3-1))with|none=>none|some x1=>match c ((AI a0 (AE a3) z),(AI a0 (AE (IntKind.wrap .i64 (a3-1))) z),())with|none=>none|some (y2,_)=>match(!(ilt y2 0))with
  |true=>some (.inl (a0,a1,a2,(IntKind.wrap .i64 (a3+1)),a4,()))
  |false=>some (.inr (.inl (a0,a1,a2,a3,a4,())))
 |false=>some (.inr (.inl (a0,a1,a2,a3,a4,())))
def AAR[Lk]{α:Type}(z:α)(c:α×α×Unit→Option Ua):(List α×Int×Int×Int×Int×Unit)→Option ((List α×Int×Int×Int×Int×Unit)⊕(List α×Bool×Unit)⊕(List α×Unit)⊕Unit):=fun(a0,a1,a2,a3,a4,_)=>
 match(ilt a4 5)with
 |true=>match AQ (AAQ z c) many (a0,a1,a2,a3,a4,())with|none=>none|some r=>match r with
  |.inl (o0,o1,o2,o3,o4,_)=>match(ieq o3 o2)with
   |true=>some (.inr (.inl (o0,true,())))
   |false=>match(ilt (IntKind.wrap .i64 (o2-o1)) 50)with
   |true=>some (.inr (.inl (o0,false,())))
   |false=>match idx o0 (IntKind.wrap .i64 (o3-1))with|none=>none|some x5=>match idx o0 o3 with|none=>none|some x6=>match idx o0 o3 with|none=>none|some x7=>match idx (AX o0 (AE o3) (AI o0 (AE (IntKind.wrap .i64 (o3-1))) z)) (IntKind.wrap .i64 (o3-1))with|none=>none|some x8=>match(ile 2 (IntKind.wrap .i64 (o3-o1)))with
   |true=>match AQ (AAP z c) many ((AX (AX o0 (AE o3) (AI o0 (AE (IntKind.wrap .i64 (o3-1))) z)) (AE (IntKind.wrap .i64 (o3-1))) (AI o0 (AE o3) z)),o1,o2,o3,o4,(IntKind.wrap .i64 (o3-1)),())with|none=>none|some r=>match r with
    |.inl (o9,o10,o11,o12,o13,_)=>match(ile 2 (IntKind.wrap .i64 (o11-o12)))with
     |true=>match AQ (ND z c) many (o9,o10,o11,o12,o13,(IntKind.wrap .i64 (o12+1)),())with|none=>none|some r=>match r with
      |.inl (o14,o15,o16,o17,o18,_)=>some (.inl (o14,o15,o16,o17,(IntKind.wrap .i64 (o18+1)),()))
      |.inr _=>none
     |false=>some (.inl (o9,o10,o11,o12,(IntKind.wrap .i64 (o13+1)),()))
    |.inr _=>none
   |false=>match(ile 2 (IntKind.wrap .i64 (o2-o3)))with
   |true=>match AQ (ND z c) many ((AX (AX o0 (AE o3) (AI o0 (AE (IntKind.wrap .i64 (o3-1))) z)) (AE (IntKind.wrap .i64 (o3-1))) (AI o0 (AE o3) z)),o1,o2,o3,o4,(IntKind.wrap .i64 (o3+1)),())with|none=>none|some r=>match r with
    |.inl (o19,o20,o21,o22,o23,_)=>some (.inl (o19,o20,o21,o22,(IntKind.wrap .i64 (o23+1)),()))
    |.inr _=>none
   |false=>some (.inl ((AX (AX o0 (AE o3) (AI o0 (AE (IntKind.wrap .i64 (o3-1))) z)) (AE (IntKind.wrap .i64 (o3-1))) (AI o0 (AE o3) z)),o1,o2,o3,(IntKind.wrap .i64 (o4+1)),()))
  |.inr _=>none
 |false=>some (.inr (.inr (.inl (a0,()))))
def Hp[Lk]{α:Type}(z:α)(c:α×α×Unit→Option Ua):(List α×Int×Int×Unit)→Option ((List α×Bool×Unit)):=fun(a0,a1,a2,_)=>
 match AQ (AAR z c) many (a0,a1,a2,(IntKind.wrap .i64 (a1+1)),0,())with|none=>none|some r=>match r with
 |.inl (o0,o1,_)=>some (o0,o1,())
 |.inr r=>match r with
 |.inl (o2,_)=>some (o2,false,())
 |.inr _=>none
def K6[Lk]{α:Type}(z:α)(c:α×α×Unit→Option Ua)(v:(List α×Int×Int×Unit)):Option ((List α×Bool×Unit)):=Lk.f ((Hp z c) v)
def AFi[Lk]{α:Type}(z:α)(c:α×α×Unit→Option Ua):(List α×Int×Int×Int×Unit)→Option ((List α×Int×Int×Int×Unit)⊕(List α×Int×Int×Int×Unit)⊕Unit):=fun(a0,a1,a2,a3,_)=>
 match(ile a2 a3)with
 |true=>match idx a0 a1 with|none=>none|some x0=>match idx a0 a3 with|none=>none|some x1=>match c ((AI a0 (AE a1) z),(AI a0 (AE a3) z),())with|none=>none|some (y2,_)=>match(ilt y2 0)with
  |true=>some (.inl (a0,a1,a2,(IntKind.wrap .i64 (a3-1)),()))
  |false=>some (.inr (.inl (a0,a1,a2,a3,())))
 |false=>some (.inr (.inl (a0,a1,a2,a3,())))
def AFj[Lk]{α:Type}(z:α)(c:α×α×Unit→Option Ua):(List α×Int×Int×Int×Unit)→Option ((List α×Int×Int×Int×Unit)⊕(List α×Int×Int×Int×Unit)⊕Unit):=fun(a0,a1,a2,a3,_)=>
 match(ile a2 a3)with
 |true=>match idx a0 a1 with|none=>none|some x0=>match idx a0 a2 with|none=>none|some x1=>match c ((AI a0 (AE a1) z),(AI a0 (AE a2) z),())with|none=>none|some (y2,_)=>match(!(ilt y2 0))with
  |true=>some (.inl (a0,a1,(IntKind.wrap .i64 (a2+1)),a3,()))
  |false=>some (.inr (.inl (a0,a1,a2,a3,())))
 |false=>some (.inr (.inl (a0,a1,a2,a3,())))
def AFk[Lk]{α:Type}(z:α)(c:α×α×Unit→Option Ua):(List α×Int×Int×Int×Unit)→Option ((List α×Int×Int×Int×Unit)⊕(List α×Int×Unit)⊕Unit):=fun(a0,a1,a2,a3,_)=>
 match AQ (AFj z c) many (a0,a1,a2,a3,())with|none=>none|some r=>match r with
 |.inl (o0,o1,o2,o3,_)=>match AQ (AFi z c) many (o0,o1,o2,o3,())with|none=>none|some r=>match r with
  |.inl (o4,o5,o6,o7,_)=>match(ilt o7 o6)with
   |true=>some (.inr (.inl (o4,o6,())))
   |false=>match idx o4 o7 with|none=>none|some x8=>match idx o4 o6 with|none=>none|some x9=>match idx o4 o6 with|none=>none|some x10=>match idx (AX o4 (AE o6) (AI o4 (AE o7) z)) o7 with|none=>none|some x11=>some (.inl ((AX (AX o4 (AE o6) (AI o4 (AE o7) z)) (AE o7) (AI o4 (AE o6) z)),o5,(IntKind.wrap .i64 (o6+1)),(IntKind.wrap .i64 (o7-1)),()))
  |.inr _=>none
 |.inr _=>none
def JY[Lk]{α:Type}(z:α)(c:α×α×Unit→Option Ua):(List α×Int×Int×Int×Unit)→Option ((List α×Int×Unit)):=fun(a0,a1,a2,a3,_)=>
 match idx a0 a3 with|none=>none|some x0=>match idx a0 a1 with|none=>none|some x1=>match idx a0 a1 with|none=>none|some x2=>match idx (AX a0 (AE a1) (AI a0 (AE a3) z)) a3 with|none=>none|some x3=>match AQ (AFk z c) many ((AX (AX a0 (AE a1) (AI a0 (AE a3) z)) (AE a3) (AI a0 (AE a1) z)),a1,(IntKind.wrap .i64 (a1+1)),(IntKind.wrap .i64 (a2-1)),())with|none=>none|some r=>match r with
 |.inl (o4,o5,_)=>some (o4,o5,())
 |.inr _=>none
def Od[Lk]{α:Type}(z:α)(c:α×α×Unit→Option Ua)(v:(List α×Int×Int×Int×Unit)):Option ((List α×Int×Unit)):=Lk.f ((JY z c) v)
def ASN[Lk]{α:Type}(z:α)(c:α×α×Unit→Option Ua):(List α×Int×Int×Int×Unit)→Option ((List α×Int×Int×Int×Unit)⊕(List α×Int×Int×Int×Unit)⊕Unit):=fun(a0,a1,a2,a3,_)=>
 match(ile a2 a3)with
 |true=>match idx a0 a3 with|none=>none|some x0=>match idx a0 a1 with|none=>none|some x1=>match c ((AI a0 (AE a3) z),(AI a0 (AE a1) z),())with|none=>none|some (y2,_)=>match(!(ilt y2 0))with
  |true=>some (.inl (a0,a1,a2,(IntKind.wrap .i64 (a3-1)),()))
  |false=>some (.inr (.inl (a0,a1,a2,a3,())))
 |false=>some (.inr (.inl (a0,a1,a2,a3,())))
def ASO[Lk]{α:Type}(z:α)(c:α×α×Unit→Option Ua):(List α×Int×Int×Int×Unit)→Option ((List α×Int×Int×Int×Unit)⊕(List α×Int×Int×Int×Unit)⊕Unit):=fun(a0,a1,a2,a3,_)=>
 match(ile a2 a3)with
 |true=>match idx a0 a2 with|none=>none|some x0=>match idx a0 a1 with|none=>none|some x1=>match c ((AI a0 (AE a2) z),(AI a0 (AE a1) z),())with|none=>none|some (y2,_)=>match(ilt y2 0)with
  |true=>some (.inl (a0,a1,(IntKind.wrap .i64 (a2+1)),a3,()))
  |false=>some (.inr (.inl (a0,a1,a2,a3,())))
 |false=>some (.inr (.inl (a0,a1,a2,a3,())))
def ASP[Lk]{α:Type}(z:α)(c:α×α×Unit→Option Ua):(List α×Int×Int×Int×Unit)→Option ((List α×Int×Int×Int×Unit)⊕(List α×Int×Int×Unit)⊕Unit):=fun(a0,a1,a2,a3,_)=>
 match AQ (ASO z c) many (a0,a1,a2,a3,())with|none=>none|some r=>match r with
 |.inl (o0,o1,o2,o3,_)=>match AQ (ASN z c) many (o0,o1,o2,o3,())with|none=>none|some r=>match r with
  |.inl (o4,o5,o6,o7,_)=>match(ilt o7 o6)with
   |true=>some (.inr (.inl (o4,o5,o7,())))
   |false=>match idx o4 o7 with|none=>none|some x8=>match idx o4 o6 with|none=>none|some x9=>match idx o4 o6 with|none=>none|some x10=>match idx (AX o4 (AE o6) (AI o4 (AE o7) z)) o7 with|none=>none|some x11=>some (.inl ((AX (AX o4 (AE o6) (AI o4 (AE o7) z)) (AE o7) (AI o4 (AE o6) z)),o5,(IntKind.wrap .i64 (o6+1)),(IntKind.wrap .i64 (o7-1)),()))
  |.inr _=>none
 |.inr _=>none
def ASQ[Lk]{α:Type}(z:α)(c:α×α×Unit→Option Ua):(List α×Int×Int×Int×Unit)→Option ((List α×Int×Int×Int×Unit)⊕(List α×Int×Int×Int×Unit)⊕Unit):=fun(a0,a1,a2,a3,_)=>
 match(ile a2 a3)with
 |true=>match idx a0 a3 with|none=>none|some x0=>match idx a0 a1 with|none=>none|some x1=>match c ((AI a0 (AE a3) z),(AI a0 (AE a1) z),())with|none=>none|some (y2,_)=>match(!(ilt y2 0))with
  |true=>some (.inl (a0,a1,a2,(IntKind.wrap .i64 (a3-1)),()))
  |false=>some (.inr (.inl (a0,a1,a2,a3,())))
 |false=>some (.inr (.inl (a0,a1,a2,a3,())))
def ASR[Lk]{α:Type}(z:α)(c:α×α×Unit→Option Ua):(List α×Int×Int×Int×Unit)→Option ((List α×Int×Int×Int×Unit)⊕(List α×Int×Int×Int×Unit)⊕Unit):=fun(a0,a1,a2,a3,_)=>
 match(ile a2 a3)with
 |true=>match idx a0 a2 with|none=>none|some x0=>match idx a0 a1 with|none=>none|some x1=>match c ((AI a0 (AE a2) z),(AI a0 (AE a1) z),())with|none=>none|some (y2,_)=>match(ilt y2 0)with
  |true=>some (.inl (a0,a1,(IntKind.wrap .i64 (a2+1)),a3,()))
  |false=>some (.inr (.inl (a0,a1,a2,a3,())))
 |false=>some (.inr (.inl (a0,a1,a2,a3,())))
def Oc[Lk]{α:Type}(z:α)(c:α×α×Unit→Option Ua):(List α×Int×Int×Int×Unit)→Option ((List α×Int×Bool×Unit)):=fun(a0,a1,a2,a3,_)=>
 match idx a0 a3 with|none=>none|some x0=>match idx a0 a1 with|none=>none|some x1=>match idx a0 a1 with|none=>none|some x2=>match idx (AX a0 (AE a1) (AI a0 (AE a3) z)) a3 with|none=>none|some x3=>match AQ (ASR z c) many ((AX (AX a0 (AE a1) (AI a0 (AE a3) z)) (AE a3) (AI a0 (AE a1) z)),a1,(IntKind.wrap .i64 (a1+1)),(IntKind.wrap .i64 (a2-1)),())with|none=>none|some r=>match r with
 |.inl (o4,o5,o6,o7,_)=>match AQ (ASQ z c) many (o4,o5,o6,o7,())with|none=>none|some r=>match r with
  |.inl (o8,o9,o10,o11,_)=>match(ilt o11 o10)with
   |true=>match idx o8 o9 with|none=>none|some x12=>match idx o8 o11 with|none=>none|some x13=>match idx o8 o11 with|none=>none|some x14=>match idx (AX o8 (AE o11) (AI o8 (AE o9) z)) o9 with|none=>none|some x15=>some ((AX (AX o8 (AE o11) (AI o8 (AE o9) z)) (AE o9) (AI o8 (AE o11) z)),o11,true,())
   |false=>match idx o8 o11 with|none=>none|some x16=>match idx o8 o10 with|none=>none|some x17=>match idx o8 o10 with|none=>none|some x18=>match idx (AX o8 (AE o10) (AI o8 (AE o11) z)) o11 with|none=>none|some x19=>match AQ (ASP z c) many ((AX (AX o8 (AE o10) (AI o8 (AE o11) z)) (AE o11) (AI o8 (AE o10) z)),o9,(IntKind.wrap .i64 (o10+1)),(IntKind.wrap .i64 (o11-1)),())with|none=>none|some r=>match r with
   |.inl (o20,o21,o22,_)=>match idx o20 o21 with|none=>none|some x23=>match idx o20 o22 with|none=>none|some x24=>match idx o20 o22 with|none=>none|some x25=>match idx (AX o20 (AE o22) (AI o20 (AE o21) z)) o21 with|none=>none|some x26=>some ((AX (AX o20 (AE o22) (AI o20 (AE o21) z)) (AE o21) (AI o20 (AE o22) z)),o22,false,())
   |.inr _=>none
  |.inr _=>none
 |.inr _=>none
def AAa[Lk]{α:Type}(z:α)(c:α×α×Unit→Option Ua)(v:(List α×Int×Int×Int×Unit)):Option ((List α×Int×Bool×Unit)):=Lk.f ((Oc z c) v)
def Wa[Lk]{α:Type}(z:α)(c:α×α×Unit→Option Ua)(self:(List α×Int×Int×Int×Unit)→Option ((List α×Unit)))(y7:List α)(a1 a2 p l:Int)(a4 a5:Bool):Option ((List α×Int×Int×Int×Bool×Bool×Unit)⊕(List α×Unit)⊕Unit):=
 match(ilt 0 a1)with
 |true=>match idx y7 (IntKind.wrap .i64 (a1-1))with|none=>none|some x9=>match idx y7 p with|none=>none|some x10=>match c ((AI y7 (AE (IntKind.wrap .i64 (a1-1))) z),(AI y7 (AE p) z),())with|none=>none|some (y11,_)=>match(!(ilt y11 0))with
  |true=>match(Od z c) (y7,a1,a2,p,())with|none=>none|some (y12,y13,_)=>some (.inl (y12,y13,a2,l,a4,a5,()))
  |false=>match(AAa z c) (y7,a1,a2,p,())with|none=>none|some (y14,y15,y16,_)=>match quo? .i64 (IntKind.wrap .i64 (a2-a1)) 8 with|none=>none|some x17=>match(ilt (IntKind.wrap .i64 (y15-a1)) (IntKind.wrap .i64 (a2-y15)))with
  |true=>match self (y14,a1,y15,l,())with|none=>none|some (y18,_)=>some (.inl (y18,(IntKind.wrap .i64 (y15+1)),a2,l,(ile x17 (IntKind.wrap .i64 (y15-a1))),y16,()))
  |false=>match self (y14,(IntKind.wrap .i64 (y15+1)),a2,l,())with|none=>none|some (y19,_)=>some (.inl (y19,a1,y15,l,(ile x17 (IntKind.wrap .i64 (a2-y15))),y16,()))
 |false=>match(AAa z c) (y7,a1,a2,p,())with|none=>none|some (y20,y21,y22,_)=>match quo? .i64 (IntKind.wrap .i64 (a2-a1)) 8 with|none=>none|some x23=>match(ilt (IntKind.wrap .i64 (y21-a1)) (IntKind.wrap .i64 (a2-y21)))with
 |true=>match self (y20,a1,y21,l,())with|none=>none|some (y24,_)=>some (.inl (y24,(IntKind.wrap .i64 (y21+1)),a2,l,(ile x23 (IntKind.wrap .i64 (y21-a1))),y22,()))
 |false=>match self (y20,(IntKind.wrap .i64 (y21+1)),a2,l,())with|none=>none|some (y25,_)=>some (.inl (y25,a1,y21,l,(ile x23 (IntKind.wrap .i64 (a2-y21))),y22,()))
def ARy[Lk]{α:Type}(z:α)(c:α×α×Unit→Option Ua)(self:(List α×Int×Int×Int×Unit)→Option ((List α×Unit)))(y6:List α)(a1 a2 p h l:Int)(a4 a5:Bool):Option ((List α×Int×Int×Int×Bool×Bool×Unit)⊕(List α×Unit)⊕Unit):=
 match a4 with
 |true=>match a5 with
  |true=>match(ieq h 1)with
   |true=>match(K6 z c) (y6,a1,a2,())with|none=>none|some (y7,y8,_)=>match y8 with
    |true=>some (.inr (.inl (y7,())))
    |false=>(Wa z c) self y7 a1 a2 p l a4 a5
   |false=>(Wa z c) self y6 a1 a2 p l a4 a5
  |false=>(Wa z c) self y6 a1 a2 p l a4 a5
 |false=>(Wa z c) self y6 a1 a2 p l a4 a5
def ARx[Lk]{α:Type}(z:α)(c:α×α×Unit→Option Ua)(self:(List α×Int×Int×Int×Unit)→Option ((List α×Unit)))(y2:List α)(a1 a2 l:Int)(a4 a5:Bool):Option ((List α×Int×Int×Int×Bool×Bool×Unit)⊕(List α×Unit)⊕Unit):=
 match(WS z c) (y2,a1,a2,())with|none=>none|some (y3,y4,y5,_)=>match(ieq y5 2)with
 |true=>match(AWf z c) (y3,a1,a2,())with|none=>none|some (y6,_)=>(ARy z c) self y6 a1 a2 (IntKind.wrap .i64 ((IntKind.wrap .i64 (a2-1))-(IntKind.wrap .i64 (y4-a1)))) 1 l a4 a5
 |false=>(ARy z c) self y3 a1 a2 y4 y5 l a4 a5
def Oa[Lk]{α:Type}(z:α)(c:α×α×Unit→Option Ua)(self:(List α×Int×Int×Int×Unit)→Option ((List α×Unit))):(List α×Int×Int×Int×Bool×Bool×Unit)→Option ((List α×Int×Int×Int×Bool×Bool×Unit)⊕(List α×Unit)⊕Unit):=fun(a0,a1,a2,a3,a4,a5,_)=>
 match(ile (IntKind.wrap .i64 (a2-a1)) 12)with
 |true=>match(AXn z c) (a0,a1,a2,())with|none=>none|some (y0,_)=>some (.inr (.inl (y0,())))
 |false=>match(ieq a3 0)with
 |true=>match(AJY z c) (a0,a1,a2,())with|none=>none|some (y1,_)=>some (.inr (.inl (y1,())))
 |false=>match(!a4)with
 |true=>match(Xd z c) (a0,a1,a2,())with|none=>none|some (y2,_)=>(ARx z c) self y2 a1 a2 (IntKind.wrap .i64 (a3-1)) a4 a5
 |false=>(ARx z c) self a0 a1 a2 a3 a4 a5
def Wb[Lk]{α:Type}(z:α)(c:α×α×Unit→Option Ua)(self:(List α×Int×Int×Int×Unit)→Option ((List α×Unit))):(List α×Int×Int×Int×Unit)→Option ((List α×Unit)):=fun(a0,a1,a2,a3,_)=>
 match AQ ((Oa z c) self) many (a0,a1,a2,a3,true,true,())with|none=>none|some r=>match r with
 |.inl (o0,_)=>some (o0,())
 |.inr _=>none
def PZ[Lk]{α:Type}(z:α)(c:α×α×Unit→Option Ua):Nat→(List α×Int×Int×Int×Unit)→Option ((List α×Unit))
 |0,_=>none
 |n+1,v=>(Wb z c) ((PZ z c) n) v
def AW3[Lk]{α:Type}(z:α)(c:α×α×Unit→Option Ua)(v:(List α×Int×Int×Int×Unit)):Option ((List α×Unit)):=Lk.f ((PZ z c) 100 v)
def OW[Lk]{α:Type}(z:α)(c:α×α×Unit→Option Ua):(List α×Unit)→Option ((List α×Unit)):=fun(a0,_)=>
 match bitsLen ((IntKind.wrap .u64 (AJ a0)),())with|none=>none|some (y0,_)=>match(AW3 z c) (a0,0,(AJ a0),y0,())with|none=>none|some (y1,_)=>some (y1,())
def AQW[Lk]{α:Type}(z:α)(c:α×α×Unit→Option Ua)(v:(List α×Unit)):Option ((List α×Unit)):=Lk.f ((OW z c) v)
abbrev FL:AB:=[(.tmp 0,.own 68 U7),(.tmp 1,.di),(.tmp 2,.di),(.tmp 3,.clo 229 [])]
abbrev C3:AB:=[(.obj 0,.own 68 U7)]
abbrev AZ:List RS:=[]
abbrev AXc:AB:=[(.obj 0,.own 68 U7),(.tmp 0,.own' 0),(.tmp 1,.di),(.tmp 2,.di),(.tmp 3,.clo 229 []),(.tmp 8,.di),(.tmp 9,.di)]
abbrev AXb:AT:=[(.exit 2,[(.obj 0,.own 68 U7),(.tmp 0,.own' 0),(.tmp 1,.di),(.tmp 2,.di),(.tmp 3,.clo 229 []),(.tmp 8,.di)])]
abbrev AXd:AB:=[(.obj 0,.own 68 U7),(.tmp 0,.own' 0),(.tmp 1,.di),(.tmp 2,.di),(.tmp 3,.clo 229 []),(.tmp 8,.di)]
abbrev Wr:AT:=[(.exit 0,[(.obj 0,.own 68 U7)])]
def Aac[Lk]:Um→Option (V2):=Wt (([]:List (Int)):U6) Bt
def AbJ[Lk](v:Um):Option (V2):=AXn (([]:List (Int)):U6) Bt v
theorem AXe v:AbJ v=Aac v:=AD _
abbrev D0:AB:=[(.tmp 0,.own 68 U7),(.tmp 1,.di),(.tmp 2,.di),(.tmp 3,.di),(.tmp 4,.clo 229 [])]
abbrev AQh:AB:=[(.obj 0,.own 68 U7),(.tmp 0,.own' 0),(.tmp 2,.di),(.tmp 3,.di),(.tmp 4,.clo 229 []),(.tmp 10,.di)]
abbrev AQg:AT:=[(.exit 0,[(.obj 0,.own 68 U7)]),(.ret,[(.obj 0,.own 68 U7)])]
def AWN[Lk]:Up→Option (V2):=OY (([]:List (Int)):U6) Bt
def AY4[Lk](v:Up):Option (V2):=Y8 (([]:List (Int)):U6) Bt v
theorem AQi v:AY4 v=AWN v:=AD _
abbrev ATE:AB:=[(.obj 0,.own 68 U7),(.tmp 0,.own' 0),(.tmp 3,.clo 229 []),(.tmp 8,.di),(.tmp 9,.di),(.tmp 12,.di)]
abbrev ATC:AT:=[(.exit 2,[(.obj 0,.own 68 U7)])]
abbrev ATF:AB:=[(.obj 0,.own 68 U7),(.tmp 0,.own' 0),(.tmp 3,.clo 229 []),(.tmp 8,.di),(.tmp 9,.di),(.tmp 10,.di),(.tmp 11,.di)]
abbrev ATD:AT:=[(.exit 0,[(.obj 0,.own 68 U7),(.tmp 0,.own' 0),(.tmp 3,.clo 229 []),(.tmp 8,.di),(.tmp 9,.di),(.tmp 10,.di)])]
def AXx[Lk]:Um→Option (V2):=Oi (([]:List (Int)):U6) Bt
def AZI[Lk](v:Um):Option (V2):=AJY (([]:List (Int)):U6) Bt v
theorem ATG v:AZI v=AXx v:=AD _
abbrev AOq:AB:=[(.obj 0,.own 68 U7),(.tmp 0,.own' 0),(.tmp 1,.di),(.tmp 8,.di),(.tmp 9,.box 1),(.cell 1 0,.dat (.int .u64)),(.tmp 10,.dat (.int .u64)),(.tmp 11,.di)]
def AUV[Lk]:Um→Option (V2):=L0 (([]:List (Int)):U6) Bt
def AUX[Lk](v:Um):Option (V2):=Xd (([]:List (Int)):U6) Bt v
theorem AOr v:AUX v=AUV v:=AD _
abbrev TB:AB:=[(.tmp 0,.own 68 U7),(.tmp 1,.di),(.tmp 2,.di),(.tmp 3,.box 1),(.cell 1 0,.di),(.tmp 4,.clo 229 [])]
abbrev TA:AB:=[(.obj 0,.own 68 U7),(.obj 1,.box 1),(.cell 1 0,.di),(.tmp 0,.di),(.tmp 1,.di)]
abbrev AM:List RS:=[.one,.one]
def AMn[Lk]:Up→Option (Up):=JZ (([]:List (Int)):U6) Bt
def AJG[Lk](v:Up):Option (Up):=Ja (([]:List (Int)):U6) Bt v
theorem AFq v:AJG v=AMn v:=AD _
abbrev TJ:AB:=[(.tmp 0,.own 68 U7),(.tmp 1,.di),(.tmp 2,.di),(.tmp 3,.di),(.tmp 4,.box 1),(.cell 1 0,.di),(.tmp 5,.clo 229 [])]
abbrev Jc:AB:=[(.obj 0,.own 68 U7),(.obj 1,.box 1),(.cell 1 0,.di),(.tmp 0,.di)]
def AMx[Lk]:(List U6×Int×Int×Int×Int×Unit)→Option (Um):=Je (([]:List (Int)):U6) Bt
def AJM[Lk](v:(List U6×Int×Int×Int×Int×Unit)):Option (Um):=Jf (([]:List (Int)):U6) Bt v
theorem AF0 v:AJM v=AMx v:=AD _
abbrev TO:AB:=[(.tmp 0,.own 68 U7),(.tmp 1,.di),(.tmp 2,.box 1),(.cell 1 0,.di),(.tmp 3,.clo 229 [])]
def AM4[Lk]:Um→Option (Um):=Jh (([]:List (Int)):U6) Bt
def AJP[Lk](v:Um):Option (Um):=Ji (([]:List (Int)):U6) Bt v
theorem AF4 v:AJP v=AM4 v:=AD _
abbrev Zo:AB:=[(.obj 0,.own 68 U7),(.tmp 0,.di),(.tmp 1,.di)]
def ARa[Lk]:Um→Option (Um):=K5 (([]:List (Int)):U6) Bt
def ARc[Lk](v:Um):Option (Um):=WS (([]:List (Int)):U6) Bt v
theorem AMR v:ARc v=ARa v:=AD _
abbrev AWZ:AB:=[(.obj 0,.own 68 U7),(.tmp 0,.own' 0),(.tmp 8,.di),(.tmp 9,.di)]
def AZl[Lk]:Um→Option (V2):=WK (([]:List (Int)):U6) Bt
def Aa9[Lk](v:Um):Option (V2):=AWf (([]:List (Int)):U6) Bt v
theorem AWa v:Aa9 v=AZl v:=AD _
abbrev Pc:AB:=[(.obj 0,.own 68 U7),(.tmp 0,.dat .bool)]
abbrev AAB:AB:=[(.obj 0,.own 68 U7),(.tmp 0,.own' 0),(.tmp 1,.di),(.tmp 2,.di),(.tmp 3,.clo 229 []),(.tmp 9,.di),(.tmp 10,.di),(.tmp 12,.di)]
abbrev Z7:AT:=[(.exit 6,[(.obj 0,.own 68 U7),(.tmp 0,.own' 0),(.tmp 1,.di),(.tmp 2,.di),(.tmp 3,.clo 229 []),(.tmp 9,.di),(.tmp 10,.di)])]
abbrev AAC:AB:=[(.obj 0,.own 68 U7),(.tmp 0,.own' 0),(.tmp 1,.di),(.tmp 2,.di),(.tmp 3,.clo 229 []),(.tmp 9,.di),(.tmp 10,.di),(.tmp 11,.di)]
abbrev Z8:AT:=[(.exit 4,[(.obj 0,.own 68 U7),(.tmp 0,.own' 0),(.tmp 1,.di),(.tmp 2,.di),(.tmp 3,.clo 229 []),(.tmp 9,.di),(.tmp 10,.di)])]
abbrev NA:AB:=[(.obj 0,.own 68 U7),(.tmp 0,.own' 0),(.tmp 1,.di),(.tmp 2,.di),(.tmp 3,.clo 229 []),(.tmp 9,.di),(.tmp 10,.di)]
abbrev Z9:AT:=[(.exit 2,[(.obj 0,.own 68 U7),(.tmp 0,.own' 0),(.tmp 1,.di),(.tmp 2,.di),(.tmp 3,.clo 229 []),(.tmp 9,.di),(.tmp 10,.di)])]
abbrev AAA:AT:=[(.ret,[(.obj 0,.own 68 U7),(.tmp 8,.dat .bool)]),(.exit 0,[(.obj 0,.own 68 U7)])]
def AFO[Lk]:Um→Option ((List U6×Bool×Unit)):=Hp (([]:List (Int)):U6) Bt
def AAE[Lk](v:Um):Option ((List U6×Bool×Unit)):=K6 (([]:List (Int)):U6) Bt v
theorem AAD v:AAE v=AFO v:=AD _
abbrev S4:AB:=[(.obj 0,.own 68 U7),(.tmp 0,.di)]
abbrev KM:AB:=[(.obj 0,.own 68 U7),(.tmp 0,.own' 0),(.tmp 1,.di),(.tmp 4,.clo 229 []),(.tmp 11,.di),(.tmp 12,.di)]
abbrev AFX:AT:=[(.exit 4,[(.obj 0,.own 68 U7),(.tmp 0,.own' 0),(.tmp 1,.di),(.tmp 4,.clo 229 []),(.tmp 11,.di),(.tmp 12,.di)])]
abbrev AFY:AT:=[(.exit 2,[(.obj 0,.own 68 U7),(.tmp 0,.own' 0),(.tmp 1,.di),(.tmp 4,.clo 229 []),(.tmp 11,.di),(.tmp 12,.di)])]
abbrev AFZ:AT:=[(.exit 0,[(.obj 0,.own 68 U7),(.tmp 11,.di)])]
def AMf[Lk]:Up→Option ((List U6×Int×Unit)):=JY (([]:List (Int)):U6) Bt
def AJC[Lk](v:Up):Option ((List U6×Int×Unit)):=Od (([]:List (Int)):U6) Bt v
theorem AFa v:AJC v=AMf v:=AD _
abbrev AI7:AB:=[(.obj 0,.own 68 U7),(.tmp 0,.di),(.tmp 1,.dat .bool)]
abbrev Ib:AB:=[(.obj 0,.own 68 U7),(.tmp 0,.own' 0),(.tmp 1,.di),(.tmp 4,.clo 229 []),(.tmp 12,.di),(.tmp 13,.di)]
abbrev AR6:AT:=[(.exit 8,[(.obj 0,.own 68 U7),(.tmp 0,.own' 0),(.tmp 1,.di),(.tmp 4,.clo 229 []),(.tmp 12,.di),(.tmp 13,.di)])]
abbrev AR7:AT:=[(.exit 6,[(.obj 0,.own 68 U7),(.tmp 0,.own' 0),(.tmp 1,.di),(.tmp 4,.clo 229 []),(.tmp 12,.di),(.tmp 13,.di)])]
abbrev AR8:AT:=[(.exit 4,[(.obj 0,.own 68 U7),(.tmp 0,.own' 0),(.tmp 1,.di),(.tmp 13,.di)])]
abbrev AR9:AT:=[(.exit 2,[(.obj 0,.own 68 U7),(.tmp 0,.own' 0),(.tmp 1,.di),(.tmp 4,.clo 229 []),(.tmp 12,.di),(.tmp 13,.di)])]
abbrev ASA:AT:=[(.exit 0,[(.obj 0,.own 68 U7),(.tmp 0,.own' 0),(.tmp 1,.di),(.tmp 4,.clo 229 []),(.tmp 12,.di),(.tmp 13,.di)])]
def AXA[Lk]:Up→Option ((List U6×Int×Bool×Unit)):=Oc (([]:List (Int)):U6) Bt
def AZE[Lk](v:Up):Option ((List U6×Int×Bool×Unit)):=AAa (([]:List (Int)):U6) Bt v
theorem ASB v:AZE v=AXA v:=AD _
abbrev AI0:AB:=[(.obj 0,.own 68 U7),(.tmp 0,.own' 0),(.tmp 1,.di),(.tmp 2,.di),(.tmp 3,.di),(.tmp 4,.clo 229 []),(.tmp 10,.dat .bool),(.tmp 11,.dat .bool)]
abbrev AIz:AT:=[(.ret,[(.obj 0,.own 68 U7)])]
def AIy[Lk](self:Up→Option (V2)):(List U6×Int×Int×Int×Bool×Bool×Unit)→Option ((List U6×Int×Int×Int×Bool×Bool×Unit)⊕V2⊕Unit):=Oa (([]:List (Int)):U6) Bt self
def AaB[Lk](self:Up→Option (V2)):Up→Option (V2):=Wb (([]:List (Int)):U6) Bt self
def PY[Lk]:Nat→Up→Option (V2):=PZ (([]:List (Int)):U6) Bt
def AWz[Lk](v:Up):Option (V2):=AW3 (([]:List (Int)):U6) Bt v
theorem AWy v:AWz v=PY 100 v:=AD _
abbrev AIb:AB:=[(.tmp 0,.own 68 U7),(.tmp 1,.clo 229 [])]
def AWF[Lk]:V2→Option (V2):=OW (([]:List (Int)):U6) Bt
def AQT[Lk](v:V2):Option (V2):=AQW (([]:List (Int)):U6) Bt v
theorem AQS v:AQT v=AWF v:=AD _
abbrev DN:AB:=[(.tmp 0,.dat U7),(.cap 1 0,.box 2),(.cell 0 0,.di),(.cell 0 1,.dat Uf),(.tmp 1,.clo 220 [(0,0)])]
abbrev HO:AB:=[(.obj 0,.box 2),(.cell 0 0,.di),(.cell 0 1,.dat Uf),(.tmp 0,.di)]
abbrev LW:AB:=[(.obj 0,.box 2),(.cell 0 0,.di),(.cell 0 1,.dat Uf),(.tmp 0,.dat U7),(.tmp 1,.clo 220 [(0,0)]),(.tmp 7,.di),(.tmp 8,.di)]
abbrev LV:AT:=[(.ret,[(.obj 0,.box 2),(.cell 0 0,.di),(.cell 0 1,.dat Uf),(.tmp 4,.di)]),(.exit 0,[(.obj 0,.box 2),(.cell 0 0,.di),(.cell 0 1,.dat Uf)])]
def LU[Lk]:(Int×List U6×List Int×Int×Int×Unit)→Option ((Int×List U6×List Int×Int×Int×Unit)⊕(Int×List U6×Int×Unit)⊕(Int×List U6×Unit)⊕Unit):=fun(a0,a1,a2,a3,a4,_)=>
 match(ilt a4 a3)with
 |true=>match idx a2 a4 with|none=>none|some x0=>match(ilt x0 0)with
  |true=>some (.inr (.inl (a0,a1,a4,())))
  |false=>match(ile a0 x0)with
  |true=>some (.inr (.inl (a0,a1,a4,())))
  |false=>some (.inl (a0,a1,a2,a3,(IntKind.wrap .i64 (a4+1)),()))
 |false=>some (.inr (.inr (.inl (a0,a1,()))))
def HP[Lk]:(List Int×Int×List U6×Unit)→Option ((Int×List U6×Int×Unit)):=fun(a0,a1,a2,_)=>
 match AQ LU many (a1,a2,a0,(AJ a0),0,())with|none=>none|some r=>match r with
 |.inl (o0,o1,o2,_)=>some (o0,o1,o2,())
 |.inr r=>match r with
 |.inl (o3,o4,_)=>some (o3,o4,(-1:Int),())
 |.inr _=>none
def GJ[Lk]:=fun v=>Lk.f (HP v)
theorem LX v:GJ v=HP v:=AD _
abbrev ATu:AB:=[(.tmp 0,.dat V8)]
abbrev AYR:AB:=[(.tmp 3,.own 3 U0),(.tmp 6,.dat V8),(.tmp 7,.di),(.tmp 8,.di)]
abbrev AJk:AT:=[(.exit 0,[(.tmp 3,.own 3 U0)])]
def AYQ[Lk]:(List Int×List U4×Int×Int×Unit)→Option ((List Int×List U4×Int×Int×Unit)⊕Uc⊕Unit):=fun(a0,a1,a2,a3,_)=>
 match(ilt a3 a2)with
 |true=>match idx a1 a3 with|none=>none|some x0=>match(fits ((AJ a0)+(AJ ([x0.1,x0.2.1]:List (Int)))))with
  |true=>some (.inl ((BE a0 ([x0.1,x0.2.1]:List (Int))),a1,a2,(IntKind.wrap .i64 (a3+1)),()))
  |false=>none
 |false=>some (.inr (.inl (a0,())))
def ATv[Lk]:Uu→Option (Uc):=fun(a0,_)=>
 match AQ AYQ many (([]:List (Int)),a0,(AJ a0),0,())with|none=>none|some r=>match r with
 |.inl (o0,_)=>some (o0,())
 |.inr _=>none
def ends[Lk]:=fun v=>Lk.f (ATv v)
theorem AYS v:ends v=ATv v:=AD _
abbrev AaU:AB:=[(.tmp 3,.di),(.tmp 6,.dat U7),(.tmp 7,.di),(.tmp 8,.di)]
abbrev AaT:AT:=[(.ret,[(.tmp 2,.di)]),(.exit 0,[(.tmp 3,.di)])]
def AaS[Lk]:(Int×List Int×Int×Int×Unit)→Option ((Int×List Int×Int×Int×Unit)⊕Ua⊕Ua⊕Unit):=fun(a0,a1,a2,a3,_)=>
 match(ilt a3 a2)with
 |true=>match idx a1 a3 with|none=>none|some x0=>match(!(ieq x0 a0))with
  |true=>some (.inr (.inl (x0,())))
  |false=>some (.inl (a0,a1,a2,(IntKind.wrap .i64 (a3+1)),()))
 |false=>some (.inr (.inr (.inl (a0,()))))
def AZG[Lk]:Uc→Option (Ua):=fun(a0,_)=>
 match AQ AaS many (0,a0,(AJ a0),0,())with|none=>none|some r=>match r with
 |.inl (o0,_)=>some (o0,())
 |.inr r=>match r with
 |.inl (o1,_)=>some (o1,())
 |.inr _=>none
def orI[Lk]:=fun v=>Lk.f (AZG v)
theorem AaV v:orI v=AZG v:=AD _
def AAi[Lk]:Ua→Option (Uk):=fun(a0,_)=>
 match(ile 1 a0)with
 |true=>some ((ile a0 64),())
 |false=>some (false,())
def Wi[Lk]:=fun v=>Lk.f (AAi v)
theorem ANE v:Wi v=AAi v:=AD _
def ASg[Lk]:Ua→Option (Ua):=fun(a0,_)=>
 match Wi (a0,())with|none=>none|some (y0,_)=>match(!y0)with
 |true=>some (0,())
 |false=>match bitsLen ((IntKind.wrap .u64 (IntKind.wrap .i64 (a0-1))),())with|none=>none|some (y1,_)=>some (y1,())
def ASh[Lk]:=fun v=>Lk.f (ASg v)
theorem AXS v:ASh v=ASg v:=AD _
abbrev Hw:AB:=[(.tmp 0,.dat U2),(.tmp 1,.dat U2)]
def Pp[Lk]:(U1×U1×Unit)→Option (Ua):=fun(a0,a1,_)=>
 match EG (a0.1,a1.1,())with|none=>none|some (y0,_)=>match EG (a0.2.1,a1.2.1,())with|none=>none|some (y1,_)=>match orI (([y0,y1]:List (Int)),())with|none=>none|some (y2,_)=>some (y2,())
def Ih[Lk]:=fun v=>Lk.f (Pp v)
theorem AAm v:Ih v=Pp v:=AD _
abbrev HJ:AB:=[(.tmp 0,.dat V4),(.tmp 1,.di)]
abbrev LC:AB:=[(.tmp 0,.own 63 U3)]
abbrev ANC:AB:=[(.tmp 1,.di),(.tmp 5,.own 63 U3),(.tmp 9,.dat Us),(.tmp 10,.di),(.tmp 11,.di)]
abbrev ANB:AT:=[(.exit 0,[(.tmp 5,.own 63 U3)])]
def ANA[Lk]:(Int×List U4×List U1×Int×Int×Unit)→Option ((Int×List U4×List U1×Int×Int×Unit)⊕Uu⊕Unit):=fun(a0,a1,a2,a3,a4,_)=>
 match(ilt a4 a3)with
 |true=>match idx a2 a4 with|none=>none|some x0=>match x0.2.2.2.1 with
  |true=>match(ile a0 x0.2.2.1)with
   |true=>match(fits ((AJ a1)+(AJ ([(x0.1,(x0.2.1,()))]:List U4))))with
    |true=>some (.inl (a0,(BE a1 ([(x0.1,(x0.2.1,()))]:List U4)),a2,a3,(IntKind.wrap .i64 (a4+1)),()))
    |false=>none
   |false=>some (.inl (a0,a1,a2,a3,(IntKind.wrap .i64 (a4+1)),()))
  |false=>some (.inl (a0,a1,a2,a3,(IntKind.wrap .i64 (a4+1)),()))
 |false=>some (.inr (.inl (a1,())))
def AAg[Lk]:(Ui×Int×Unit)→Option (Uu):=fun(a0,a1,_)=>
 match AQ ANA many (a1,([]:List U4),a0.2.1,(AJ a0.2.1),0,())with|none=>none|some r=>match r with
 |.inl (o0,_)=>some (o0,())
 |.inr _=>none
def Wh[Lk]:=fun v=>Lk.f (AAg v)
theorem AND v:Wh v=AAg v:=AD _
end
end Go.Pev
end
section
namespace Go.Pev
noncomputable section
abbrev Ff:AB:=[(.tmp 0,.own 63 U3),(.cap 1 0,.box 1),(.cell 1 0,.map U3 U0),(.tmp 1,.clo 45 [(1,0)])]
abbrev Lc:AB:=[(.obj 0,.own 63 U3),(.obj 1,.box 1),(.cell 1 0,.map U3 U0),(.obj 2,.map' 2),(.tmp 0,.di)]
abbrev Rm:AB:=[(.obj 0,.own 63 U3),(.obj 1,.box 1),(.cell 1 0,.map U3 U0),(.obj 2,.map' 2),(.tmp 0,.own' 0),(.tmp 1,.clo 45 [(1,0)]),(.tmp 7,.di),(.tmp 8,.di)]
abbrev Rl:AT:=[(.ret,[(.obj 0,.own 63 U3),(.obj 1,.box 1),(.cell 1 0,.map U3 U0),(.obj 2,.map' 2),(.tmp 4,.di)]),(.exit 0,[(.obj 0,.own 63 U3),(.obj 1,.box 1),(.cell 1 0,.map U3 U0),(.obj 2,.map' 2)])]
def Rk[Lk]:(List U4×List Vi×Int×Int×Unit)→Option ((List U4×List Vi×Int×Int×Unit)⊕(List U4×List Vi×Int×Unit)⊕(List U4×List Vi×Unit)⊕Unit):=fun(a0,a1,a2,a3,_)=>
 match(ilt a3 a2)with
 |true=>match idx a0 a3 with|none=>none|some x0=>match(ieq ((AO a1 ((AI a0 (AE a3) (0,(0,()))).1,((AI a0 (AE a3) (0,(0,()))).2.1,()))).getD 0) 0)with
  |true=>some (.inr (.inl (a0,a1,a3,())))
  |false=>some (.inl (a0,a1,a2,(IntKind.wrap .i64 (a3+1)),()))
 |false=>some (.inr (.inr (.inl (a0,a1,()))))
def Ld[Lk]:(List U4×List Vi×Unit)→Option ((List U4×List Vi×Int×Unit)):=fun(a0,a1,_)=>
 match AQ Rk many (a0,a1,(AJ a0),0,())with|none=>none|some r=>match r with
 |.inl (o0,o1,o2,_)=>some (o0,o1,o2,())
 |.inr r=>match r with
 |.inl (o3,o4,_)=>some (o3,o4,(-1:Int),())
 |.inr _=>none
def Kd[Lk]:=fun v=>Lk.f (Ld v)
theorem Rn v:Kd v=Ld v:=AD _
abbrev P0:AB:=[(.tmp 0,.dat U3),(.tmp 1,.dat U3)]
def P1[Lk]:(U4×U4×Unit)→Option (Ua):=fun(a0,a1,_)=>
 match EG (a0.1,a1.1,())with|none=>none|some (y0,_)=>match EG (a0.2.1,a1.2.1,())with|none=>none|some (y1,_)=>match orI (([y0,y1]:List (Int)),())with|none=>none|some (y2,_)=>some (y2,())
def Ap[Lk]:=fun v=>Lk.f (P1 v)
theorem AAz v:Ap v=P1 v:=AD _
abbrev FM:AB:=[(.tmp 0,.own 63 U3),(.tmp 1,.di),(.tmp 2,.di),(.tmp 3,.clo 115 [])]
abbrev C5:AB:=[(.obj 0,.own 63 U3)]
abbrev AXp:AB:=[(.obj 0,.own 63 U3),(.tmp 0,.own' 0),(.tmp 1,.di),(.tmp 2,.di),(.tmp 3,.clo 115 []),(.tmp 8,.di),(.tmp 9,.di)]
abbrev AXo:AT:=[(.exit 2,[(.obj 0,.own 63 U3),(.tmp 0,.own' 0),(.tmp 1,.di),(.tmp 2,.di),(.tmp 3,.clo 115 []),(.tmp 8,.di)])]
abbrev AXq:AB:=[(.obj 0,.own 63 U3),(.tmp 0,.own' 0),(.tmp 1,.di),(.tmp 2,.di),(.tmp 3,.clo 115 []),(.tmp 8,.di)]
abbrev Wu:AT:=[(.exit 0,[(.obj 0,.own 63 U3)])]
def Aag[Lk]:Ug→Option (Uu):=Wt ((0,(0,())):U4) Ap
def AbK[Lk](v:Ug):Option (Uu):=AXn ((0,(0,())):U4) Ap v
theorem AXr v:AbK v=Aag v:=AD _
abbrev D2:AB:=[(.tmp 0,.own 63 U3),(.tmp 1,.di),(.tmp 2,.di),(.tmp 3,.di),(.tmp 4,.clo 115 [])]
abbrev AQp:AB:=[(.obj 0,.own 63 U3),(.tmp 0,.own' 0),(.tmp 2,.di),(.tmp 3,.di),(.tmp 4,.clo 115 []),(.tmp 10,.di)]
abbrev AQo:AT:=[(.exit 0,[(.obj 0,.own 63 U3)]),(.ret,[(.obj 0,.own 63 U3)])]
def AWQ[Lk]:Uq→Option (Uu):=OY ((0,(0,())):U4) Ap
def AY5[Lk](v:Uq):Option (Uu):=Y8 ((0,(0,())):U4) Ap v
theorem AQq v:AY5 v=AWQ v:=AD _
abbrev ATT:AB:=[(.obj 0,.own 63 U3),(.tmp 0,.own' 0),(.tmp 3,.clo 115 []),(.tmp 8,.di),(.tmp 9,.di),(.tmp 12,.di)]
abbrev ATR:AT:=[(.exit 2,[(.obj 0,.own 63 U3)])]
abbrev ATU:AB:=[(.obj 0,.own 63 U3),(.tmp 0,.own' 0),(.tmp 3,.clo 115 []),(.tmp 8,.di),(.tmp 9,.di),(.tmp 10,.di),(.tmp 11,.di)]
abbrev ATS:AT:=[(.exit 0,[(.obj 0,.own 63 U3),(.tmp 0,.own' 0),(.tmp 3,.clo 115 []),(.tmp 8,.di),(.tmp 9,.di),(.tmp 10,.di)])]
def AX0[Lk]:Ug→Option (Uu):=Oi ((0,(0,())):U4) Ap
def AZJ[Lk](v:Ug):Option (Uu):=AJY ((0,(0,())):U4) Ap v
theorem ATV v:AZJ v=AX0 v:=AD _
abbrev AOw:AB:=[(.obj 0,.own 63 U3),(.tmp 0,.own' 0),(.tmp 1,.di),(.tmp 8,.di),(.tmp 9,.box 1),(.cell 1 0,.dat (.int .u64)),(.tmp 10,.dat (.int .u64)),(.tmp 11,.di)]
def AUZ[Lk]:Ug→Option (Uu):=L0 ((0,(0,())):U4) Ap
def AUb[Lk](v:Ug):Option (Uu):=Xd ((0,(0,())):U4) Ap v
theorem AOx v:AUb v=AUZ v:=AD _
abbrev TG:AB:=[(.tmp 0,.own 63 U3),(.tmp 1,.di),(.tmp 2,.di),(.tmp 3,.box 1),(.cell 1 0,.di),(.tmp 4,.clo 115 [])]
abbrev TF:AB:=[(.obj 0,.own 63 U3),(.obj 1,.box 1),(.cell 1 0,.di),(.tmp 0,.di),(.tmp 1,.di)]
def AMq[Lk]:Uq→Option (Uq):=JZ ((0,(0,())):U4) Ap
def AJH[Lk](v:Uq):Option (Uq):=Ja ((0,(0,())):U4) Ap v
theorem AFs v:AJH v=AMq v:=AD _
abbrev TM:AB:=[(.tmp 0,.own 63 U3),(.tmp 1,.di),(.tmp 2,.di),(.tmp 3,.di),(.tmp 4,.box 1),(.cell 1 0,.di),(.tmp 5,.clo 115 [])]
abbrev Jg:AB:=[(.obj 0,.own 63 U3),(.obj 1,.box 1),(.cell 1 0,.di),(.tmp 0,.di)]
def AM0[Lk]:(List U4×Int×Int×Int×Int×Unit)→Option (Ug):=Je ((0,(0,())):U4) Ap
def AJN[Lk](v:(List U4×Int×Int×Int×Int×Unit)):Option (Ug):=Jf ((0,(0,())):U4) Ap v
theorem AF2 v:AJN v=AM0 v:=AD _
abbrev TR:AB:=[(.tmp 0,.own 63 U3),(.tmp 1,.di),(.tmp 2,.box 1),(.cell 1 0,.di),(.tmp 3,.clo 115 [])]
def AM7[Lk]:Ug→Option (Ug):=Jh ((0,(0,())):U4) Ap
def AJQ[Lk](v:Ug):Option (Ug):=Ji ((0,(0,())):U4) Ap v
theorem AF6 v:AJQ v=AM7 v:=AD _
abbrev Zr:AB:=[(.obj 0,.own 63 U3),(.tmp 0,.di),(.tmp 1,.di)]
def ARe[Lk]:Ug→Option (Ug):=K5 ((0,(0,())):U4) Ap
def ARg[Lk](v:Ug):Option (Ug):=WS ((0,(0,())):U4) Ap v
theorem AMT v:ARg v=ARe v:=AD _
abbrev AWg:AB:=[(.obj 0,.own 63 U3),(.tmp 0,.own' 0),(.tmp 8,.di),(.tmp 9,.di)]
def AZp[Lk]:Ug→Option (Uu):=WK ((0,(0,())):U4) Ap
def AbA[Lk](v:Ug):Option (Uu):=AWf ((0,(0,())):U4) Ap v
theorem AWh v:AbA v=AZp v:=AD _
abbrev Pf:AB:=[(.obj 0,.own 63 U3),(.tmp 0,.dat .bool)]
abbrev AAW:AB:=[(.obj 0,.own 63 U3),(.tmp 0,.own' 0),(.tmp 1,.di),(.tmp 2,.di),(.tmp 3,.clo 115 []),(.tmp 9,.di),(.tmp 10,.di),(.tmp 12,.di)]
abbrev AAS:AT:=[(.exit 6,[(.obj 0,.own 63 U3),(.tmp 0,.own' 0),(.tmp 1,.di),(.tmp 2,.di),(.tmp 3,.clo 115 []),(.tmp 9,.di),(.tmp 10,.di)])]
abbrev AAX:AB:=[(.obj 0,.own 63 U3),(.tmp 0,.own' 0),(.tmp 1,.di),(.tmp 2,.di),(.tmp 3,.clo 115 []),(.tmp 9,.di),(.tmp 10,.di),(.tmp 11,.di)]
abbrev AAT:AT:=[(.exit 4,[(.obj 0,.own 63 U3),(.tmp 0,.own' 0),(.tmp 1,.di),(.tmp 2,.di),(.tmp 3,.clo 115 []),(.tmp 9,.di),(.tmp 10,.di)])]
abbrev NF:AB:=[(.obj 0,.own 63 U3),(.tmp 0,.own' 0),(.tmp 1,.di),(.tmp 2,.di),(.tmp 3,.clo 115 []),(.tmp 9,.di),(.tmp 10,.di)]
abbrev AAU:AT:=[(.exit 2,[(.obj 0,.own 63 U3),(.tmp 0,.own' 0),(.tmp 1,.di),(.tmp 2,.di),(.tmp 3,.clo 115 []),(.tmp 9,.di),(.tmp 10,.di)])]
abbrev AAV:AT:=[(.ret,[(.obj 0,.own 63 U3),(.tmp 8,.dat .bool)]),(.exit 0,[(.obj 0,.own 63 U3)])]
def AFR[Lk]:Ug→Option ((List U4×Bool×Unit)):=Hp ((0,(0,())):U4) Ap
def AAZ[Lk](v:Ug):Option ((List U4×Bool×Unit)):=K6 ((0,(0,())):U4) Ap v
theorem AAY v:AAZ v=AFR v:=AD _
abbrev S6:AB:=[(.obj 0,.own 63 U3),(.tmp 0,.di)]
abbrev KO:AB:=[(.obj 0,.own 63 U3),(.tmp 0,.own' 0),(.tmp 1,.di),(.tmp 4,.clo 115 []),(.tmp 11,.di),(.tmp 12,.di)]
abbrev AFl:AT:=[(.exit 4,[(.obj 0,.own 63 U3),(.tmp 0,.own' 0),(.tmp 1,.di),(.tmp 4,.clo 115 []),(.tmp 11,.di),(.tmp 12,.di)])]
abbrev AFm:AT:=[(.exit 2,[(.obj 0,.own 63 U3),(.tmp 0,.own' 0),(.tmp 1,.di),(.tmp 4,.clo 115 []),(.tmp 11,.di),(.tmp 12,.di)])]
abbrev AFn:AT:=[(.exit 0,[(.obj 0,.own 63 U3),(.tmp 11,.di)])]
def AMi[Lk]:Uq→Option ((List U4×Int×Unit)):=JY ((0,(0,())):U4) Ap
def AJD[Lk](v:Uq):Option ((List U4×Int×Unit)):=Od ((0,(0,())):U4) Ap v
theorem AFo v:AJD v=AMi v:=AD _
abbrev AJE:AB:=[(.obj 0,.own 63 U3),(.tmp 0,.di),(.tmp 1,.dat .bool)]
abbrev Ie:AB:=[(.obj 0,.own 63 U3),(.tmp 0,.own' 0),(.tmp 1,.di),(.tmp 4,.clo 115 []),(.tmp 12,.di),(.tmp 13,.di)]
abbrev ASS:AT:=[(.exit 8,[(.obj 0,.own 63 U3),(.tmp 0,.own' 0),(.tmp 1,.di),(.tmp 4,.clo 115 []),(.tmp 12,.di),(.tmp 13,.di)])]
abbrev AST:AT:=[(.exit 6,[(.obj 0,.own 63 U3),(.tmp 0,.own' 0),(.tmp 1,.di),(.tmp 4,.clo 115 []),(.tmp 12,.di),(.tmp 13,.di)])]
abbrev ASU:AT:=[(.exit 4,[(.obj 0,.own 63 U3),(.tmp 0,.own' 0),(.tmp 1,.di),(.tmp 13,.di)])]
abbrev ASV:AT:=[(.exit 2,[(.obj 0,.own 63 U3),(.tmp 0,.own' 0),(.tmp 1,.di),(.tmp 4,.clo 115 []),(.tmp 12,.di),(.tmp 13,.di)])]
abbrev ASW:AT:=[(.exit 0,[(.obj 0,.own 63 U3),(.tmp 0,.own' 0),(.tmp 1,.di),(.tmp 4,.clo 115 []),(.tmp 12,.di),(.tmp 13,.di)])]
def AXD[Lk]:Uq→Option ((List U4×Int×Bool×Unit)):=Oc ((0,(0,())):U4) Ap
def AZF[Lk](v:Uq):Option ((List U4×Int×Bool×Unit)):=AAa ((0,(0,())):U4) Ap v
theorem ASX v:AZF v=AXD v:=AD _
abbrev AI5:AB:=[(.obj 0,.own 63 U3),(.tmp 0,.own' 0),(.tmp 1,.di),(.tmp 2,.di),(.tmp 3,.di),(.tmp 4,.clo 115 []),(.tmp 10,.dat .bool),(.tmp 11,.dat .bool)]
abbrev AI4:AT:=[(.ret,[(.obj 0,.own 63 U3)])]
def AI3[Lk](self:Uq→Option (Uu)):(List U4×Int×Int×Int×Bool×Bool×Unit)→Option ((List U4×Int×Int×Int×Bool×Bool×Unit)⊕Uu⊕Unit):=Oa ((0,(0,())):U4) Ap self
def AaE[Lk](self:Uq→Option (Uu)):Uq→Option (Uu):=Wb ((0,(0,())):U4) Ap self
def Pa[Lk]:Nat→Uq→Option (Uu):=PZ ((0,(0,())):U4) Ap
def AW7[Lk](v:Uq):Option (Uu):=AW3 ((0,(0,())):U4) Ap v
theorem AW6 v:AW7 v=Pa 100 v:=AD _
abbrev AId:AB:=[(.tmp 0,.own 63 U3),(.tmp 1,.clo 115 [])]
def AWI[Lk]:Uu→Option (Uu):=OW ((0,(0,())):U4) Ap
def AQY[Lk](v:Uu):Option (Uu):=AQW ((0,(0,())):U4) Ap v
theorem AQX v:AQY v=AWI v:=AD _
def AIH[Lk]:Ua→Option (Uk):=fun(a0,_)=>
 some ((ieq a0 (IntKind.wrap .i64 (IntKind.wrap .u16 a0))),())
def Sa[Lk]:=fun v=>Lk.f (AIH v)
theorem APk v:Sa v=AIH v:=AD _
def Yh[Lk]:Ua→Option (Uk):=fun(a0,_)=>
 match(ile 1 a0)with
 |true=>some ((ile a0 4),())
 |false=>some (false,())
def AD8[Lk]:=fun v=>Lk.f (Yh v)
theorem AK6 v:AD8 v=Yh v:=AD _
abbrev Fe:AB:=[(.tmp 0,.dat V8),(.tmp 1,.clo 146 [])]
abbrev Ri:AB:=[(.tmp 0,.dat V8),(.tmp 1,.clo 146 []),(.tmp 7,.di),(.tmp 8,.di)]
def Rh[Lk]:Ug→Option (Ug⊕Ua⊕(Unit)⊕Unit):=fun(a0,a1,a2,_)=>
 match(ilt a2 a1)with
 |true=>match idx a0 a2 with|none=>none|some x0=>match Sa (x0.1,())with|none=>none|some (y1,_)=>match(!y1)with
  |true=>some (.inr (.inl (a2,())))
  |false=>match Sa (x0.2.1,())with|none=>none|some (y2,_)=>match(!y2)with
  |true=>some (.inr (.inl (a2,())))
  |false=>some (.inl (a0,a1,(IntKind.wrap .i64 (a2+1)),()))
 |false=>some (.inr (.inr (.inl ())))
def Lb[Lk]:Uu→Option (Ua):=fun(a0,_)=>
 match AQ Rh many (a0,(AJ a0),0,())with|none=>none|some r=>match r with
 |.inl (o0,_)=>some (o0,())
 |.inr r=>match r with
 |.inl _=>some ((-1:Int),())
 |.inr _=>none
def Kc[Lk]:=fun v=>Lk.f (Lb v)
theorem Rj v:Kc v=Lb v:=AD _
def J7[Lk]:Uu→Option (Uk):=fun(a0,_)=>
 match Kc (a0,())with|none=>none|some (y0,_)=>some ((ile 0 y0),())
def Gr[Lk]:=fun v=>Lk.f (J7 v)
theorem QJ v:Gr v=J7 v:=AD _
abbrev Fg:AB:=[(.tmp 0,.dat Vf),(.tmp 1,.clo 149 [])]
abbrev Rp:AB:=[(.tmp 0,.dat Vf),(.tmp 1,.clo 149 []),(.tmp 7,.di),(.tmp 8,.di)]
def Ro[Lk]:(List Ue×Int×Int×Unit)→Option ((List Ue×Int×Int×Unit)⊕Ua⊕(Unit)⊕Unit):=fun(a0,a1,a2,_)=>
 match(ilt a2 a1)with
 |true=>match idx a0 a2 with|none=>none|some x0=>match AD8 (x0.1,())with|none=>none|some (y1,_)=>match(!y1)with
  |true=>some (.inr (.inl (a2,())))
  |false=>match Sa (x0.2.1,())with|none=>none|some (y2,_)=>match(!y2)with
  |true=>some (.inr (.inl (a2,())))
  |false=>match Sa (x0.2.2.1,())with|none=>none|some (y3,_)=>match(!y3)with
  |true=>some (.inr (.inl (a2,())))
  |false=>some (.inl (a0,a1,(IntKind.wrap .i64 (a2+1)),()))
 |false=>some (.inr (.inr (.inl ())))
def Le[Lk]:(List Ue×Unit)→Option (Ua):=fun(a0,_)=>
 match AQ Ro many (a0,(AJ a0),0,())with|none=>none|some r=>match r with
 |.inl (o0,_)=>some (o0,())
 |.inr r=>match r with
 |.inl _=>some ((-1:Int),())
 |.inr _=>none
def Ke[Lk]:=fun v=>Lk.f (Le v)
theorem Rq v:Ke v=Le v:=AD _
def J8[Lk]:(List Ue×Unit)→Option (Uk):=fun(a0,_)=>
 match Ke (a0,())with|none=>none|some (y0,_)=>some ((ile 0 y0),())
def I4[Lk]:=fun v=>Lk.f (J8 v)
theorem QK v:I4 v=J8 v:=AD _
abbrev Kq:AB:=[(.tmp 0,.dat (.prod U0 (.prod V8 (.prod Vf .unit))))]
def Yf[Lk]:(Vh×Unit)→Option (Uk):=fun(a0,_)=>
 match(ieq a0.1 1)with
 |true=>match(ieq (AJ a0.2.2.1) 0)with
  |true=>match(ile (AJ a0.2.1) 60)with
   |true=>match Gr (a0.2.1,())with|none=>none|some (y0,_)=>some ((!y0),())
   |false=>some (false,())
  |false=>some (false,())
 |false=>match(ieq a0.1 2)with
 |true=>match(ieq (AJ a0.2.2.1) 0)with
  |true=>match(ile (AJ a0.2.1) 60)with
   |true=>match Gr (a0.2.1,())with|none=>none|some (y1,_)=>some ((!y1),())
   |false=>some (false,())
  |false=>some (false,())
 |false=>match(ieq a0.1 3)with
 |true=>match(ieq (AJ a0.2.1) 0)with
  |true=>match(ile (AJ a0.2.2.1) 60)with
   |true=>match I4 (a0.2.2.1,())with|none=>none|some (y2,_)=>some ((!y2),())
   |false=>some (false,())
  |false=>some (false,())
 |false=>some (false,())
def AD6[Lk]:=fun v=>Lk.f (Yf v)
theorem AKy v:AD6 v=Yf v:=AD _
abbrev ACC:AB:=[(.tmp 0,.dat (.prod U0 U3))]
def ACD[Lk]:(Ue×Unit)→Option (Uc):=fun(a0,_)=>
 match(ieq a0.1 1)with
 |true=>some (([a0.2.1,a0.2.2.1]:List (Int)),())
 |false=>match(ieq a0.1 2)with
 |true=>some (([a0.2.1]:List (Int)),())
 |false=>match(ieq a0.1 3)with
 |true=>some (([a0.2.1]:List (Int)),())
 |false=>some (([]:List (Int)),())
def AHS[Lk]:=fun v=>Lk.f (ACD v)
theorem AO6 v:AHS v=ACD v:=AD _
abbrev AUv:AB:=[(.tmp 3,.own 3 U0),(.tmp 24,.dat Vf),(.tmp 25,.di),(.tmp 26,.di)]
abbrev AUt:AT:=[(.exit 2,[(.tmp 3,.own 3 U0)])]
def AUr[Lk]:(List Int×List Ue×Int×Int×Unit)→Option ((List Int×List Ue×Int×Int×Unit)⊕Uc⊕Unit):=fun(a0,a1,a2,a3,_)=>
 match(ilt a3 a2)with
 |true=>match idx a1 a3 with|none=>none|some x0=>match AHS ((x0.1,(x0.2.1,(x0.2.2.1,()))),())with|none=>none|some (y1,_)=>match(fits ((AJ a0)+(AJ y1)))with
  |true=>some (.inl ((BE a0 y1),a1,a2,(IntKind.wrap .i64 (a3+1)),()))
  |false=>none
 |false=>some (.inr (.inl (a0,())))
abbrev AUw:AB:=[(.tmp 1,.box 3),(.cell 0 0,.di),(.cell 0 1,.dat V8),(.cell 0 2,.dat Vf),(.tmp 3,.own 3 U0),(.tmp 9,.dat V8),(.tmp 10,.di),(.tmp 11,.di)]
abbrev AUu:AT:=[(.exit 0,[(.tmp 1,.box 3),(.cell 0 0,.di),(.cell 0 1,.dat V8),(.cell 0 2,.dat Vf),(.tmp 3,.own 3 U0)])]
def AUs[Lk]:(Int×List U4×List Ue×List Int×List U4×Int×Int×Unit)→Option ((Int×List U4×List Ue×List Int×List U4×Int×Int×Unit)⊕(Int×List U4×List Ue×List Int×Unit)⊕Unit):=fun(a0,a1,a2,a3,a4,a5,a6,_)=>
 match(ilt a6 a5)with
 |true=>match idx a4 a6 with|none=>none|some x0=>match(fits ((AJ a3)+(AJ ([x0.1,x0.2.1]:List (Int)))))with
  |true=>some (.inl (a0,a1,a2,(BE a3 ([x0.1,x0.2.1]:List (Int))),a4,a5,(IntKind.wrap .i64 (a6+1)),()))
  |false=>none
 |false=>some (.inr (.inl (a0,a1,a2,a3,())))
def AJ8[Lk]:(Vh×Unit)→Option (Uc):=fun(a0,_)=>
 match AQ AUs many (a0.1,a0.2.1,a0.2.2.1,([]:List (Int)),a0.2.1,(AJ a0.2.1),0,())with|none=>none|some r=>match r with
 |.inl (o0,o1,o2,o3,_)=>match AQ AUr many (o3,o2,(AJ o2),0,())with|none=>none|some r=>match r with
  |.inl (o4,_)=>some (o4,())
  |.inr _=>none
 |.inr _=>none
def AUy[Lk]:=fun v=>Lk.f (AJ8 v)
theorem AUx v:AUy v=AJ8 v:=AD _
def AJq[Lk]:Ua→Option (Uk):=fun(a0,_)=>
 match(ile 0 a0)with
 |true=>some ((ilt a0 65536),())
 |false=>some (false,())
def AJr[Lk]:=fun v=>Lk.f (AJq v)
theorem AT4 v:AJr v=AJq v:=AD _
abbrev XF:AB:=[(.tmp 0,.dat U3)]
abbrev AT2:AB:=[(.tmp 0,.dat Uj),(.tmp 1,.dat .bool)]
def AT3[Lk]:(U4×Unit)→Option ((Int×Bool×Unit)):=fun(a0,_)=>
 match AJr (a0.1,())with|none=>none|some (y0,_)=>match(!y0)with
 |true=>some (0,false,())
 |false=>match AJr (a0.2.1,())with|none=>none|some (y1,_)=>match(!y1)with
 |true=>some (0,false,())
 |false=>match shl? .u32 (IntKind.wrap .u32 (EN a0.1 a0.2.1)) 16 with|none=>none|some x2=>some ((IntKind.wrap .u32 ((BitVec.ofInt (IntKind.bits .u32) x2 ||| BitVec.ofInt (IntKind.bits .u32) (IntKind.wrap .u32 (imax a0.1 a0.2.1))).toNat)),true,())
def Aaq[Lk]:=fun v=>Lk.f (AT3 v)
theorem AYV v:Aaq v=AT3 v:=AD _
abbrev Oo:AB:=[(.tmp 0,.dat Uj)]
def AJs[Lk]:Ua→Option ((U4×Unit)):=fun(a0,_)=>
 match shr? .u32 a0 16 with|none=>none|some x0=>some (((IntKind.wrap .i64 x0),((IntKind.wrap .i64 (IntKind.wrap .u16 a0)),())),())
def AT7[Lk]:=fun v=>Lk.f (AJs v)
theorem AT6 v:AT7 v=AJs v:=AD _
abbrev Jm:AB:=[(.tmp 0,.dat Va)]
abbrev Tn:AB:=[(.tmp 0,.own 4 .bool)]
abbrev AGl:AB:=[(.tmp 0,.dat Va),(.tmp 3,.own 4 .bool),(.tmp 9,.dat Va),(.tmp 10,.di),(.tmp 11,.di)]
abbrev AGk:AT:=[(.exit 0,[(.tmp 3,.own 4 .bool)])]
def AGj[Lk]:(List Int×List Bool×List Int×Int×Int×Unit)→Option ((List Int×List Bool×List Int×Int×Int×Unit)⊕(List Bool×Unit)⊕Unit):=fun(a0,a1,a2,a3,a4,_)=>
 match(ilt a4 a3)with
 |true=>match idx a2 a4 with|none=>none|some x0=>match(ieq a4 0)with
  |true=>match idx a1 a4 with|none=>none|some x1=>some (.inl (a0,(AX a1 (AE a4) true),a2,a3,(IntKind.wrap .i64 (a4+1)),()))
  |false=>match idx a0 (IntKind.wrap .i64 (a4-1))with|none=>none|some x2=>match idx a1 a4 with|none=>none|some x3=>some (.inl (a0,(AX a1 (AE a4) (!(ieq x2 x0))),a2,a3,(IntKind.wrap .i64 (a4+1)),()))
 |false=>some (.inr (.inl (a1,())))
def To[Lk]:Uc→Option ((List Bool×Unit)):=fun(a0,_)=>
 match(B8 (AJ a0)&&B8 (AJ a0)&&ile (AJ a0) (AJ a0)&&true)with
 |true=>match AQ AGj many (a0,(DV (AE (AJ a0)) false),a0,(AJ a0),(0:Int),())with|none=>none|some r=>match r with
  |.inl (o0,_)=>some (o0,())
  |.inr _=>none
 |false=>none
def XH[Lk]:=fun v=>Lk.f (To v)
theorem AGm v:XH v=To v:=AD _
def S0[Lk]:Ua→Option (Ua):=fun(a0,_)=>
 match(ilt a0 1)with
 |true=>some (0,())
 |false=>match(ilt 16 a0)with
 |true=>some (0,())
 |false=>match quo? .i64 (IntKind.wrap .i64 ((IntKind.wrap .i64 (32+a0))-1)) a0 with|none=>none|some x0=>some (x0,())
def OZ[Lk]:=fun v=>Lk.f (S0 v)
theorem AEp v:OZ v=S0 v:=AD _
def ZS[Lk]:U4→Option (Uk):=fun(a0,a1,_)=>
 match(ile 0 a0)with
 |true=>match OZ (a1,())with|none=>none|some (y0,_)=>some ((ilt a0 y0),())
 |false=>some (false,())
def AEj[Lk]:=fun v=>Lk.f (ZS v)
theorem AL5 v:AEj v=ZS v:=AD _
abbrev Za:AB:=[(.tmp 0,.dat Uj),(.tmp 1,.di),(.tmp 2,.di)]
def Zb[Lk]:Ue→Option (Ua):=fun(a0,a1,a2,_)=>
 match AEj (a1,a2,())with|none=>none|some (y0,_)=>match(!y0)with
 |true=>some (0,())
 |false=>match shr? .u32 a0 (IntKind.wrap .u64 (IntKind.wrap .i64 (a1*a2)))with|none=>none|some x1=>match shl? .u32 1 (IntKind.wrap .u64 a2)with|none=>none|some x2=>some ((IntKind.wrap .u32 ((BitVec.ofInt (IntKind.bits .u32) x1 &&& BitVec.ofInt (IntKind.bits .u32) (IntKind.wrap .u32 (x2-1))).toNat)),())
def WN[Lk]:=fun v=>Lk.f (Zb v)
theorem AME v:WN v=Zb v:=AD _
abbrev ARA:AB:=[(.tmp 0,.dat U7),(.tmp 1,.di),(.tmp 5,.map U0 U0),(.tmp 9,.dat U7),(.tmp 10,.di),(.tmp 11,.di)]
abbrev AQ9:AT:=[(.ret,[(.tmp 4,.dat .bool)]),(.exit 0,[(.tmp 0,.dat U7),(.tmp 1,.di)])]
def AQ8[Lk]:(List Int×Int×List Ux×List Int×Int×Int×Unit)→Option ((List Int×Int×List Ux×List Int×Int×Int×Unit)⊕Uk⊕Ut⊕Unit):=fun(a0,a1,a2,a3,a4,a5,_)=>
 match(ilt a5 a4)with
 |true=>match idx a3 a5 with|none=>none|some x0=>match(ilt x0 0)with
  |true=>some (.inr (.inl (false,())))
  |false=>match(ile a1 x0)with
  |true=>some (.inr (.inl (false,())))
  |false=>match(ilt 1 ((AO (Ao a2 x0 (IntKind.wrap .i64 (((AO a2 x0).getD 0)+1))) x0).getD 0))with
  |true=>some (.inr (.inl (false,())))
  |false=>some (.inl (a0,a1,(Ao a2 x0 (IntKind.wrap .i64 (((AO a2 x0).getD 0)+1))),a3,a4,(IntKind.wrap .i64 (a5+1)),()))
 |false=>some (.inr (.inr (.inl (a0,a1,()))))
def AIl[Lk]:Ut→Option (Uk):=fun(a0,a1,_)=>
 match AQ AQ8 many (a0,a1,([]:List Ux),a0,(AJ a0),0,())with|none=>none|some r=>match r with
 |.inl (o0,_)=>some (o0,())
 |.inr r=>match r with
 |.inl (o1,o2,_)=>some ((ieq (AJ o1) o2),())
 |.inr _=>none
def ARC[Lk]:=fun v=>Lk.f (AIl v)
theorem ARB v:ARC v=AIl v:=AD _
abbrev AY7:AB:=[(.tmp 0,.dat Va),(.tmp 1,.dat U7),(.tmp 2,.di),(.tmp 3,.di)]
abbrev AZ0:AB:=[(.tmp 0,.dat Va),(.tmp 2,.di),(.tmp 3,.di),(.tmp 9,.own 3 U0),(.tmp 13,.own 3 U0),(.tmp 63,.dat U7),(.tmp 64,.di),(.tmp 65,.di)]
abbrev AZx:AT:=[(.exit 4,[(.tmp 13,.own 3 U0)])]
def AZu[Lk]:(List Int×Int×Int×List Int×List Int×List Int×Int×Int×Unit)→Option ((List Int×Int×Int×List Int×List Int×List Int×Int×Int×Unit)⊕Uc⊕Unit):=fun(a0,a1,a2,a3,a4,a5,a6,a7,_)=>
 match(ilt a7 a6)with
 |true=>match idx a5 a7 with|none=>none|some x0=>match idx a0 x0 with|none=>none|some x1=>match WN (x1,a1,a2,())with|none=>none|some (y2,_)=>match idx a3 y2 with|none=>none|some x3=>match idx a4 (AI a3 (AE y2) 0)with|none=>none|some x4=>match idx a3 y2 with|none=>none|some x5=>match idx a3 y2 with|none=>none|some x6=>some (.inl (a0,a1,a2,(AX a3 (AE y2) (IntKind.wrap .i64 ((AI a3 (AE y2) 0)+1))),(AX a4 (AE (AI a3 (AE y2) 0)) x0),a5,a6,(IntKind.wrap .i64 (a7+1)),()))
 |false=>some (.inr (.inl (a4,())))
abbrev AZ1:AB:=[(.tmp 0,.dat Va),(.tmp 1,.dat U7),(.tmp 2,.di),(.tmp 3,.di),(.tmp 9,.own 3 U0),(.tmp 44,.di),(.tmp 45,.di)]
abbrev AZy:AT:=[(.exit 2,[(.tmp 0,.dat Va),(.tmp 1,.dat U7),(.tmp 2,.di),(.tmp 3,.di),(.tmp 9,.own 3 U0)])]
def AZv[Lk]:(List Int×List Int×Int×Int×List Int×Int×Int×Unit)→Option ((List Int×List Int×Int×Int×List Int×Int×Int×Unit)⊕(List Int×List Int×Int×Int×List Int×Unit)⊕Unit):=fun(a0,a1,a2,a3,a4,a5,a6,_)=>
 match(ilt a6 a5)with
 |true=>match idx a4 (IntKind.wrap .i64 (a6+1))with|none=>none|some x0=>match idx a4 a6 with|none=>none|some x1=>match idx a4 (IntKind.wrap .i64 (a6+1))with|none=>none|some x2=>some (.inl (a0,a1,a2,a3,(AX a4 (AE (IntKind.wrap .i64 (a6+1))) (IntKind.wrap .i64 ((AI a4 (AE (IntKind.wrap .i64 (a6+1))) 0)+(AI a4 (AE a6) 0)))),a5,(IntKind.wrap .i64 (a6+1)),()))
 |false=>some (.inr (.inl (a0,a1,a2,a3,a4,())))
abbrev AZ2:AB:=[(.tmp 0,.dat Va),(.tmp 1,.dat U7),(.tmp 2,.di),(.tmp 3,.di),(.tmp 9,.own 3 U0),(.tmp 22,.dat U7),(.tmp 23,.di),(.tmp 24,.di)]
abbrev AZz:AT:=[(.exit 0,[(.tmp 0,.dat Va),(.tmp 1,.dat U7),(.tmp 2,.di),(.tmp 3,.di),(.tmp 9,.own 3 U0)])]
def AZw[Lk]:V7→Option (V7⊕(List Int×List Int×Int×Int×List Int×Unit)⊕Unit):=fun(a0,a1,a2,a3,a4,a5,a6,a7,_)=>
 match(ilt a7 a6)with
 |true=>match idx a5 a7 with|none=>none|some x0=>match idx a0 x0 with|none=>none|some x1=>match WN (x1,a2,a3,())with|none=>none|some (y2,_)=>match idx a4 (IntKind.wrap .u32 (y2+1))with|none=>none|some x3=>match idx a4 (IntKind.wrap .u32 (y2+1))with|none=>none|some x4=>some (.inl (a0,a1,a2,a3,(AX a4 (AE (IntKind.wrap .u32 (y2+1))) (IntKind.wrap .i64 ((AI a4 (AE (IntKind.wrap .u32 (y2+1))) 0)+1))),a5,a6,(IntKind.wrap .i64 (a7+1)),()))
 |false=>some (.inr (.inl (a0,a1,a2,a3,a4,())))
def AY8[Lk]:(List Int×List Int×Int×Int×Unit)→Option (Uc):=fun(a0,a1,a2,a3,_)=>
 match shl? .i64 1 (IntKind.wrap .u64 a3)with|none=>none|some x0=>match(B8 (IntKind.wrap .i64 (x0+1))&&B8 (IntKind.wrap .i64 (x0+1))&&ile (IntKind.wrap .i64 (x0+1)) (IntKind.wrap .i64 (x0+1))&&true)with
 |true=>match AQ AZw many (a0,a1,a2,a3,(DV (AE (IntKind.wrap .i64 (x0+(1:Int)))) (0:Int)),a1,(AJ a1),(0:Int),())with|none=>none|some r=>match r with
  |.inl (o1,o2,o3,o4,o5,_)=>match AQ AZv many (o1,o2,o3,o4,o5,(IntKind.wrap .i64 ((AJ o5)-1)),0,())with|none=>none|some r=>match r with
   |.inl (o6,o7,o8,o9,o10,_)=>match(B8 (AJ o7)&&B8 (AJ o7)&&ile (AJ o7) (AJ o7)&&true)with
    |true=>match AQ AZu many (o6,o8,o9,o10,(DV (AE (AJ o7)) (0:Int)),o7,(AJ o7),(0:Int),())with|none=>none|some r=>match r with
     |.inl (o11,_)=>some (o11,())
     |.inr _=>none
    |false=>none
   |.inr _=>none
  |.inr _=>none
 |false=>none
def rby[Lk]:=fun v=>Lk.f (AY8 v)
theorem AZ3 v:rby v=AY8 v:=AD _
def M3[Lk]:U4→Option (Uk):=fun(a0,a1,_)=>
 match(ile 1 a0)with
 |true=>match(ile a0 1000)with
  |true=>match(ile 1 a1)with
   |true=>some ((ile a1 100),())
   |false=>some (false,())
  |false=>some (false,())
 |false=>some (false,())
def JU[Lk]:=fun v=>Lk.f (M3 v)
theorem Vs v:JU v=M3 v:=AD _
abbrev Sh:AB:=[(.tmp 0,.dat (.prod V5 (.prod U0 (.prod Uy .unit))))]
abbrev AEI:AB:=[(.tmp 1,.box 3),(.cell 0 0,.dat V5),(.cell 0 1,.di),(.cell 0 2,.dat Uy),(.tmp 25,.dat V5),(.tmp 26,.di),(.tmp 27,.di)]
abbrev PB:AT:=[(.ret,[(.tmp 2,.dat .bool)]),(.exit 0,[])]
def AEH[Lk]:(List U5×Int×List Bool×List U5×Int×Int×Unit)→Option ((List U5×Int×List Bool×List U5×Int×Int×Unit)⊕Uk⊕(Unit)⊕Unit):=fun(a0,a1,a2,a3,a4,a5,_)=>
 match(ilt a5 a4)with
 |true=>match idx a3 a5 with|none=>none|some x0=>match(ilt x0.1 0)with
  |true=>some (.inr (.inl (false,())))
  |false=>match(ile x0.2.1 x0.1)with
  |true=>some (.inr (.inl (false,())))
  |false=>match(ilt (AJ a2) x0.2.1)with
  |true=>some (.inr (.inl (false,())))
  |false=>match(ilt x0.2.2.1 (-1:Int))with
  |true=>some (.inr (.inl (false,())))
  |false=>match(ile a5 x0.2.2.1)with
  |true=>some (.inr (.inl (false,())))
  |false=>match(ilt x0.2.2.2.1 0)with
  |true=>some (.inr (.inl (false,())))
  |false=>match(ilt 2 x0.2.2.2.1)with
  |true=>some (.inr (.inl (false,())))
  |false=>some (.inl (a0,a1,a2,a3,a4,(IntKind.wrap .i64 (a5+1)),()))
 |false=>some (.inr (.inr (.inl ())))
def Si[Lk]:(((List U5)×Int×(List Bool)×Unit)×Unit)→Option (Uk):=fun(a0,_)=>
 match JU ((AJ a0.2.2.1),a0.2.1,())with|none=>none|some (y0,_)=>match(!y0)with
 |true=>some (false,())
 |false=>match(ieq (AJ a0.1) 0)with
 |true=>some (false,())
 |false=>match(ilt 2000 (AJ a0.1))with
 |true=>some (false,())
 |false=>match AQ AEH many (a0.1,a0.2.1,a0.2.2.1,a0.1,(AJ a0.1),0,())with|none=>none|some r=>match r with
 |.inl (o1,_)=>some (o1,())
 |.inr r=>match r with
 |.inl _=>some (true,())
 |.inr _=>none
def OT[Lk]:=fun v=>Lk.f (Si v)
theorem AEJ v:OT v=Si v:=AD _
abbrev Cr:AB:=[(.tmp 0,.dat (.prod V5 (.prod U0 (.prod Uy .unit)))),(.tmp 1,.di)]
def Sg[Lk]:(((List U5)×Int×(List Bool)×Unit)×Int×Unit)→Option (Ua):=fun(a0,a1,_)=>
 match OT ((a0.1,(a0.2.1,(a0.2.2.1,()))),())with|none=>none|some (y0,_)=>match(!y0)with
 |true=>some (1,())
 |false=>match(ilt a1 0)with
 |true=>some (6,())
 |false=>match(ile (AJ a0.1) a1)with
 |true=>some (6,())
 |false=>some (0,())
def Kx[Lk]:=fun v=>Lk.f (Sg v)
theorem AEG v:Kx v=Sg v:=AD _
abbrev Se:AB:=[(.tmp 0,.dat Ub)]
def Sf[Lk]:(U5×Unit)→Option (Ua):=fun(a0,_)=>
 some ((IntKind.wrap .i64 (a0.2.1-a0.1)),())
def JT[Lk]:=fun v=>Lk.f (Sf v)
theorem AEF v:JT v=Sf v:=AD _
def Sj[Lk]:(((List U5)×Int×(List Bool)×Unit)×Int×Unit)→Option (Uk):=fun(a0,a1,_)=>
 match Kx ((a0.1,(a0.2.1,(a0.2.2.1,()))),a1,())with|none=>none|some (y0,_)=>match(ieq y0 0)with
 |true=>match idx a0.1 a1 with|none=>none|some x1=>match JT ((x1.1,(x1.2.1,(x1.2.2.1,(x1.2.2.2.1,())))),())with|none=>none|some (y2,_)=>some ((ilt a0.2.1 y2),())
 |false=>some (false,())
def OU[Lk]:=fun v=>Lk.f (Sj v)
theorem AEL v:OU v=Sj v:=AD _
abbrev Sl:AB:=[(.tmp 0,.own 218 Ub),(.tmp 1,.di),(.tmp 2,.own 4 .bool),(.tmp 3,.di)]
abbrev Sk:List RS:=[.agg 3,.one]
def Sm[Lk]:U4→Option ((List U5×Int×List Bool×Int×Unit)):=fun(a0,a1,_)=>
 match JU (a0,a1,())with|none=>none|some (y0,_)=>match(!y0)with
 |true=>some (([]:List U5),0,([]:List (Bool)),1,())
 |false=>match(B8 a0&&B8 a0&&ile a0 a0&&true)with
 |true=>some (([((0:Int),(a0,((-1:Int),((0:Int),()))))]:List U5),a1,(DV (AE a0) false),(0:Int),())
 |false=>none
def Vt[Lk]:=fun v=>Lk.f (Sm v)
theorem AEN v:Vt v=Sm v:=AD _
abbrev Yv:AB:=[(.tmp 0,.dat V5),(.tmp 1,.di),(.tmp 2,.dat Uy),(.tmp 3,.di),(.tmp 4,.di),(.tmp 5,.di)]
abbrev Yu:List RS:=[.agg 3,.one,.one,.one]
def Yw[Lk]:(((List U5)×Int×(List Bool)×Unit)×Int×Unit)→Option ((List U5×Int×List Bool×Int×Int×Int×Unit)):=fun(a0,a1,_)=>
 match Kx ((a0.1,(a0.2.1,(a0.2.2.1,()))),a1,())with|none=>none|some (y0,_)=>match(!(ieq y0 0))with
 |true=>some (a0.1,a0.2.1,a0.2.2.1,0,0,y0,())
 |false=>match idx a0.1 a1 with|none=>none|some x1=>match JT ((x1.1,(x1.2.1,(x1.2.2.1,(x1.2.2.2.1,())))),())with|none=>none|some (y2,_)=>match(ile y2 a0.2.1)with
 |true=>some (a0.1,a0.2.1,a0.2.2.1,0,0,5,())
 |false=>match(ilt 0 x1.2.2.2.1)with
 |true=>some (a0.1,a0.2.1,a0.2.2.1,0,0,5,())
 |false=>match(ilt 2000 (IntKind.wrap .i64 ((AJ a0.1)+2)))with
 |true=>some (a0.1,a0.2.1,a0.2.2.1,0,0,2,())
 |false=>match JT ((x1.1,(x1.2.1,(x1.2.2.1,(x1.2.2.2.1,())))),())with|none=>none|some (y3,_)=>match quo? .i64 y3 2 with|none=>none|some x4=>match I6 a0.1 with|none=>none|some x5=>match(fits ((AJ x5)+(AJ ([(x1.1,((IntKind.wrap .i64 (x1.1+x4)),(a1,(0,())))),((IntKind.wrap .i64 (x1.1+x4)),(x1.2.1,(a1,(0,()))))]:List U5))))with
 |true=>match idx (BE x5 ([(x1.1,((IntKind.wrap .i64 (x1.1+x4)),(a1,(0,())))),((IntKind.wrap .i64 (x1.1+x4)),(x1.2.1,(a1,(0,()))))]:List U5)) a1 with|none=>none|some x6=>some ((AX (BE x5 ([(x1.1,((IntKind.wrap .i64 (x1.1+x4)),(a1,(0,())))),((IntKind.wrap .i64 (x1.1+x4)),(x1.2.1,(a1,(0,()))))]:List U5)) (AE a1) ((AI (BE x5 ([(x1.1,((IntKind.wrap .i64 (x1.1+x4)),(a1,(0,())))),((IntKind.wrap .i64 (x1.1+x4)),(x1.2.1,(a1,(0,()))))]:List U5)) (AE a1) (0,(0,(0,(0,()))))).1,((AI (BE x5 ([(x1.1,((IntKind.wrap .i64 (x1.1+x4)),(a1,(0,())))),((IntKind.wrap .i64 (x1.1+x4)),(x1.2.1,(a1,(0,()))))]:List U5)) (AE a1) (0,(0,(0,(0,()))))).2.1,((AI (BE x5 ([(x1.1,((IntKind.wrap .i64 (x1.1+x4)),(a1,(0,())))),((IntKind.wrap .i64 (x1.1+x4)),(x1.2.1,(a1,(0,()))))]:List U5)) (AE a1) (0,(0,(0,(0,()))))).2.2.1,(2,()))))),a0.2.1,a0.2.2.1,(AJ a0.1),(IntKind.wrap .i64 ((AJ a0.1)+1)),0,())
 |false=>none
def AEK[Lk]:=fun v=>Lk.f (Yw v)
theorem ALb v:AEK v=Yw v:=AD _
abbrev PD:AB:=[(.tmp 0,.own 218 Ub),(.tmp 1,.di)]
abbrev PC:AB:=[(.obj 0,.own 218 Ub),(.tmp 0,.dat .bool)]
abbrev Yz:AB:=[(.obj 0,.own 218 Ub),(.tmp 0,.own' 0),(.tmp 1,.di)]
abbrev Yy:AT:=[(.ret,[(.obj 0,.own 218 Ub),(.tmp 4,.dat .bool)]),(.exit 0,[(.obj 0,.own 218 Ub)])]
def Yx[Lk]:(List U5×Int×Unit)→Option ((List U5×Int×Unit)⊕(List U5×Bool×Unit)⊕(List U5×Unit)⊕Unit):=fun(a0,a1,_)=>
 match(!(ieq a1 (-1:Int)))with
 |true=>match idx a0 a1 with|none=>none|some x0=>match(ieq (AI a0 (AE a1) (0,(0,(0,(0,()))))).2.2.2.1 0)with
  |true=>some (.inr (.inl (a0,false,())))
  |false=>match(ilt 0 (AI (AX a0 (AE a1) ((AI a0 (AE a1) (0,(0,(0,(0,()))))).1,((AI a0 (AE a1) (0,(0,(0,(0,()))))).2.1,((AI a0 (AE a1) (0,(0,(0,(0,()))))).2.2.1,((IntKind.wrap .i64 ((AI a0 (AE a1) (0,(0,(0,(0,()))))).2.2.2.1-1)),()))))) (AE a1) (0,(0,(0,(0,()))))).2.2.2.1)with
  |true=>some (.inr (.inl ((AX a0 (AE a1) ((AI a0 (AE a1) (0,(0,(0,(0,()))))).1,((AI a0 (AE a1) (0,(0,(0,(0,()))))).2.1,((AI a0 (AE a1) (0,(0,(0,(0,()))))).2.2.1,((IntKind.wrap .i64 ((AI a0 (AE a1) (0,(0,(0,(0,()))))).2.2.2.1-1)),()))))),false,())))
  |false=>some (.inl ((AX a0 (AE a1) ((AI a0 (AE a1) (0,(0,(0,(0,()))))).1,((AI a0 (AE a1) (0,(0,(0,(0,()))))).2.1,((AI a0 (AE a1) (0,(0,(0,(0,()))))).2.2.1,((IntKind.wrap .i64 ((AI a0 (AE a1) (0,(0,(0,(0,()))))).2.2.2.1-1)),()))))),(AI (AX a0 (AE a1) ((AI a0 (AE a1) (0,(0,(0,(0,()))))).1,((AI a0 (AE a1) (0,(0,(0,(0,()))))).2.1,((AI a0 (AE a1) (0,(0,(0,(0,()))))).2.2.1,((IntKind.wrap .i64 ((AI a0 (AE a1) (0,(0,(0,(0,()))))).2.2.2.1-1)),()))))) (AE a1) (0,(0,(0,(0,()))))).2.2.1,()))
 |false=>some (.inr (.inr (.inl (a0,()))))
def PE[Lk]:(List U5×Int×Unit)→Option ((List U5×Bool×Unit)):=fun(a0,a1,_)=>
 match AQ Yx many (a0,a1,())with|none=>none|some r=>match r with
 |.inl (o0,o1,_)=>some (o0,o1,())
 |.inr r=>match r with
 |.inl (o2,_)=>some (o2,true,())
 |.inr _=>none
def PF[Lk]:=fun v=>Lk.f (PE v)
theorem Y0 v:PF v=PE v:=AD _
abbrev AQA:AB:=[(.tmp 0,.dat V5),(.tmp 1,.di),(.tmp 2,.dat Uy),(.tmp 3,.dat .bool),(.tmp 4,.di)]
abbrev Vr:List RS:=[.agg 3,.one,.one]
abbrev AV5:AB:=[(.tmp 2,.box 3),(.cell 0 0,.own 218 Ub),(.cell 0 1,.di),(.cell 0 2,.own 4 .bool),(.tmp 4,.box 3),(.cell 3 0,.nil Ub),(.cell 3 1,.di),(.cell 3 2,.nil .bool),(.tmp 8,.box 4),(.cell 4 0,.di),(.cell 4 1,.di),(.cell 4 2,.di),(.cell 4 3,.di),(.tmp 9,.di)]
abbrev AV4:AT:=[(.exit 0,[(.tmp 2,.box 3),(.cell 0 0,.own 218 Ub),(.cell 0 1,.di),(.cell 0 2,.own 4 .bool),(.tmp 4,.box 3),(.cell 3 0,.nil Ub),(.cell 3 1,.di),(.cell 3 2,.nil .bool),(.tmp 8,.box 4),(.cell 4 0,.di),(.cell 4 1,.di),(.cell 4 2,.di),(.cell 4 3,.di)])]
def AV3[Lk]:(List U5×Int×List Bool×Int×Int×Int×Int×Int×Int×Unit)→Option ((List U5×Int×List Bool×Int×Int×Int×Int×Int×Int×Unit)⊕(List U5×Int×List Bool×Int×Int×Int×Int×Int×Unit)⊕Unit):=fun(a0,a1,a2,a3,a4,a5,a6,a7,a8,_)=>
 match(ilt a8 a5)with
 |true=>match idx a2 a8 with|none=>none|some x0=>some (.inl (a0,a1,(AX a2 (AE a8) true),a3,a4,a5,a6,a7,(IntKind.wrap .i64 (a8+1)),()))
 |false=>some (.inr (.inl (a0,a1,a2,a3,a4,a5,a6,a7,())))
def AQB[Lk]:(((List U5)×Int×(List Bool)×Unit)×Int×Unit)→Option ((List U5×Int×List Bool×Bool×Int×Unit)):=fun(a0,a1,_)=>
 match Kx ((a0.1,(a0.2.1,(a0.2.2.1,()))),a1,())with|none=>none|some (y0,_)=>match(!(ieq y0 0))with
 |true=>some (a0.1,a0.2.1,a0.2.2.1,false,y0,())
 |false=>match idx a0.1 a1 with|none=>none|some x1=>match JT ((x1.1,(x1.2.1,(x1.2.2.1,(x1.2.2.2.1,())))),())with|none=>none|some (y2,_)=>match(ilt a0.2.1 y2)with
 |true=>some (a0.1,a0.2.1,a0.2.2.1,false,5,())
 |false=>match(ilt 0 x1.2.2.2.1)with
 |true=>some (a0.1,a0.2.1,a0.2.2.1,false,5,())
 |false=>match idx a0.2.2.1 x1.1 with|none=>none|some x3=>match x3 with
 |true=>some (a0.1,a0.2.1,a0.2.2.1,false,5,())
 |false=>match I6 a0.1 with|none=>none|some x4=>match I6 a0.2.2.1 with|none=>none|some x5=>match AQ AV3 many (x4,a0.2.1,x5,0,x1.1,x1.2.1,x1.2.2.1,x1.2.2.2.1,x1.1,())with|none=>none|some r=>match r with
 |.inl (o6,o7,o8,o9,o10,o11,o12,o13,_)=>match PF (o6,o12,())with|none=>none|some (y14,y15,_)=>some (y14,o7,o8,y15,0,())
 |.inr _=>none
def AZc[Lk]:=fun v=>Lk.f (AQB v)
theorem AV6 v:AZc v=AQB v:=AD _
def QQ[Lk]:Ua→Option (Uk):=fun(a0,_)=>
 match(ile 0 a0)with
 |true=>some ((ile a0 100000),())
 |false=>some (false,())
def Lz[Lk]:=fun v=>Lk.f (QQ v)
theorem ABy v:Lz v=QQ v:=AD _
def ABs[Lk]:(((List U5)×Int×(List Bool)×Unit)×Int×Unit)→Option (Uk):=fun(a0,a1,_)=>
 match(ile 0 a1)with
 |true=>match(ilt a1 (AJ a0.1))with
  |true=>match idx a0.1 a1 with|none=>none|some x0=>match(ieq x0.2.2.2.1 0)with
   |true=>match OU ((a0.1,(a0.2.1,(a0.2.2.1,()))),a1,())with|none=>none|some (y1,_)=>match y1 with
    |true=>some (true,())
    |false=>match idx a0.1 a1 with|none=>none|some x2=>match idx a0.2.2.1 x2.1 with|none=>none|some x3=>some ((!x3),())
   |false=>some (false,())
  |false=>some (false,())
 |false=>some (false,())
def AHI[Lk]:=fun v=>Lk.f (ABs v)
theorem AOg v:AHI v=ABs v:=AD _
abbrev Lv:AB:=[(.tmp 0,.dat Vc)]
abbrev AOJ:AB:=[(.tmp 1,.box 7),(.cell 0 0,.dat V5),(.cell 0 1,.di),(.cell 0 2,.dat Uy),(.cell 0 3,.dat Uf),(.cell 0 4,.dat .bool),(.cell 0 5,.di),(.cell 0 6,.di),(.tmp 3,.map U0 U0),(.tmp 38,.dat Uf),(.tmp 39,.di),(.tmp 40,.di),(.tmp 44,.dat U7),(.tmp 45,.di),(.tmp 46,.di)]
abbrev AOI:AT:=[(.ret,[(.tmp 2,.dat .bool)]),(.exit 2,[(.tmp 1,.box 7),(.cell 0 0,.dat V5),(.cell 0 1,.di),(.cell 0 2,.dat Uy),(.cell 0 3,.dat Uf),(.cell 0 4,.dat .bool),(.cell 0 5,.di),(.cell 0 6,.di),(.tmp 3,.map U0 U0),(.tmp 38,.dat Uf),(.tmp 39,.di),(.tmp 40,.di)])]
def AOG[Lk]:(List U5×Int×List Bool×List U6×Bool×Int×Int×List Ux×List U6×Int×Int×List Int×Int×Int×Unit)→Option ((List U5×Int×List Bool×List U6×Bool×Int×Int×List Ux×List U6×Int×Int×List Int×Int×Int×Unit)⊕Uk⊕Vd⊕Unit):=fun(a0,a1,a2,a3,a4,a5,a6,a7,a8,a9,a10,a11,a12,a13,_)=>
 match(ilt a13 a12)with
 |true=>match idx a11 a13 with|none=>none|some x0=>match(ilt 1 ((AO (Ao a7 x0 (IntKind.wrap .i64 (((AO a7 x0).getD 0)+1))) x0).getD 0))with
  |true=>some (.inr (.inl (false,())))
  |false=>match AHI ((a0,(a1,(a2,()))),x0,())with|none=>none|some (y1,_)=>match(!y1)with
  |true=>some (.inr (.inl (false,())))
  |false=>some (.inl (a0,a1,a2,a3,a4,a5,a6,(Ao a7 x0 (IntKind.wrap .i64 (((AO a7 x0).getD 0)+1))),a8,a9,a10,a11,a12,(IntKind.wrap .i64 (a13+1)),()))
 |false=>some (.inr (.inr (.inl (a0,a1,a2,a3,a4,a5,a6,a7,a8,a9,a10,()))))
abbrev AOK:AB:=[(.tmp 1,.box 7),(.cell 0 0,.dat V5),(.cell 0 1,.di),(.cell 0 2,.dat Uy),(.cell 0 3,.dat Uf),(.cell 0 4,.dat .bool),(.cell 0 5,.di),(.cell 0 6,.di),(.tmp 3,.map U0 U0),(.tmp 38,.dat Uf),(.tmp 39,.di),(.tmp 40,.di)]
def AOH[Lk]:Vd→Option (Vd⊕Uk⊕(Unit)⊕Unit):=fun(a0,a1,a2,a3,a4,a5,a6,a7,a8,a9,a10,_)=>
 match(ilt a10 a9)with
 |true=>match idx a8 a10 with|none=>none|some x0=>match AQ AOG many (a0,a1,a2,a3,a4,a5,a6,a7,a8,a9,a10,x0,(AJ x0),0,())with|none=>none|some r=>match r with
  |.inl (o1,_)=>some (.inr (.inl (o1,())))
  |.inr r=>match r with
  |.inl (o2,o3,o4,o5,o6,o7,o8,o9,o10,o11,o12,_)=>some (.inl (o2,o3,o4,o5,o6,o7,o8,o9,o10,o11,(IntKind.wrap .i64 (o12+1)),()))
  |.inr _=>none
 |false=>some (.inr (.inr (.inl ())))
def ABZ[Lk]:((((List U5)×Int×(List Bool)×Unit)×(List U6)×Bool×Int×Int×Unit)×Unit)→Option (Uk):=fun(a0,_)=>
 match OT ((a0.1.1,(a0.1.2.1,(a0.1.2.2.1,()))),())with|none=>none|some (y0,_)=>match(!y0)with
 |true=>some (false,())
 |false=>match(ieq (AJ a0.2.1) 0)with
 |true=>some (false,())
 |false=>match(ilt 8 (AJ a0.2.1))with
 |true=>some (false,())
 |false=>match Lz (a0.2.2.2.1,())with|none=>none|some (y1,_)=>match(!y1)with
 |true=>some (false,())
 |false=>match Lz (a0.2.2.2.2.1,())with|none=>none|some (y2,_)=>match(!y2)with
 |true=>some (false,())
 |false=>match AQ AOH many (a0.1.1,a0.1.2.1,a0.1.2.2.1,a0.2.1,a0.2.2.1,a0.2.2.2.1,a0.2.2.2.2.1,([]:List Ux),a0.2.1,(AJ a0.2.1),0,())with|none=>none|some r=>match r with
 |.inl (o3,_)=>some (o3,())
 |.inr r=>match r with
 |.inl _=>some (true,())
 |.inr _=>none
def AGs[Lk]:=fun v=>Lk.f (ABZ v)
theorem AOL v:AGs v=ABZ v:=AD _
abbrev AB0:AB:=[(.tmp 0,.own 218 Ub),(.tmp 1,.di),(.tmp 2,.own 4 .bool),(.tmp 3,.own 68 U7),(.tmp 4,.dat .bool),(.tmp 5,.di),(.tmp 6,.di),(.tmp 7,.di)]
abbrev ABz:List RS:=[.agg 7,.one]
def AB1[Lk]:Ue→Option ((List U5×Int×List Bool×List U6×Bool×Int×Int×Int×Unit)):=fun(a0,a1,a2,_)=>
 match(ilt a2 1)with
 |true=>some (([]:List U5),0,([]:List (Bool)),([]:List U6),false,0,0,1,())
 |false=>match(ilt 8 a2)with
 |true=>some (([]:List U5),0,([]:List (Bool)),([]:List U6),false,0,0,1,())
 |false=>match Vt (a0,a1,())with|none=>none|some (y0,y1,y2,y3,_)=>match(!(ieq y3 0))with
 |true=>some (([]:List U5),0,([]:List (Bool)),([]:List U6),false,0,0,y3,())
 |false=>match(B8 a2&&B8 a2&&ile a2 a2&&true)with
 |true=>match idx (DV (AE a2) ()) (0:Int)with|none=>none|some x4=>match(fits (AJ ([0]:List (Int))))with
  |true=>match idx (DV (AE a2) ()) (0:Int)with|none=>none|some x5=>some (y0,y1,y2,(AX (DV (List.length (DV (AE a2) ())) []) 0 ([(0:Int)]:List (Int))),false,(0:Int),(0:Int),(0:Int),())
  |false=>none
 |false=>none
def AHL[Lk]:=fun v=>Lk.f (AB1 v)
theorem AOj v:AHL v=AB1 v:=AD _
abbrev AUN:AB:=[(.tmp 2,.di),(.tmp 6,.dat Uf),(.tmp 7,.di),(.tmp 8,.di)]
abbrev ABt:AT:=[(.exit 0,[(.tmp 2,.di)])]
def AUM[Lk]:(Int×List U6×Int×Int×Unit)→Option ((Int×List U6×Int×Int×Unit)⊕Ua⊕Unit):=fun(a0,a1,a2,a3,_)=>
 match(ilt a3 a2)with
 |true=>match idx a1 a3 with|none=>none|some x0=>some (.inl ((IntKind.wrap .i64 (a0+(AJ x0))),a1,a2,(IntKind.wrap .i64 (a3+1)),()))
 |false=>some (.inr (.inl (a0,())))
def AJz[Lk]:((((List U5)×Int×(List Bool)×Unit)×(List U6)×Bool×Int×Int×Unit)×Unit)→Option (Ua):=fun(a0,_)=>
 match AQ AUM many (0,a0.2.1,(AJ a0.2.1),0,())with|none=>none|some r=>match r with
 |.inl (o0,_)=>some (o0,())
 |.inr _=>none
def AUP[Lk]:=fun v=>Lk.f (AJz v)
theorem AUO v:AUP v=AJz v:=AD _
abbrev Jp:AB:=[(.tmp 0,.box 11),(.cell 0 0,.dat V5),(.cell 0 1,.di),(.cell 0 2,.dat Uy),(.cell 0 3,.own 68 U7),(.cell 0 4,.dat .bool),(.cell 0 5,.di),(.cell 0 6,.di),(.cell 0 7,.di),(.cell 0 8,.di),(.cell 0 9,.di),(.cell 0 10,.dat .bool),(.tmp 1,.di)]
abbrev Jo:AB:=[(.obj 0,.box 11),(.cell 0 0,.dat V5),(.cell 0 1,.di),(.cell 0 2,.dat Uy),(.cell 0 3,.own 68 U7),(.cell 0 4,.dat .bool),(.cell 0 5,.di),(.cell 0 6,.di),(.cell 0 7,.di),(.cell 0 8,.di),(.cell 0 9,.di),(.cell 0 10,.dat .bool),(.obj 1,.own' 1),(.tmp 0,.di)]
def Tt[Lk]:V1→Option (V1):=fun(a0,a1,a2,a3,a4,a5,a6,a7,a8,a9,a10,a11,_)=>
 match rem? a11 (AJ a3)with|none=>none|some x0=>match rem? (IntKind.wrap .i64 (x0+(AJ a3))) (AJ a3)with|none=>none|some x1=>some (a0,a1,a2,a3,a4,a5,a6,a7,a8,a9,a10,x1,())
def Ot[Lk]:=fun v=>Lk.f (Tt v)
theorem AHA v:Ot v=Tt v:=AD _
abbrev ABw:AB:=[(.tmp 0,.box 11),(.cell 0 0,.dat V5),(.cell 0 1,.di),(.cell 0 2,.dat Uy),(.cell 0 3,.own 68 U7),(.cell 0 4,.dat .bool),(.cell 0 5,.di),(.cell 0 6,.di),(.cell 0 7,.di),(.cell 0 8,.di),(.cell 0 9,.di),(.cell 0 10,.dat .bool),(.tmp 1,.di),(.tmp 2,.di)]
abbrev ABv:AB:=[(.obj 0,.box 11),(.cell 0 0,.dat V5),(.cell 0 1,.di),(.cell 0 2,.dat Uy),(.cell 0 3,.own 68 U7),(.cell 0 4,.dat .bool),(.cell 0 5,.di),(.cell 0 6,.di),(.cell 0 7,.di),(.cell 0 8,.di),(.cell 0 9,.di),(.cell 0 10,.dat .bool),(.obj 1,.own' 1),(.tmp 0,.dat .bool)]
def ABx[Lk]:(List U5×Int×List Bool×List U6×Bool×Int×Int×Int×Int×Int×Bool×Int×Int×Unit)→Option ((List U5×Int×List Bool×List U6×Bool×Int×Int×Int×Int×Int×Bool×Bool×Unit)):=fun(a0,a1,a2,a3,a4,a5,a6,a7,a8,a9,a10,a11,a12,_)=>
 match idx a3 a11 with|none=>none|some x0=>match idx a3 a12 with|none=>none|some x1=>match(ile 0 (IntKind.wrap .i64 ((AJ (AI a3 (AE a11) ([]:List (Int))))-1)))with
 |true=>match idx (AI a3 (AE a11) ([]:List (Int))) (IntKind.wrap .i64 ((AJ (AI a3 (AE a11) ([]:List (Int))))-1))with|none=>none|some x2=>match(ieq (IntKind.wrap .i64 ((AJ (AI a3 (AE a11) ([]:List (Int))))-1)) (IntKind.wrap .i64 ((AJ (AI a3 (AE a11) ([]:List (Int))))-1)))with
  |true=>match EU (AI a3 (AE a11) ([]:List (Int))) 0 (IntKind.wrap .i64 ((AJ (AI a3 (AE a11) ([]:List (Int))))-1))with|none=>none|some x3=>match idx a3 a11 with|none=>none|some x4=>some (a0,a1,a2,(AX a3 (AE a11) x3),a4,a5,a6,a7,a11,x2,a10,true,())
  |false=>none
 |false=>match(ilt 0 (AJ (AI a3 (AE a12) ([]:List (Int)))))with
 |true=>match idx (AI a3 (AE a12) ([]:List (Int))) 0 with|none=>none|some x5=>match EU (AI a3 (AE a12) ([]:List (Int))) 1 (AJ (AI a3 (AE a12) ([]:List (Int))))with|none=>none|some x6=>match idx a3 a12 with|none=>none|some x7=>some (a0,a1,a2,(AX a3 (AE a12) x6),a4,a5,a6,a7,a12,x5,a10,true,())
 |false=>some (a0,a1,a2,a3,a4,a5,a6,a7,a8,a9,a10,false,())
def AHJ[Lk]:=fun v=>Lk.f (ABx v)
theorem AOi v:AHJ v=ABx v:=AD _
def AZN[Lk]:V1→Option (V1):=fun(a0,a1,a2,a3,a4,a5,a6,a7,a8,a9,a10,a11,_)=>
 match OU ((a0,(a1,(a2,()))),a9,())with|none=>none|some (y0,_)=>match y0 with
 |true=>match AEK ((a0,(a1,(a2,()))),a9,())with|none=>none|some (y1,y2,y3,y4,y5,y6,_)=>match(ieq y6 0)with
  |true=>match idx a3 a11 with|none=>none|some x7=>match(fits ((AJ (AI a3 (AE a11) ([]:List (Int))))+(AJ ([y5,y4]:List (Int)))))with
   |true=>match idx a3 a11 with|none=>none|some x8=>some (y1,y2,y3,(AX a3 (AE a11) (BE (AI a3 (AE a11) ([]:List (Int))) ([y5,y4]:List (Int)))),a4,a5,a6,a7,a8,a9,true,y6,())
   |false=>none
  |false=>some (y1,y2,y3,a3,a4,a5,a6,a7,a8,a9,a10,y6,())
 |false=>match AZc ((a0,(a1,(a2,()))),a9,())with|none=>none|some (y9,y10,y11,y12,y13,_)=>match a4 with
 |true=>some (y9,y10,y11,a3,true,a5,a6,a7,a8,a9,a10,y13,())
 |false=>some (y9,y10,y11,a3,y12,a5,a6,a7,a8,a9,a10,y13,())
def cgo[Lk]:=fun v=>Lk.f (AZN v)
theorem Aas v:cgo v=AZN v:=AD _
abbrev AJw:AB:=[(.tmp 0,.dat Vc),(.tmp 1,.di),(.tmp 2,.di)]
abbrev AJv:AB:=[(.tmp 0,.dat V5),(.tmp 1,.di),(.tmp 2,.dat Uy),(.tmp 3,.dat Uf),(.tmp 4,.dat .bool),(.tmp 5,.di),(.tmp 6,.di),(.tmp 7,.dat U2),(.tmp 8,.di)]
abbrev AJu:List RS:=[.agg 7,.one,.one]
def AJx[Lk]:((((List U5)×Int×(List Bool)×Unit)×(List U6)×Bool×Int×Int×Unit)×Int×Int×Unit)→Option ((List U5×Int×List Bool×List U6×Bool×Int×Int×U1×Int×Unit)):=fun(a0,a1,a2,_)=>
 match AGs (((a0.1.1,(a0.1.2.1,(a0.1.2.2.1,()))),(a0.2.1,(a0.2.2.1,(a0.2.2.2.1,(a0.2.2.2.2.1,()))))),())with|none=>none|some (y0,_)=>match(!y0)with
 |true=>some (a0.1.1,a0.1.2.1,a0.1.2.2.1,a0.2.1,a0.2.2.1,a0.2.2.2.1,a0.2.2.2.2.1,(0,(0,(0,(false,())))),1,())
 |false=>match(ieq a0.2.2.2.1 100000)with
 |true=>some (a0.1.1,a0.1.2.1,a0.1.2.2.1,a0.2.1,a0.2.2.1,a0.2.2.2.1,a0.2.2.2.2.1,(0,(0,(0,(false,())))),2,())
 |false=>match I6 a0.2.1 with|none=>none|some x1=>match Ot (a0.1.1,a0.1.2.1,a0.1.2.2.1,x1,a0.2.2.1,a0.2.2.2.1,a0.2.2.2.2.1,0,(-1:Int),(-1:Int),false,a1,())with|none=>none|some (y2,y3,y4,y5,y6,y7,y8,y9,y10,y11,y12,y13,_)=>match Ot (y2,y3,y4,y5,y6,y7,y8,y9,y10,y11,y12,a2,())with|none=>none|some (y14,y15,y16,y17,y18,y19,y20,y21,y22,y23,y24,y25,_)=>match AHJ (y14,y15,y16,y17,y18,(IntKind.wrap .i64 (y19+1)),y20,y13,y22,y23,y24,y13,y25,())with|none=>none|some (y26,y27,y28,y29,y30,y31,y32,y33,y34,y35,y36,y37,_)=>match y37 with
 |true=>match cgo (y26,y27,y28,y29,y30,y31,y32,y33,y34,y35,y36,y13,())with|none=>none|some (y38,y39,y40,y41,y42,y43,y44,y45,y46,y47,y48,y49,_)=>match(!(ieq y49 0))with
  |true=>some (a0.1.1,a0.1.2.1,a0.1.2.2.1,a0.2.1,a0.2.2.1,a0.2.2.2.1,a0.2.2.2.2.1,(0,(0,(0,(false,())))),y49,())
  |false=>some (y38,y39,y40,y41,y42,y43,y44,(y45,(y46,(y47,(y48,())))),0,())
 |false=>match(ieq y32 100000)with
 |true=>some (a0.1.1,a0.1.2.1,a0.1.2.2.1,a0.2.1,a0.2.2.1,a0.2.2.2.1,a0.2.2.2.2.1,(0,(0,(0,(false,())))),2,())
 |false=>some (y26,y27,y28,y29,y30,y31,(IntKind.wrap .i64 (y32+1)),(y33,(y34,(y35,(y36,())))),0,())
def AUC[Lk]:=fun v=>Lk.f (AJx v)
theorem AUB v:AUC v=AJx v:=AD _
abbrev AJl:AB:=[(.tmp 0,.box 8),(.cell 0 0,.dat V5),(.cell 0 1,.di),(.cell 0 2,.dat Uy),(.cell 0 3,.dat Uf),(.cell 0 4,.dat .bool),(.cell 0 5,.di),(.cell 0 6,.di),(.cell 0 7,.own 212 U2),(.tmp 1,.di),(.tmp 2,.di)]
abbrev On:AB:=[(.obj 0,.box 8),(.cell 0 0,.dat V5),(.cell 0 1,.di),(.cell 0 2,.dat Uy),(.cell 0 3,.dat Uf),(.cell 0 4,.dat .bool),(.cell 0 5,.di),(.cell 0 6,.di),(.cell 0 7,.own 212 U2),(.tmp 0,.di)]
def AJm[Lk]:(List U5×Int×List Bool×List U6×Bool×Int×Int×List U1×Int×Int×Unit)→Option (Uh):=fun(a0,a1,a2,a3,a4,a5,a6,a7,a8,a9,_)=>
 match AUC (((a0,(a1,(a2,()))),(a3,(a4,(a5,(a6,()))))),a8,a9,())with|none=>none|some (y0,y1,y2,y3,y4,y5,y6,y7,y8,_)=>match(ieq y8 0)with
 |true=>match(fits ((AJ a7)+(AJ ([(y7.1,(y7.2.1,(y7.2.2.1,(y7.2.2.2.1,()))))]:List U1))))with
  |true=>some (y0,y1,y2,y3,y4,y5,y6,(BE a7 ([(y7.1,(y7.2.1,(y7.2.2.1,(y7.2.2.2.1,()))))]:List U1)),y8,())
  |false=>none
 |false=>some (a0,a1,a2,a3,a4,a5,a6,a7,y8,())
def AJn[Lk]:=fun v=>Lk.f (AJm v)
theorem ATz v:AJn v=AJm v:=AD _
abbrev Tf:AB:=[(.tmp 0,.box 8),(.cell 0 0,.dat V5),(.cell 0 1,.di),(.cell 0 2,.dat Uy),(.cell 0 3,.dat Uf),(.cell 0 4,.dat .bool),(.cell 0 5,.di),(.cell 0 6,.di),(.cell 0 7,.own 212 U2)]
abbrev AGY:AB:=[(.obj 0,.box 8),(.cell 0 0,.dat V5),(.cell 0 1,.di),(.cell 0 2,.dat Uy),(.cell 0 3,.dat Uf),(.cell 0 4,.dat .bool),(.cell 0 5,.di),(.cell 0 6,.di),(.cell 0 7,.own 212 U2),(.tmp 0,.ptr' 0 0),(.tmp 3,.di),(.tmp 13,.di),(.tmp 14,.di)]
abbrev AGW:AT:=[(.ret,[(.obj 0,.box 8),(.cell 0 0,.dat V5),(.cell 0 1,.di),(.cell 0 2,.dat Uy),(.cell 0 3,.dat Uf),(.cell 0 4,.dat .bool),(.cell 0 5,.di),(.cell 0 6,.di),(.cell 0 7,.own 212 U2),(.tmp 2,.di)]),(.exit 2,[(.obj 0,.box 8),(.cell 0 0,.dat V5),(.cell 0 1,.di),(.cell 0 2,.dat Uy),(.cell 0 3,.dat Uf),(.cell 0 4,.dat .bool),(.cell 0 5,.di),(.cell 0 6,.di),(.cell 0 7,.own 212 U2),(.tmp 0,.ptr' 0 0),(.tmp 3,.di)])]
def AGU[Lk]:(List U5×Int×List Bool×List U6×Bool×Int×Int×List U1×Int×Int×Int×Unit)→Option ((List U5×Int×List Bool×List U6×Bool×Int×Int×List U1×Int×Int×Int×Unit)⊕Uh⊕Uh⊕Unit):=fun(a0,a1,a2,a3,a4,a5,a6,a7,a8,a9,a10,_)=>
 match(ilt a10 a9)with
 |true=>match a4 with
  |true=>some (.inr (.inl (a0,a1,a2,a3,a4,a5,a6,a7,0,())))
  |false=>match AUP (((a0,(a1,(a2,()))),(a3,(a4,(a5,(a6,()))))),())with|none=>none|some (y0,_)=>match(ieq y0 0)with
  |true=>some (.inr (.inl (a0,a1,a2,a3,a4,a5,a6,a7,4,())))
  |false=>match AJn (a0,a1,a2,a3,a4,a5,a6,a7,a10,(IntKind.wrap .i64 ((IntKind.wrap .i64 (a10+1))+a8)),())with|none=>none|some (y1,y2,y3,y4,y5,y6,y7,y8,y9,_)=>match(!(ieq y9 0))with
  |true=>some (.inr (.inl (y1,y2,y3,y4,y5,y6,y7,y8,y9,())))
  |false=>some (.inl (y1,y2,y3,y4,y5,y6,y7,y8,a8,a9,(IntKind.wrap .i64 (a10+1)),()))
 |false=>some (.inr (.inr (.inl (a0,a1,a2,a3,a4,a5,a6,a7,a8,()))))
abbrev AGZ:AB:=[(.obj 0,.box 8),(.cell 0 0,.dat V5),(.cell 0 1,.di),(.cell 0 2,.dat Uy),(.cell 0 3,.dat Uf),(.cell 0 4,.dat .bool),(.cell 0 5,.di),(.cell 0 6,.di),(.cell 0 7,.own 212 U2),(.tmp 0,.ptr' 0 0),(.tmp 3,.di)]
abbrev AGX:AT:=[(.ret,[(.obj 0,.box 8),(.cell 0 0,.dat V5),(.cell 0 1,.di),(.cell 0 2,.dat Uy),(.cell 0 3,.dat Uf),(.cell 0 4,.dat .bool),(.cell 0 5,.di),(.cell 0 6,.di),(.cell 0 7,.own 212 U2),(.tmp 2,.di)])]
def AGV[Lk]:Uh→Option (Uh⊕Uh⊕Unit):=fun(a0,a1,a2,a3,a4,a5,a6,a7,a8,_)=>
 match AQ AGU many (a0,a1,a2,a3,a4,a5,a6,a7,a8,(AJ a3),0,())with|none=>none|some r=>match r with
 |.inl (o0,o1,o2,o3,o4,o5,o6,o7,o8,_)=>some (.inr (.inl (o0,o1,o2,o3,o4,o5,o6,o7,o8,())))
 |.inr r=>match r with
 |.inl (o9,o10,o11,o12,o13,o14,o15,o16,o17,_)=>some (.inl (o9,o10,o11,o12,o13,o14,o15,o16,(IntKind.wrap .i64 (o17+1)),()))
 |.inr _=>none
def Tg[Lk]:(List U5×Int×List Bool×List U6×Bool×Int×Int×List U1×Unit)→Option (Uh):=fun(a0,a1,a2,a3,a4,a5,a6,a7,_)=>
 match AQ AGV many (a0,a1,a2,a3,a4,a5,a6,a7,0,())with|none=>none|some r=>match r with
 |.inl (o0,o1,o2,o3,o4,o5,o6,o7,o8,_)=>some (o0,o1,o2,o3,o4,o5,o6,o7,o8,())
 |.inr _=>none
def XD[Lk]:=fun v=>Lk.f (Tg v)
theorem AGa v:XD v=Tg v:=AD _
abbrev ABR:AB:=[(.tmp 0,.di),(.tmp 1,.di),(.tmp 2,.di),(.tmp 3,.dat (.slice (.arr 2 U0)))]
abbrev ABQ:AB:=[(.tmp 0,.dat Vc),(.tmp 1,.own 212 U2),(.tmp 2,.di)]
abbrev BD:List RS:=[.one,.one,.one]
abbrev ANx:AB:=[(.tmp 8,.box 7),(.cell 0 0,.nil Ub),(.cell 0 1,.di),(.cell 0 2,.nil .bool),(.cell 0 3,.nil U7),(.cell 0 4,.dat .bool),(.cell 0 5,.di),(.cell 0 6,.di),(.tmp 13,.box 8),(.cell 1 0,.dat V5),(.cell 1 1,.di),(.cell 1 2,.dat Uy),(.cell 1 3,.dat Uf),(.cell 1 4,.dat .bool),(.cell 1 5,.di),(.cell 1 6,.di),(.cell 1 7,.own 212 U2),(.tmp 31,.dat (.slice (.arr 2 U0))),(.tmp 32,.di),(.tmp 33,.di)]
abbrev ANw:AT:=[(.exit 0,[(.tmp 8,.box 7),(.cell 0 0,.nil Ub),(.cell 0 1,.di),(.cell 0 2,.nil .bool),(.cell 0 3,.nil U7),(.cell 0 4,.dat .bool),(.cell 0 5,.di),(.cell 0 6,.di),(.tmp 13,.box 8),(.cell 1 0,.dat V5),(.cell 1 1,.di),(.cell 1 2,.dat Uy),(.cell 1 3,.dat Uf),(.cell 1 4,.dat .bool),(.cell 1 5,.di),(.cell 1 6,.di),(.cell 1 7,.own 212 U2)]),(.ret,[(.tmp 8,.box 7),(.cell 0 0,.dat V5),(.cell 0 1,.di),(.cell 0 2,.dat Uy),(.cell 0 3,.dat Uf),(.cell 0 4,.dat .bool),(.cell 0 5,.di),(.cell 0 6,.di),(.tmp 9,.own 212 U2),(.tmp 10,.di)])]
def ANv[Lk]:(Int×Bool×Int×Int×List U5×Int×List Bool×List U6×Bool×Int×Int×List U1×List U6×Int×Int×Unit)→Option ((Int×Bool×Int×Int×List U5×Int×List Bool×List U6×Bool×Int×Int×List U1×List U6×Int×Int×Unit)⊕(Int×Bool×Int×Int×List U5×Int×List Bool×List U6×Bool×Int×Int×List U1×Unit)⊕Uh⊕Unit):=fun(a0,a1,a2,a3,a4,a5,a6,a7,a8,a9,a10,a11,a12,a13,a14,_)=>
 match(ilt a14 a13)with
 |true=>match idx a12 a14 with|none=>none|some x0=>match a8 with
  |true=>some (.inr (.inl (a0,a1,a2,a3,a4,a5,a6,a7,a8,a9,a10,a11,())))
  |false=>match AJn (a4,a5,a6,a7,a8,a9,a10,a11,(AI x0 0 0),(AI x0 1 0),())with|none=>none|some (y1,y2,y3,y4,y5,y6,y7,y8,y9,_)=>match(!(ieq y9 0))with
  |true=>some (.inr (.inr (.inl (y1,y2,y3,y4,y5,y6,y7,y8,y9,()))))
  |false=>some (.inl (a0,a1,a2,a3,y1,y2,y3,y4,y5,y6,y7,y8,a12,a13,(IntKind.wrap .i64 (a14+1)),()))
 |false=>some (.inr (.inl (a0,a1,a2,a3,a4,a5,a6,a7,a8,a9,a10,a11,())))
def ABS[Lk]:(Int×Int×Int×List U6×Unit)→Option (((((List U5)×Int×(List Bool)×Unit)×(List U6)×Bool×Int×Int×Unit)×List U1×Int×Unit)):=fun(a0,a1,a2,a3,_)=>
 match AHL (a0,a1,a2,())with|none=>none|some (y0,y1,y2,y3,y4,y5,y6,y7,_)=>match(!(ieq y7 0))with
 |true=>some (((([]:List U5),(0,(([]:List (Bool)),()))),(([]:List U6),(false,(0,(0,()))))),([]:List U1),y7,())
 |false=>match AQ ANv many (0,false,0,0,y0,y1,y2,y3,y4,y5,y6,([]:List U1),a3,(AJ a3),0,())with|none=>none|some r=>match r with
 |.inl (o8,o9,o10,o11,o12,o13,o14,o15,o16,o17,o18,o19,_)=>match XD (o12,o13,o14,o15,o16,o17,o18,o19,())with|none=>none|some (y20,y21,y22,y23,y24,y25,y26,y27,y28,_)=>some (((y20,(y21,(y22,()))),(y23,(y24,(y25,(y26,()))))),y27,y28,())
 |.inr r=>match r with
 |.inl (o29,o30,o31,o32,o33,o34,o35,o36,o37,_)=>some (((o29,(o30,(o31,()))),(o32,(o33,(o34,(o35,()))))),o36,o37,())
 |.inr _=>none
def AGT[Lk]:=fun v=>Lk.f (ABS v)
theorem ANy v:AGT v=ABS v:=AD _
abbrev Ti:AB:=[(.tmp 0,.dat Vc),(.tmp 1,.dat Us)]
abbrev Th:AB:=[(.tmp 0,.own 170 U3)]
abbrev AGd:AB:=[(.tmp 2,.box 7),(.cell 0 0,.dat V5),(.cell 0 1,.di),(.cell 0 2,.dat Uy),(.cell 0 3,.dat Uf),(.cell 0 4,.dat .bool),(.cell 0 5,.di),(.cell 0 6,.di),(.tmp 5,.own 170 U3),(.tmp 9,.dat Us),(.tmp 10,.di),(.tmp 11,.di)]
abbrev AGc:AT:=[(.exit 0,[(.tmp 5,.own 170 U3)])]
def AGb[Lk]:(List U5×Int×List Bool×List U6×Bool×Int×Int×List U4×List U1×Int×Int×Unit)→Option ((List U5×Int×List Bool×List U6×Bool×Int×Int×List U4×List U1×Int×Int×Unit)⊕Uu⊕Unit):=fun(a0,a1,a2,a3,a4,a5,a6,a7,a8,a9,a10,_)=>
 match(ilt a10 a9)with
 |true=>match idx a8 a10 with|none=>none|some x0=>match x0.2.2.2.1 with
  |true=>some (.inl (a0,a1,a2,a3,a4,a5,a6,a7,a8,a9,(IntKind.wrap .i64 (a10+1)),()))
  |false=>match(ilt x0.2.2.1 0)with
  |true=>some (.inl (a0,a1,a2,a3,a4,a5,a6,a7,a8,a9,(IntKind.wrap .i64 (a10+1)),()))
  |false=>match(ile (AJ a0) x0.2.2.1)with
  |true=>some (.inl (a0,a1,a2,a3,a4,a5,a6,a7,a8,a9,(IntKind.wrap .i64 (a10+1)),()))
  |false=>match idx a0 x0.2.2.1 with|none=>none|some x1=>match(fits ((AJ a7)+(AJ ([(x1.1,(x1.2.1,()))]:List U4))))with
  |true=>some (.inl (a0,a1,a2,a3,a4,a5,a6,(BE a7 ([(x1.1,(x1.2.1,()))]:List U4)),a8,a9,(IntKind.wrap .i64 (a10+1)),()))
  |false=>none
 |false=>some (.inr (.inl (a7,())))
def Tj[Lk]:((((List U5)×Int×(List Bool)×Unit)×(List U6)×Bool×Int×Int×Unit)×List U1×Unit)→Option (Uu):=fun(a0,a1,_)=>
 match AQ AGb many (a0.1.1,a0.1.2.1,a0.1.2.2.1,a0.2.1,a0.2.2.1,a0.2.2.2.1,a0.2.2.2.2.1,([]:List U4),a1,(AJ a1),0,())with|none=>none|some r=>match r with
 |.inl (o0,_)=>some (o0,())
 |.inr _=>none
def XE[Lk]:=fun v=>Lk.f (Tj v)
theorem AGe v:XE v=Tj v:=AD _
abbrev AA2:AB:=[(.tmp 0,.dat Uo)]
def AA3[Lk]:(Uv×Unit)→Option (Uk):=fun(a0,_)=>
 match(ile 1 a0.1)with
 |true=>match(ile a0.1 100)with
  |true=>match(ile 1 a0.2.1)with
   |true=>match(ile a0.2.1 8)with
    |true=>some ((ile (AJ a0.2.2.1) 4000),())
    |false=>some (false,())
   |false=>some (false,())
  |false=>some (false,())
 |false=>some (false,())
def AGL[Lk]:=fun v=>Lk.f (AA3 v)
theorem ANg v:AGL v=AA3 v:=AD _
end
end Go.Pev
end
