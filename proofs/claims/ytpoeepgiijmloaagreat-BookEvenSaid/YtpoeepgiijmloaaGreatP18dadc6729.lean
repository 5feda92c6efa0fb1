/- A part of the proofs of this seat: PevCall2 PevCall3 PevCall4 PevTop PevClone GTM1 GTM2 GTM3 PevTake PevPanC PevDefer PevClip PevRaw PevRow GTP1 GTP2 GTP3 GTP4 GTP5 GTP6 GTP7 GTP8 GTP9 GTP10 GTP11. -/
import Derived.Test.YtpoeepgiijmloaaGreatP58906ecb02
import Derived.Laws.Sem
import Derived.KernelRfl
import Derived.Lib.SliceRun
import Derived.Recover
import Derived.Test.YtpoeepgiijmloaaGreatProg
set_option linter.unusedVariables false
set_option linter.unusedSimpArgs false
set_option linter.unusedSectionVars false
set_option maxRecDepth 100000
section
namespace Go.Pev
open Go.RowKit
noncomputable section
theorem Z5{H:List Ob}{fz:List Bool}{i:Nat}{o:Ob}(h:H[i]? = some o)(a:alive o)(b:fz.getD i false=false):owned H fz i:=by
 simp only[owned,Cs];rw[h];cases o with
  |free=>exact a.elim
  |dead=>exact a.elim
  |box cs=>trivial
  |arr T t xs=>exact b
  |map k v c=>trivial
  |prs T t d=>trivial
  |rows T e t xs ver out=>exact b
theorem r6{o:Ob}(h:alive o):o≠.free/\o≠.dead:=by constructor<;>rintro rfl<;>exact h
theorem MR{H:List Ob}{fz:List Bool}{ids:List Nat}{i:Ix}(h:owned H (BJ ids fz) i):owned H fz i:=Pt h
theorem c6{o a:Ob}{ids:List Nat}(h:sameShape o a):sameShape o (El ids a):=by cases o<;>cases a<;>simp only[sameShape,El]at *<;>exact h
theorem VP{i:Nat}:∀ {bs:List Bnd},i∈given bs↔∃ j:Nat,bs[j]? = some (.whole i):=by
 intro bs;induction bs with
  |nil=>simp[given]
  |cons b bs a=>
   have step:(∃ j:Nat,(b::bs)[j]? = some (.whole i))↔b = .whole i\/∃ j:Nat,bs[j]? = some (.whole i):=by constructor;grind;rintro (h|⟨j,c⟩);exact⟨0,by grind⟩;exact⟨j+1,by grind⟩
   rw[step];cases b with
    |whole id=>simp only[given,ASW,a,Bnd.whole.injEq];grind
    |none=>simp[given,a]
    |cut id=>simp[given,a]
theorem Wa(a b:List (Nat×Ob)):∀ H,Bs (a++b) H=Bs b (Bs a H):=by
 induction a with
  |nil=>intro H;rfl
  |cons p a c=>intro H;obtain⟨i,o⟩:=p;simp only[ASl,Bs];grind
def EN(a:List Nat)(H:List Ob):List Ob:=Bs (a.map fun i=>(i,.dead)) H
theorem aO{a:List Nat}{i:Nat}{H:List Ob}(h:i∉a):(EN a H)[i]? = H[i]? :=
 CV _ _ fun p b=>by grind
theorem ADJ:∀ {b:List Nat} {i:Nat} {H:List Ob},i∈b->i<H.length->(EN b H)[i]? = some .dead:=by
 intro b;induction b with
  |nil=>simp
  |cons a b d=>intro i H h e;by_cases c:i∈b;exact d (H:=H.set a .dead) c (by grind);have:(EN b (H.set a .dead))[i]? = (H.set a .dead)[i]? := aO c;rcases ASW.1 h with rfl|h;show(EN b (H.set i .dead))[i]? = _;grind;grind
theorem aP(a:List Nat)(H:List Ob):(EN a H).length=H.length:=WZ ..
section
variable {w w':World} {F F2 F3 FR:Nat->Prop} {m m3:Mp} {H H1:List Ob} {fz fz1 fzR:List Bool} {bs:List Bnd} {ids fr:List Nat} {np:Nat}
theorem AEy(hiC:HI w F m H fz)(gA:BP w F m H fz w F2 m H (BJ fr fz))
  (O:∀ (j id:Nat),bs[j]? = some (.whole id)->owned H (BJ fr fz) id)
  (inj:∀ (i j id:Nat),bs[i]? = some (.whole id)->bs[j]? = some (.whole id)->i=j)
  (pin:∀ (j id:Nat),(bs.take np)[j]? = some (.whole id)->∃ o d,H[id]? = some o/\alive o/\H1[j]? = some d/\sameShape o d/\m3 j=m id)
  (blk:∀ (j b c:Nat),owned H1 fz1 j->m3 j=some (b,c)->(∃ id c':Nat,(bs.take np)[j]? = some (.whole id)/\m id=some (b,c'))\/(∃ k id c':Nat,np<=k/\bs[k]? = some (.whole id)/\m id=some (b,c'))\/w.heap.size<=b)
  (os:w'.os=w.os) (tape:w'.tape=w.tape) (output:w'.output=w.output) (size:w.heap.size<=w'.heap.size)
  (keep:∀ b,b<w.heap.size->(∀ (j id:Nat) (c:Nat),bs[j]? = some (.whole id)->m id≠some (b,c))->w'.heap[b]? = w.heap[b]?)
  (sub:∀ b,F2 b->F3 b) (bnd:∀ b,F3 b->F2 b\/(∃ (j id c:Nat),bs[j]? = some (.whole id)/\m id=some (b,c))\/w.heap.size<=b)
  (hi1:HI w' F3 m3 H1 fz1) (al1:∀ (j:Nat) (o:Ob),H1[j]? = some o->alive o) (pl1:∀ (j:Nat) (o:Ob),H1[j]? = some o->CF o=true) (fr1:∀ j,fz1.getD j false=false)
  (hlen:ids.length=H1.length) (hok:Gb H fzR ids (bs.take np)=true) (hnd:Jb ids=true)
  (hR:(FR=F/\fzR=fz/\H1.all OM=true)\/(FR=F3/\fzR=BJ fr fz)) :
  BP w F m H fz w' FR (mOf ids m3 m) (Bs (ids.zip (H1.map (El ids))) (EN (given (bs.drop np)) H)) fzR/\sD ids H1 (Bs (ids.zip (H1.map (El ids))) (EN (given (bs.drop np)) H)) m3 (mOf ids m3 m):=by
 have hiR:∃ FB,HI w FB m H fzR/\(∀ b,F b->FB b)/\(∀ b,FB b->FR b)/\(∀ b,FB b->F2 b):=by
  rcases hR with⟨G,W,_⟩|⟨G,W⟩
  exact⟨F,by grind,fun _ h=>h,fun _ h=>by grind,gA.1.sub⟩;exact⟨F2,by rw[W];exact gA.2,gA.1.sub,fun b h=>by grind,fun _ h=>h⟩
 obtain⟨FB,P,X,U,hB2⟩:=hiR;have ownR:∀ {i},owned H fzR i->owned H fz i:=by
  intro i h;rcases hR with⟨_,W,_⟩|⟨_,W⟩
  grind;rw[W]at h;exact MR h
 have pinR:∀ {id},owned H (BJ fr fz) id->owned H fzR id:=by
  intro id h;rcases hR with⟨_,W,_⟩|⟨_,W⟩
  rw[W];exact MR h;grind
 have FR3:∀ b,FR b->F3 b:=by grind
 have tk:∀ {j id:Nat},(bs.take np)[j]? = some (.whole id)->j<np/\bs[j]? = some (.whole id):=by grind
 have tk':∀ {j id:Nat},j<np->bs[j]? = some (.whole id)->(bs.take np)[j]? = some (.whole id):=by grind
 have gvI:∀ {i:Nat},i∈given (bs.drop np)->∃ k,np<=k/\bs[k]? = some (.whole i):=by intro i h;obtain⟨j,f⟩:=VP.1 h;grind
 have gvO:∀ {i k:Nat},np<=k->bs[k]? = some (.whole i)->i∈given (bs.drop np):=by intro i k hk h;refine VP.2 ⟨k-np,?_⟩;grind
 have S:∀ {j i:Nat},ids[j]? = some i->(∃ o,H[i]? = some o)/\((bs.take np)[j]? = some (.whole i)\/((∀ (id:Nat),(bs.take np)[j]?≠some (.whole id))/\H[i]? = some .free/\fzR.getD i false=false)):=by
  intro j i f;rcases fj hok f with h|⟨M,N⟩
  grind;obtain⟨h3,h4⟩:=B' N;grind
 have gvN:∀ {i:Nat},i∈ids->i∉given (bs.drop np):=by
  intro i hi g;obtain⟨j,f⟩:=AUE hi;obtain⟨k,hk,u⟩:=gvI g;rcases(S f).2 with h|⟨_,h,_⟩
  grind;obtain⟨o,M,N,_⟩:=GC (O k i u);grind
 have hunf:∀ {j i:Nat},ids[j]? = some i->∀ {d:Ob},H1[j]? = some d->∀ {T:TypeId} {t:Ty} {xs:List t.den},d = .arr T t xs->fzR.getD i false=false:=by
  intro j i f d a T t xs V;rcases(S f).2 with h|⟨_,_,h⟩
  obtain⟨o,o2,n,_,Y,hs,_⟩:=pin j i h;rw[a]at Y;cases Y;subst V;have N:=pinR (O j i (tk h).2);simp only[owned,Cs]at N;rw[n]at N;cases o<;>simp only[sameShape]at hs;exact N;omega
 have hwhole:∀ {j id:Nat},(bs.take np)[j]? = some (.whole id)->ids[j]? = some id:=by
  intro j id u;obtain⟨o,d,_,_,a,_⟩:=pin j id u;have hl:=BS a;rw[<- hlen]at hl;have g:ids[j]? = some ids[j]:=ASI hl;rcases fj hok g with h|⟨h,_⟩
  all_goals grind
 have hgv:∀ {i:Nat},i∈given (bs.drop np)->(EN (given (bs.drop np)) H)[i]? = some .dead:=by intro i hi;obtain⟨k,_,u⟩:=gvI hi;obtain⟨o,n,_⟩:=GC (O k i u);exact ADJ hi (BS n)
 have y:∀ {j i:Nat} {d:Ob},ids[j]? = some i->H1[j]? = some d->(Bs (ids.zip (H1.map (El ids))) (EN (given (bs.drop np)) H))[i]? = some (El ids d):=by intro j i d f a;obtain⟨⟨o,n⟩,_⟩:=S f;exact nX ids _ _ j hnd f (by grind) (by rw[aP];grind)
 have Z:∀ {i:Nat},i∉ids->(Bs (ids.zip (H1.map (El ids))) (EN (given (bs.drop np)) H))[i]? = (EN (given (bs.drop np)) H)[i]? := by intro i hi;exact CV _ _ fun p hp=>by rintro rfl;exact hi (List.of_mem_zip hp).1
 have q:∀ {i:Nat},i∉ids->i∉given (bs.drop np)->(Bs (ids.zip (H1.map (El ids))) (EN (given (bs.drop np)) H))[i]? = H[i]? := by intro i hi g;rw[Z hi,aO g]
 have getGv:∀ {i:Nat},i∈given (bs.drop np)->(Bs (ids.zip (H1.map (El ids))) (EN (given (bs.drop np)) H))[i]? = some .dead:=by grind
 have mIn:∀ {j i:Nat},ids[j]? = some i->mOf ids m3 m i=m3 j:=by intro j i f;simp only[mOf];rw[ADx hnd f]
 have A:∀ {x:Ix},x.id∉ids->mOf ids m3 m x=m x:=by
  intro x hi;cases x with
   |r i k=>rfl
   |o i=>
    simp only[mOf];cases hf:Kx ids i with
     |none=>rfl
     |some j=>exact absurd (ASJ (W1 hf)) hi
 have z:∀ i:Nat,(∃ j:Nat,ids[j]? = some i)\/i∈given (bs.drop np)\/(i∉ids/\i∉given (bs.drop np)):=by intro i;by_cases h:i∈ids;obtain⟨j,f⟩:=AUE h;grind;grind
 have notGv:∀ {i:Ix},i.id∈given (bs.drop np)->¬ owned (Bs (ids.zip (H1.map (El ids))) (EN (given (bs.drop np)) H)) fzR i:=by intro i g n;obtain⟨o,M,_,h3⟩:=EK n;grind
 have I:∀ {j i:Nat},ids[j]? = some i->∃ d,H1[j]? = some d:=by grind
 have plR:∀ {d:Ob},CF d=true->CF (El ids d)=true:=by intro d h;cases d<;>first|exact h|rfl
 have cls:∀ x:Ix,owned (Bs (ids.zip (H1.map (El ids))) (EN (given (bs.drop np)) H)) fzR x->(∃ i j:Nat,∃ d,x = .o i/\ids[j]? = some i/\H1[j]? = some d)\/(x.id∉ids/\x.id∉given (bs.drop np)):=by
  intro x hx;rcases z x.id with⟨j,f⟩|g|h;obtain⟨d,a⟩:=I f;cases x with
   |o i=>exact .inl ⟨i,j,d,rfl,f,a⟩
   |r i k=>exact absurd hx (GA (y f a) (plR (pl1 j d a)))
  all_goals grind
 have J:∀ {j:Nat} {d:Ob},H1[j]? = some d->owned H1 fz1 j:=fun h=>Z5 h (al1 _ _ h) (fr1 _);have blkNe:∀ {i b c:Nat},i∉ids->i∉given (bs.drop np)->(∃ o,H[i]? = some o/\o≠.free/\o≠.dead)->m i=some (b,c)->∀ {j id c':Nat},bs[j]? = some (.whole id)->m id≠some (b,c'):=by
  intro i b c hi g ⟨o,n,M,N⟩ K j id c' u V;have hp:=O j id u;have hne:i≠id:=by grind
  exact gA.2.ne hp V n M N K hne rfl
 have Q:DR H (Bs (ids.zip (H1.map (El ids))) (EN (given (bs.drop np)) H)) m (mOf ids m3 m):=by
  intro i o n hf;rcases z i with⟨j,f⟩|g|⟨hi,g⟩
  rcases(S f).2 with h|⟨_,h,_⟩
  obtain⟨o',d,ho',ha,a,hs,K⟩:=pin j i h;rw[n]at ho';cases ho';exact .inr ⟨(r6 ha).2,_,y f a,c6 hs,by grind,fun _ _ _=>rfl⟩;grind;grind;rcases DR.refl H m i o n hf with h|⟨hd,o',M,N,_⟩
  grind;exact .inr ⟨hd,o',by grind,N,A (x:=.o i) hi,fun _ _ _=>rfl⟩
 have C:sD ids H1 (Bs (ids.zip (H1.map (El ids))) (EN (given (bs.drop np)) H)) m3 (mOf ids m3 m):=by intro j o n;grind
 have hkeepF:∀ b,FB b->w'.heap[b]? = w.heap[b]? := by intro b u;refine keep b (P.lt b u) fun j id c f V => ?_;exact gA.2.off id b c (O j id f) V (hB2 b u)
 have R:∀ k,F k->w'.heap[k]? = w.heap[k]? := fun k ha=>hkeepF _ (X _ ha);have D:∀ {i:Ix},i.id∉ids->i.id∉given (bs.drop np)->owned (Bs (ids.zip (H1.map (El ids))) (EN (given (bs.drop np)) H)) fzR i->owned H fzR i:=by intro i hi g h;exact(Dm (q hi g)).1 h
 have blkNe':∀ {x:Ix} {b c:Nat},x.id∉ids->x.id∉given (bs.drop np)->owned H fzR x->m x=some (b,c)->∀ {j id c':Nat},bs[j]? = some (.whole id)->m id≠some (b,c'):=by
  intro x b c hi g n K j id c' u V;cases x with
   |o i=>exact blkNe hi g (GC n) K u V
   |r i k=>exact gA.2.neX (O j id u) V n.there K (by simp) rfl
 have bOut:∀ {x:Ix} {b c:Nat},x.id∉ids->x.id∉given (bs.drop np)->owned H fzR x->m x=some (b,c)->∀ {j:Nat} {d:Ob} {c':Nat},H1[j]? = some d->m3 j≠some (b,c'):=by intro x b c hi g n K j d c' a V;rcases blk j b c' (J a) V with⟨id,c2,u,hm2⟩|⟨k,id,c2,_,u,hm2⟩|hge;grind;grind;have:=P.Jc n K;omega
 refine⟨⟨⟨os,tape,output,size,fun b u hn=>keep b u fun j id c f V => ?_,fun b h=>U b (X b h),?_,?_,Q⟩,⟨?_,?_,?_,?_,?_,?_,?_,hiC.glo.mono R (fun b h=>U b (X b h)),?_⟩⟩,C⟩;grind
 ·-- what is frozen
  intro b u;rcases hR with⟨G,_,_⟩|⟨G,_⟩
  grind;·rw[G]at u;rcases bnd b u with h|⟨j,id,c,M,N⟩|h;exact gA.1.bnd b h;all_goals grind
 intro i b c n K;rcases cls i n with⟨i,j,d,rfl,f,a⟩|⟨hi,g⟩
 rw[mIn f]at K;rcases blk j b c (J a) K with⟨id,c',M,N⟩|⟨k,id,c',_,M,N⟩|h;grind;grind;omega;grind;-- objects
 intro i o n;rcases z i with⟨j,f⟩|g|⟨hi,g⟩
 obtain⟨d,a⟩:=I f;rw[y f a]at n;cases n;rw[mIn f];have L:=hi1.obj j d a;cases d with
  |free=>trivial
  |dead=>trivial
  |box cs=>
   obtain⟨b,c,vs,T,a1,a2,a3,a4⟩:=L;refine⟨b,c,vs,T,a1,a2,BE.ren C cs ?_,a4⟩;rcases hR with⟨G,_,E⟩|⟨G,_⟩
   rw[ASd]at E;exact BE.flat cs (by simpa [OM]using E _ (ASJ a)) a3;grind
  |arr T t xs=>
   rcases hR with⟨G,_,E⟩|⟨G,_⟩
   rw[ASd]at E;have hft:t.flat=true:=by simpa [OM]using E _ (ASJ a)
   obtain⟨h0,M⟩:=L;refine⟨h0,?_⟩;cases hm3:m3 j with
    |none=>grind
    |some p=>obtain⟨b,cap⟩:=p;rw[hm3]at M;obtain⟨vs,row,a1,a2,a3,a4,a5,a6⟩:=M;exact⟨vs,row,a1,a2,a3,a4,B_ (fun x _ cs hx=>hx.flat t hft) a5,a6⟩
   rw[G];exact L
  |map k v es=>
   obtain⟨b,c,ms,clock,a1,a2,a3,a4⟩:=L;refine⟨b,c,ms,clock,a1,a2,?_,a4⟩;rcases hR with⟨G,_,E⟩|⟨G,_⟩
   rw[ASd]at E;have hft:k.flat=true/\v.flat=true:=by simpa [OM]using E _ (ASJ a)
   exact ADy hft.1 hft.2 a3;grind
  |prs T tgt is=>
   simp only[El];cases hm3:m3 j with
    |none=>rw[hm3]at L;exact L
    |some p=>
     obtain⟨b,cap⟩:=p;rw[hm3]at L;obtain⟨vs,us,a1,a2,a3,a4,a5,a6,a7⟩:=L;refine⟨vs,us,a1,a2,a3,a4,?_,a6,a7⟩;rw[<- AG7];refine BE.ren C _ ?_;rcases hR with⟨G,_,E⟩|⟨G,_⟩
     exact BE.flat _ (ADt tgt is) a5;grind
  |rows T e t xs ver out=>exact absurd (pl1 j _ a) (by simp[CF])
 rw[getGv g]at n;cases n;trivial;rw[q hi g]at n;rw[A (x:=.o i) hi];refine ObI.mono R (fun b h=>U b (X b h)) Q (fun M N b c K hlt=>keep b hlt fun j id c' f=>blkNe hi g ⟨o,n,M,N⟩ K f) (hiC.obj i o n);-- rows
 intro i;rcases z i with⟨j,f⟩|g|⟨hi,g⟩
 obtain⟨d,a⟩:=I f;exact C6.plain (y f a) (plR (pl1 j d a));exact C6.plain (getGv g) rfl
 refine C6.mono R (fun b h=>U b (X b h)) Q (q hi g) (fun x hx=>A (by grind))
  (fun x hx hox b c K hlt=>keep b hlt fun j id c' f V => ?_) (hiC.row i)
 refine gA.2.neX (O j id f) V hox K ?_ rfl;grind;intro i T e t xs ver out B hf x hx ht b c K;rcases z i with⟨j,f⟩|g|⟨hi,g⟩
 obtain⟨d,a⟩:=I f;rw[y f a]at B;have:=plR (pl1 j d a);rw[Option.some.inj B]at this;cases this;grind;rw[A (x:=x) (by grind)]at K;have M:=q hi g;exact U b (P.rfz i T e t xs ver out (M▸B) hf x hx ((Dk (by grind)).1 ht) b c K);-- apart
 intro i j b c b' c' hoi hoj hij s hmj;rcases cls i hoi with⟨i,k,d,rfl,hk,a⟩|⟨hi,hgi⟩
 rw[mIn hk]at s;rcases cls j hoj with⟨j,l,o2,rfl,hl,Y⟩|⟨f,hgj⟩
 rw[mIn hl]at hmj;have hkl:k≠l:=by grind
 exact hi1.sep k l b c b' c' (J a) (J Y) (ANM hkl) s hmj;grind;rw[A hi]at s;rcases cls j hoj with⟨j,l,o2,rfl,hl,Y⟩|⟨f,hgj⟩
 grind;rw[A f]at hmj;exact P.sep i j b c b' c' (D hi hgi hoi) (D f hgj hoj) hij s hmj;-- none of them frozen
 intro i b c hoi s u;rcases cls i hoi with⟨i,k,d,rfl,hk,a⟩|⟨hi,g⟩
 rw[mIn hk]at s;exact hi1.off k b c (J a) s (FR3 b u);rw[A hi]at s;have n:=D hi g hoi;rcases hR with⟨G,W,_⟩|⟨G,W⟩
 rw[G]at u;exact hiC.off i b c (ownR n) s u;rw[G]at u;rcases bnd b u with h|⟨j,id,c',M,N⟩|h;rw[W]at n;exact gA.2.off i b c n s h;grind;have:=P.Jc n s;omega;intro i T t xs b c B hf s;rcases z i with⟨k,hk⟩|g|⟨hi,g⟩
 obtain⟨d,a⟩:=I hk;rw[y hk a]at B;have:d = .arr T t xs:=by cases d<;>simp only[El,ASA]at B<;>first|exact B|cases B
 grind;grind;rw[q hi g]at B;rw[A (x:=.o i) hi]at s;exact U b (P.froz i T t xs b c B hf s);intro b u;exact hi1.lt b (FR3 b u);rw[WZ,aP];exact P.len
end
section
variable [DfI] {P:Program} {w:World} {F:Nat->Prop} {m:Mp} {st:St} {a:Act}
def jK(b:Array Value):ResultVar->Sem Value
 |.tmp t=>pure (b.getD t undef)
 |.cell x t=>do loadVar t (<- asAddr (b.getD x undef))
theorem oB(e:SI w F m st a){g:ResultVar}{v:AV}(h:R8 P st g=some v):
  ∃ u,(jK a.tmps g).run P w = .ok u w/\Rep w F m st.heap v u:=by
 cases g with
  |tmp t=>simp only[R8,ASA]at h;subst h;exact⟨_,rfl,e.tmps t⟩
  |cell x T=>
   simp only[R8]at h;split at h;rename_i id off n ag o p q;split at h;rename_i cs k;have d:=e.tmps x;have r:st.tmps.f x = .ptr id off:=o;rw[r]at d;unfold Rep HZ at d;rw[k]at d;obtain⟨b,c,s,y⟩:=d;obtain⟨b',c',vs,E,l,z,A,B⟩:=e.heap.obj id _ k;rw[s]at l;cases l;obtain⟨u,C,D⟩:=D8 (P:=P) p q h (GL A off) (ad:=⟨b,off,none⟩) (fun u i=>B u (AUB i)) (fun j u i=>by rw[AU1]at i;rw[DD];simp only[World.cell?,z];grind)
   refine⟨u,?_,D⟩;simp[jK,y,asAddr,C];grind;grind
theorem jJ(d:SI w F m st a):∀ {b:List ResultVar} {vs:List AV},Ed P st b=some vs ->
  ∃ us,(b.mapM (jK a.tmps)).run P w = .ok us w/\BE w F m st.heap vs us:=by
 intro b;induction b with
  |nil=>intro vs h;simp only[Ed,ASA]at h;subst h;exact⟨[],by simp,Lu⟩
  |cons i b e=>intro vs h;simp only[Ed]at h;split at h;cases h;rename_i v f;split at h;cases h;rename_i g c;simp only[ASA]at h;subst h;obtain⟨u,j,k⟩:=oB d f;obtain⟨us,l,n⟩:=e c;refine⟨u::us,?_,by unfold BE;grind⟩;simp_all
def j6(us:List Value):Value:=if h:us.toArray.size=1 then us.toArray[0]else .tuple us.toArray
theorem ML(b:SI w F m st a){fn:Func}{vs:List AV}(h:Ed P st fn.results.toList=some vs):
  ∃ us,(results fn a.tmps).run P w = .ok (j6 us) w/\BE w F m st.heap vs us:=by
 obtain⟨us,c,d⟩:=jJ b h;refine⟨us,?_,d⟩
 have e:results fn a.tmps=(do
   let vs <- fn.results.mapM (jK a.tmps)
   pure (if h:vs.size=1 then vs[0]else .tuple vs)):=by
  unfold results
  congr 2
 rw[e,AUt];simp only[Sem.run_bind,map_eq_pure_bind];rw[c];rfl
theorem eg{H:List Ob}{vs:List AV}{us:List Value}(h:BE w F m H vs us):Rep w F m H (single vs) (j6 us):=by
 have b:=Ba h;unfold j6;match vs,us,b with
 |[],[],_=>
  simp only[single]
  unfold Rep
  simp_all
 |[v],[u],_=>
  simp only[single]
  unfold BE at h
  grind
 |v::v'::vs,u::u'::us,_=>
  simp only[single]
  unfold Rep
  simp_all
def Kc:List RS->List Value->List Value
 |.one::r,u::us=>u::Kc r us
 |.agg _::r,u::us=>u.cells.toList++Kc r us
 |_,_=>[]
theorem ti{H:List Ob}:∀ {rs:List RS} {vs:List AV} {us:List Value} {z:List AV},Ge rs vs=some z->BE w F m H vs us ->
  BE w F m H z (Kc rs us)/\(Kc rs us).length=cellsOf rs/\∀ (i:World) (j:Nat->Prop) (k:Mp) (o:List Ob) (g:List AV),BE i j k o g (Kc rs us)->BE i j k o (FA rs g) us:=by
 intro rs;induction rs with
  |nil=>
   intro vs us z h c;cases vs with
    |nil=>simp only[Ge,ASA]at h;subst h;unfold BE at c;subst c;exact⟨Lu,rfl,fun _ _ _ _ _ _=>Lu⟩
    |cons v vs=>simp[Ge]at h
  |cons r rs E=>
   intro vs us z h c;cases vs with
    |nil=>cases r<;>simp[Ge]at h
    |cons v vs=>
     unfold BE at c;obtain⟨u,A,rfl,f,c⟩:=c;cases r with
      |one=>
       simp only[Ge]at h;split at h;rename_i l B;simp only[ASA]at h;subst h;obtain⟨G,C,I⟩:=E B c;refine⟨by simp only[Kc];unfold BE;grind,by simp[Kc,cellsOf,RS.cells,C];omega,fun i j k o g b => ?_⟩;simp only[Kc]at b;cases g with
        |nil=>unfold BE at b;cases b
        |cons x g=>unfold BE at b;obtain⟨y,ys,e,M,N⟩:=b;cases e;simp only[FA,AUv,AT7];unfold BE;grind
       grind
      |agg n=>
       simp only[Ge]at h;split at h;rename_i cs p q;split at h;rename_i K;simp only[ASC]at K;split at h;rename_i l B;simp only[ASA]at h;subst h;obtain⟨G,C,I⟩:=E B c;have J:=cells?_ok q f;have O:=cells?_one q f;have D:=Ba J;have Q:u = .agg u.cells:=by
        cases v<;>simp only[QB]at p<;>try grind
        rename_i t d;unfold Rep Cj at f;rw[ASL p]at f;obtain⟨x,rfl,_⟩:=f;rfl;unfold Rep at f;obtain⟨x,rfl,_⟩:=f;rfl
       refine⟨by simp only[Kc];exact IG J G,by simp[Kc,cellsOf,RS.cells,C]at D |-;omega,fun i j k o g b => ?_⟩;simp only[Kc]at b;have L:=Pc b n;have hd:=GL b n;have s:u.cells.toList.length=n:=by omega
       rw[List.take_left' s]at L;rw[List.drop_left' s]at hd;simp only[FA];unfold BE;refine⟨u,A,rfl,?_,I i j k o _ hd⟩;unfold Rep;grind;grind;grind;grind
end
theorem Cg {P : Program} {g : FuncId} {fn : Func} (hf : P.funcs[g]? = some fn) (hb : fn.body.isSome = true) (hn : (fn.name == "runtime.NumGoroutine") = false) : IL P g := by
 intro args w;obtain⟨c,hc⟩:=ATV.1 hb;have hn' : ¬ fn.name = "runtime.NumGoroutine" := by grind
 simp[callFunc,hf,hn',hc]
theorem M8{P:Program}{np:Nat}{h:Hints}:∀ (c:Code) (n:Nat),loops c=0->Bu P np h c n:=by
 intro c;induction c with
  |seq a b e f=>intro n d;simp only[loops]at d;exact⟨e n (by omega),f _ (by omega)⟩
  |cond c a b e f=>intro n d;simp only[loops]at d;exact⟨e n (by omega),f _ (by omega)⟩
  |block id c g=>intro n d;simp only[loops]at d;exact g n d
  |scope c g=>intro n d;simp only[loops]at d;exact g n d
  |loop c g=>intro n d;simp only[loops]at d;omega
  |_=>intro n _;trivial
section
variable {P:Program} {E:Env} {h:Hints} {g:FuncId} {fn:Func} {c:Code}
theorem iR{w:World}{F:Nat->Prop}{m:Mp}{H:List Ob}{args:List AV}{a:List Value}(d:BE w F m H args a)(n:Nat)(t:Nat):
  Rep w F m H (args.getD t .DK) ((a.toArray++Array.replicate n undef).getD t undef):=by
 have j:=Ba d;have e:(a.toArray++Array.replicate n undef).getD t undef=(a++List.replicate n undef).getD t undef:=by rw[ASq,ASY,<- ATQ];simp
 rw[e,ASY,ASY];rcases AUH t args.length with b|b;rw[AT8 (by omega)];obtain⟨v,k,f⟩:=Da d (i:=t) (c:=args[t]) (ASI b);grind;rw[ATf b];exact(by unfold Rep;trivial:Rep w F m H .DK _)
theorem pe(I:∀ g,BT P g (E.spec g))(J:E8 E)(K:Gv P E)(q:P.funcs[g]? = some fn)(s:fn.body=some c)(L:IL P g)(M:loops c=0):
  BT P g (CZ P E h fn):=by
 intro R args H fz slot k r p;simp only[CZ,s]at p;split at p;cases p;rename_i f;simp only[ASC]at f;obtain⟨e,st',V,W,N⟩:=DV I J K (np:=H.length) c 0 (M8 c 0 M) R _ _ r p;have x:∃ vs,Ed P st' fn.results.toList=some vs/\k (single vs) { heap:=some (st'.heap,st'.frz) }=some r/\(e = .normal\/e = .ret):=by grind
 obtain⟨vs,y,O,Q⟩:=x;refine⟨_,_,O,fun X Y => ?_,L,fun w F m b hi C => ?_⟩;simp only[CZ,s,f,ASU];grind;have j:=Ba C;refine calls_of_wp q s ?_;have z:SI w F m { tmps:=.of args fn.ntmps,heap:=H,frz:=fz } { tmps:=b.toArray++Array.replicate (fn.ntmps-b.toArray.size) undef,defers:=[] }:=by refine⟨fun t => ?_,?_,hi,rfl⟩;have:=iR C (fn.ntmps-args.length) t;simp only[ATb,j];exact this;simp[j,Tm.of];omega
 refine N w F m _ _ z fun D w' l n A a => ?_;obtain⟨us,S,T⟩:=ML A y;have B:BP w F m H fz w' l n st'.heap st'.frz:=⟨⟨a.os,a.tape,a.output,a.size,a.keep,a.sub,a.bnd,a.own,fun i o G q=>a.comp i o (BS G) G q⟩,A.heap⟩
 have d:D.defers=[]/\∃ v,(results fn D.tmps).run P w' = .ok v w'/\(fun(U:Ending) (w':World)=>∃ u,U = .returned u/\∃ l n,BP w F m H fz w' l n (DH { heap:=some (st'.heap,st'.frz) } H) (Fh { heap:=some (st'.heap,st'.frz) } fz)/\Rep w' l n (DH { heap:=some (st'.heap,st'.frz) } H) (single vs) u) (.returned v) w':=
  ⟨A.defers,_,S,_,rfl,l,n,B,eg T⟩
 rcases Q with rfl|rfl<;>exact d
theorem gk{w:World}{F:Nat->Prop}{m:Mp}{H:List Ob}{fz:List Bool}{bs:List Bnd}{r:Mp}{E:St}{val:Nat->Value}(h:Inv w F m H fz bs r E val){j:Nat}{o:Ob}(i:E.heap[j]? = some o):alive o:=by
 have f:=BS i;rw[h.lenH]at f;have s:bs[j]? = some bs[j]:=ASI f;have a:=h.ob j _ s;cases l:bs[j]with
  |none=>rw[l]at a;simp only[CA]at a;obtain⟨_,⟨T,e,p,_⟩|⟨T,e,p⟩⟩:=a<;>(rw[i]at p;cases p;trivial)
  |whole id=>rw[l]at a;simp only[CA]at a;rcases a.2 with⟨T,t,xs,_,d,_⟩|⟨k,v,x,_,d⟩|⟨cs,u,b,c,vs,T,_,d,_⟩|⟨_,_,_,_,_,d,_⟩|⟨_,_,_,_,_,_,d,_⟩<;>(rw[i]at d;cases d;trivial)
  |cut id=>rw[l]at a;simp only[CA]at a;obtain⟨T,t,xs,n,_,_,q,_⟩:=a;rw[i]at q;cases q;trivial
theorem F_{st:St}(h:st.heap.all CF=true)(v:AV)(l:Loc):(place st v l).heap.all CF=true:=by
 cases l with
  |cell j c=>simp only[place];split;rw[ASd]at h |-;intro o a;rcases List.mem_or_eq_of_mem_set a with b|rfl;grind;rfl;omega
  |_=>exact h
theorem LK{st:St}(h:st.heap.all CF=true){o:Ob}(a:CF o=true):(E6 st o).heap.all CF=true:=by simp[E6,h,a]
theorem ABe:∀ (a:A0) (d:Bf (leaves a)) (st:St),HD a=true->st.heap.all CF=true->(enc a d st).heap.all CF=true:=by
 intro a;induction a with
  |nil=>intro d st _ h;exact h
  |cons p r f=>
   intro d st b h;obtain⟨l,c⟩:=p;cases c with
    |rows T e t=>simp[HD]at b
    |mrows j e t=>simp[HD]at b
    |aptr T e n=>exact f _ _ b (F_ (LK h rfl) _ _)
    |own T e=>exact f _ _ b (F_ (LK h rfl) _ _)
    |box n=>exact f _ _ b (F_ (LK h rfl) _ _)
    |map k v=>exact f _ _ b (F_ (LK h rfl) _ _)
    |prs T j=>exact f _ _ b (F_ (LK h rfl) _ _)
    |_=>exact f _ _ b (F_ h _ _)
theorem PC{a:A0}{d:Bf (leaves a)}{n:Nat}(b:HD a=true){j:Nat}{o:Ob}(h:(encode n a d).heap[j]? = some o):CF o=true:=
 ASd.1 (ABe a d (blank n) b rfl) o (ASJ h)
theorem oL{a:A0}{d:Bf (leaves a)}{n:Nat}(e:HD a=true){fz:List Bool}{x:Ix}(h:owned (encode n a d).heap fz x):x = .o x.id:=by
 cases x with
  |o i=>rfl
  |r i k=>obtain⟨o,b,_⟩:=EK h;exact absurd h (GA b (PC e b))
theorem W0{np:Nat}{outs:A0}{rs:List RS}{st:St}{y:Bf (leaves outs)}(h:finish np P fn outs rs st=some y):
  ∃ vs a bs b,Ed P st fn.results.toList=some vs/\Ge rs vs=some a/\dec (lk a) st.heap outs st.frz []=some (y,bs,b)/\(pins np 0 bs&&(st.heap.take np).all CF)=true:=by unfold finish at h;grind
theorem TT{R:Type}{r:R}{l:List Nat}{bs:List Bnd}{m:List Nat}{rs:List RS}{X:St}{ids:List Nat}{H:List Ob}{fz:List Bool}{k:AV->Eff->Option R}(d:J5 R l bs m rs X ids H fz k=some r):
  ∃ e,k (single (FA rs (J' ids X.tmps.list))) e=some r/\e.heap=none/\e.objs=l.map (fun i=>(i,.dead))++ids.zip (X.heap.map (El ids)) /\
   (∀ f (j:AV->Eff->Option f),J5 f l bs m rs X ids H fz j=j (single (FA rs (J' ids X.tmps.list))) e) /\
   Gb H (BJ e.frz fz) ids bs=true/\Jb ids=true /\
   ((e.frz=[]/\Kd X.tmps.list=true/\X.heap.all OM=true)\/e.frz=m):=by unfold J5 at d;split at d;rename_i a;split at d;rename_i b;simp only[ASB]at b a;refine⟨_,d,rfl,rfl,fun f j=>by simp only[J5,a.1,a.2,b.1,b.2,ATl],b.1,b.2,.inl ⟨rfl,a.1,a.2⟩⟩;grind;rename_i a;split at d;rename_i b;simp only[ASB]at b;refine⟨_,d,rfl,rfl,fun f j=>by simp only[J5,a,b.1,b.2,ATl],b.1,b.2,.inr rfl⟩;grind
theorem RP{w:World}{F:Nat->Prop}{m:Mp}{H:List Ob}{fz:List Bool}{args:List AV}{a:List Value}{l:Nat}{b:A0}{x:Bf (leaves b)}{bs:List Bnd}{j:List Nat}(hi:HI w F m H fz)(n:BE w F m H args a)(p:args.length=l)(q:l<=fn.ntmps)(f:dec (lk args) H b fz []=some (x,bs,j)):
  ∃ e i,BP w F m H fz w e m H (BJ j fz)/\Inv w e m H (BJ j fz) bs i (encode fn.ntmps b x) (fun t=>(a.toArray++Array.replicate (fn.ntmps-a.toArray.size) undef).getD t undef) /\
   SI w e i (encode fn.ntmps b x) { tmps:=a.toArray++Array.replicate (fn.ntmps-a.toArray.size) undef,defers:=[] }:=by
 have r:=Ba n
 obtain⟨e,i,o,d,_⟩:=wx (val:=fun t=>(a.toArray++Array.replicate (fn.ntmps-a.toArray.size) undef).getD t undef) b fz [] F (fun _=>none) (blank fn.ntmps) x bs j hi
  (fun t v s=>by
   have:=iR n (fn.ntmps-a.toArray.size) t
   rw[ASY,show args[t]? = some v from s]at this
   grind) (Inv.blank fn.ntmps) f
 have k:SI w e i (encode fn.ntmps b x) { tmps:=a.toArray++Array.replicate (fn.ntmps-a.toArray.size) undef,defers:=[] }:=by refine⟨d.tmps,?_,d.hi o.2,rfl⟩;rw[OQ];grind
 exact⟨e,i,o,d,k⟩
theorem cG{w:World}{F:Nat->Prop}{m:Mp}{H:List Ob}{fz:List Bool}{val:Nat->Value}{np n:Nat}{f outs:A0}{rs:List RS}{x:Bf (leaves f)}{y:Bf (leaves outs)}{bs B:List Bnd}{O R:List Nat}{F2:Nat->Prop}{S:Mp}{slot:Nat}{e:Eff}{ids gv:List Nat}
  (hi:HI w F m H fz) (gA:BP w F m H fz w F2 m H (BJ O fz)) (r:Inv w F2 m H (BJ O fz) bs S (encode n f x) val)
  (q:bs.all Bnd.xr=true) (L:HD f=true) (U:HD outs=true) (V:Dc (Dz outs) (bs.take np) slot=ids) (hgv:given (bs.drop np)=gv)
  (W:e.heap=none) (he2:e.objs=gv.map (fun i=>(i,.dead))++ids.zip ((encode (cellsOf rs) outs y).heap.map (El ids))) (hok:Gb H (BJ e.frz fz) ids (bs.take np)=true) (hnd:Jb ids=true)
  (hfl:(e.frz=[]/\Kd (encode (cellsOf rs) outs y).tmps.list=true/\(encode (cellsOf rs) outs y).heap.all OM=true)\/e.frz=O)
  {w':World} {M:Nat->Prop} {Q:Mp} {st':St} (s1h:HI w' M Q st'.heap st'.frz) (z:IU np w F2 S (encode n f x).heap (encode n f x).frz w' M Q st'.heap st'.frz)
  {vs:List AV} {us:List Value} {tm:List AV} (r2:BE w' M Q st'.heap vs us) (htm:Ge rs vs=some tm) (hd':dec (lk tm) st'.heap outs st'.frz []=some (y,B,R)) (hp:pins np 0 B=true) :
  ∃ M Q,BP w F m H fz w' M Q (DH e H) (Fh e fz)/\Rep w' M Q (DH e H) (single (FA rs (J' ids (encode (cellsOf rs) outs y).tmps.list))) (j6 us):=by
 obtain⟨q1,q2,q3⟩:=ti htm r2
 obtain⟨F3,X,gC,d,_⟩:=wx (val:=fun t=>(Kc rs us).getD t undef) outs st'.frz [] M (fun _=>none) (blank (cellsOf rs)) y B R s1h
  (fun t v ht=>by
   obtain⟨u,hu,hru⟩:=Da q1 ht
   grind) (Inv.blank (cellsOf rs)) hd'
 have Y:∀ {j:Ix} {b c},owned (encode n f x).heap (encode n f x).frz j->S j=some (b,c)->∃ id:Nat,bs[j.id]? = some (.whole id)/\owned H (BJ O fz) id/\m id=some (b,c):=by
  intro j b c A C;have D:=oL L A;obtain⟨y,id,k1,k2,k3,k4⟩:=r.src A C;rw[D]at k3 k4;rw[ASd]at q;have:=q y (ASJ k1);cases y with
   |none=>simp[Bnd.id?]at k2
   |whole i=>simp only[Bnd.id?,ASA]at k2;subst k2;exact⟨_,k1,k3,k4⟩
   |cut i=>simp[Bnd.xr]at this
 have Z:∀ (i j id:Nat),bs[i]? = some (.whole id)->bs[j]? = some (.whole id)->i=j:=fun i j id h1 h2=>r.inj i j _ _ id h1 h2 rfl rfl;have s:∀ (j id:Nat),bs[j]? = some (.whole id)->S j=m id/\∃ o o0,H[id]? = some o/\alive o/\(encode n f x).heap[j]? = some o0/\sameShape o o0/\alive o0/\owned H (BJ O fz) id:=by
  intro j id D;have hA:=r.ob j _ D;simp only[CA]at hA;obtain⟨eA,hA⟩:=hA;refine⟨eA,?_⟩;rcases hA with⟨T,t,xs,p,l,a3⟩|⟨k,v,es,p,l⟩|⟨cs,cs',b,cc,vs,T,p,l,_⟩|⟨_,_,_,_,p,l,_⟩|⟨_,_,_,_,_,_,l,_⟩
  exact⟨_,_,p,trivial,l,⟨rfl,rfl⟩,trivial,Z5 p trivial a3⟩;exact⟨_,_,p,trivial,l,trivial,trivial,by simp only[owned,Cs];grind⟩;rotate_left;exact⟨_,_,p,trivial,l,rfl,trivial,by simp only[owned,Cs];grind⟩;exact absurd (PC L l) (by simp[CF]);exact⟨_,_,p,trivial,l,trivial,trivial,by simp only[owned,Cs];grind⟩
 have I:∀ (j id:Nat),(bs.take np)[j]? = some (.whole id)->∃ o J,H[id]? = some o/\alive o/\(encode (cellsOf rs) outs y).heap[j]? = some J/\sameShape o J/\X j=m id:=by
  intro j id G;rw[AUb]at G;split at G;case isFalse=>cases G
  rename_i hjn;obtain⟨eA,o,o0,s1,s2,s3,s4,s5,s6⟩:=s j id G;have hC:=d.ob j _ (by have:=oM _ 0 B hp j hjn;rw[ATE]at this;exact this);simp only[CA]at hC;obtain⟨eC,hC⟩:=hC;have mid:=z.comp j o0 hjn s3 (r6 s5).1;have fin:∃ o2 J,st'.heap[j]? = some o2/\alive o2/\(encode (cellsOf rs) outs y).heap[j]? = some J/\sameShape o2 J:=by
   rcases hC with⟨T,t,xs,p,l,a3⟩|⟨k,v,es,p,l⟩|⟨cs,cs',b,cc,vs,T,p,l,_⟩|⟨_,_,_,_,p,l,_⟩|⟨_,_,_,_,_,_,l,_⟩
   exact⟨_,_,p,trivial,l,⟨rfl,rfl⟩⟩;exact⟨_,_,p,trivial,l,trivial⟩;rotate_left;exact⟨_,_,p,trivial,l,rfl⟩;exact absurd (PC U l) (by simp[CF]);exact⟨_,_,p,trivial,l,trivial⟩
  obtain⟨o2,J,t1,t2,t3,t4⟩:=fin;rcases mid with md|⟨_,o2',md1,md2,md3,_⟩
  grind;rw[t1]at md1;cases md1;exact⟨o,J,s1,s2,t3,(s4.trans md2).trans t4,by grind⟩
 have K:=d.hi gC.2;have hblk:∀ j b cc:Nat,owned (encode (cellsOf rs) outs y).heap (encode (cellsOf rs) outs y).frz j->X j=some (b,cc)->(∃ id c':Nat,(bs.take np)[j]? = some (.whole id)/\m id=some (b,c'))\/(∃ k id c':Nat,np<=k/\bs[k]? = some (.whole id)/\m id=some (b,c'))\/w.heap.size<=b:=by
  intro j b cc A C;obtain⟨_,i',k1,k2,k3,k4⟩:=d.src A C;rcases z.own i' b cc (MR k3) k4 with⟨i,c0,l1,l2⟩|h;obtain⟨id,n1,n2,n3⟩:=Y l1 l2;have hio:=oL L l1;generalize i.id=i0 at n1 hio;subst hio;rcases AUH i0 np with hin|hin;left;have n1':(bs.take np)[i0]? = some (.whole id):=by grind
  obtain⟨o,J,p1,p2,p3,p4,p5⟩:=I i0 id n1';have hoi:owned (encode (cellsOf rs) outs y).heap (encode (cellsOf rs) outs y).frz i0:=Z5 p3 (gk d p3) (d.frz i0);by_cases hij:j=i0;grind;exact absurd rfl (K.sep j i0 b cc b c0 A hoi (ANM hij) C (by grind));grind;omega
 have N:∀ b,b<w.heap.size->(∀ (j id:Nat) (c:Nat),bs[j]? = some (.whole id)->m id≠some (b,c))->w'.heap[b]? = w.heap[b]? := by intro b hb hn;refine z.keep b hb fun i cc A C => ?_;grind
 have hbnd:∀ b,F3 b->F2 b\/(∃ (j id c:Nat),bs[j]? = some (.whole id)/\m id=some (b,c))\/w.heap.size<=b:=by
  have hx:∀ {i:Ix} {b cc:Nat},owned (encode n f x).heap (encode n f x).frz i->S i=some (b,cc)->∃ (j id c:Nat),bs[j]? = some (.whole id)/\m id=some (b,c):=by grind
  intro b hb;rcases gC.1.bnd b hb with h|⟨i,cc,A,C⟩|h;·rcases z.bnd b h with h|⟨i,cc,A,C⟩|h;all_goals grind
  ·rcases z.own i b cc A C with⟨i',c0,A,C⟩|h;all_goals grind
  grind
 have hidl:ids.length=(encode (cellsOf rs) outs y).heap.length:=by rw[<- V,ADU];unfold encode;rw[AJx];simp[blank]
 obtain⟨FR,hFR,hRR⟩:∃ FR,((FR=F/\BJ e.frz fz=fz/\(encode (cellsOf rs) outs y).heap.all OM=true)\/(FR=F3/\BJ e.frz fz=BJ O fz))/\BE w' FR X (encode (cellsOf rs) outs y).heap (encode (cellsOf rs) outs y).tmps.list (Kc rs us):=by
  have hrt:BE w' F3 X (encode (cellsOf rs) outs y).heap (encode (cellsOf rs) outs y).tmps.list (Kc rs us):=by refine EU (by rw[Tm.AIj,OQ,q2]) fun i a u ha hu => ?_;have:=d.tmps i;rw[ASY,hu]at this;rw[Tm.AIk ha];exact this
  rcases hfl with⟨f1,f2,f3⟩|f1;exact⟨F,.inl ⟨rfl,by rw[f1];rfl,f3⟩,BE.flat _ f2 hrt⟩;grind
 obtain⟨hgo,hmv⟩:=AEy (ids:=ids) (np:=np) hi gA (fun j id D=>(s j id D).2.elim fun _ h=>h.elim fun _ h=>h.2.2.2.2.2) Z I hblk z.os z.tape z.output z.size N (fun b h=>gC.1.sub b (z.sub b h)) hbnd K (fun j o D=>gk d D) (fun j o D=>PC U D) d.frz hidl hok hnd hFR;rw[hgv]at hgo hmv;have hH:DH e H=Bs (ids.zip ((encode (cellsOf rs) outs y).heap.map (El ids))) (EN gv H):=by rw[DQ W,he2,Wa];rfl
 have hZ:Fh e fz=BJ e.frz fz:=Dj W fz;refine⟨FR,mOf ids X m,?_,?_⟩;grind;rw[hH];exact eg (q3 _ _ _ _ _ (BE.ren hmv _ hRR))
theorem ACe(hE:∀ g,BT P g (E.spec g))(hL:E8 E)(hP:Gv P E)(hf:P.funcs[g]? = some fn)(Y:fn.body=some c)(hc:IL P g)
  {np Z:Nat} (G:Z<=fn.ntmps) {n outs:A0} {rs:List RS} {f:Bf (leaves n)->Option (Bf (leaves outs))} (q:∀ x,f x=EJ np P E h fn n outs rs x) (hl:Bu P np h c 0) :
  BT P g (Bc np Z n outs rs f):=by
 intro R args H fz slot k r d;simp only[Bc]at d;split at d;cases d;rename_i x bs fr i;split at d;cases d;rename_i j;simp only[ASB,ASC]at j;obtain⟨⟨⟨a,I⟩,s⟩,t,z⟩:=j;split at d;cases d;rename_i y p;generalize l:Dc (Dz outs) (bs.take np) slot=ids at d;generalize A:given (bs.drop np)=gv at d;obtain⟨e,h4,J,K,h5,L,M,N⟩:=TT d;refine⟨_,e,h4,fun R' k' => ?_,hc,fun w F m vals hi hr => ?_⟩;simp only[Bc,i,a,I,s,t,z,p,ASU,ATl,l,A];grind;have hlv:=Ba hr;rw[q x]at p;unfold EJ at p;rw[Y]at p;simp only at p;obtain⟨ex,st',g1,_,g3⟩:=DV hE hL hP c 0 hl _ _ _ _ p;have b:finish np P fn outs rs st'=some y/\(ex = .normal\/ex = .ret):=by grind
 obtain⟨b,O⟩:=b;obtain⟨vs,tm,bs',fr',Q,S,T,D⟩:=W0 b;rw[ASB]at D;replace D:=D.1;refine calls_of_wp hf Y ?_;obtain⟨F2,m2,gA,B,U⟩:=RP hi hr s G i;refine g3 w F2 m2 _ _ U fun a' w' V W X x1 => ?_;obtain⟨us,r1,r2⟩:=ML X Q;have C:=cG hi gA B a t z l A J K L M N X.heap x1 r2 S T D
 have o:a'.defers=[]/\∃ v,(results fn a'.tmps).run P w' = .ok v w'/\(fun(en:Ending) (w':World)=>∃ u,en = .returned u/\∃ V W,BP w F m H fz w' V W (DH e H) (Fh e fz)/\Rep w' V W (DH e H) (single (FA rs (J' ids (encode (cellsOf rs) outs y).tmps.list))) u) (.returned v) w':=
  ⟨X.defers,_,r1,_,rfl,C⟩
 rcases O with rfl|rfl<;>exact o
end
def KS:Code->Nat->Option Code
 |.seq a b,n=>match KS a n with
  |some c=>some c
  |none=>KS b (n-loops a)
 |.cond _ a b,n=>match KS a n with
  |some c=>some c
  |none=>KS b (n-loops a)
 |.block _ c,n=>KS c n
 |.scope c,n=>KS c n
 |.loop c,n=>match n with
  |0=>some c
  |n+1=>KS c n
 |_,_=>none
def CN(f:Func):Code:=match f.body with
 |some c=>c
 |none=>.skip
def De(f:Func)(n:Nat):Code:=(KS (CN f) n).getD .skip
def Co:Code->Nat->List (Nat×Code)
 |.seq a b,n=>Co a n++Co b (n+loops a)
 |.cond _ a b,n=>Co a n++Co b (n+loops a)
 |.block _ c,n=>Co c n
 |.scope c,n=>Co c n
 |.loop c,n=>[(n,c)]
 |_,_=>[]
def g9(P:Program)(np:Nat)(h:Hints):List (Nat×Code)->Prop
 |[]=>True
 |p::l=>J_ P np (.loop p.2) (h.loop p.1)/\g9 P np h l
theorem g8{P:Program}{np:Nat}{h:Hints}:∀ {a b:List (Nat×Code)},g9 P np h (a++b)->g9 P np h a/\g9 P np h b:=by
 intro a;induction a with
  |nil=>exact fun h=>⟨trivial,h⟩
  |cons p a c=>intro b h;exact⟨⟨h.1,(c h.2).1⟩,(c h.2).2⟩
theorem sF{P:Program}{np:Nat}{h:Hints}:∀ (c:Code) (n:Nat),g9 P np h (Co c n)->Bu P np h c n:=by
 intro c;induction c with
  |seq a b e f=>intro n d;have:=g8 d;exact⟨e n this.1,f _ this.2⟩
  |cond c a b e f=>intro n d;have:=g8 d;exact⟨e n this.1,f _ this.2⟩
  |block id c g=>intro n d;exact g n d
  |scope c g=>intro n d;exact g n d
  |loop c g=>intro n d;exact d.1
  |_=>intro n _;trivial
theorem E7{P:Program}{np:Nat}{h:Hints}{c:Code}{n:Nat}{l:List (Nat×Code)}(e:Co c n=l)(a:g9 P np h l):Bu P np h c n:=sF c n (by grind)
def Bp(P:Program)(E:Env):Prop:=(∀ g,BT P g (E.spec g))/\E8 E/\Gv P E
def Env.none:Env:={ spec:=fun _ _ _ _ _ _ _=>Option.none,loc:=fun _=>false,HJ:=fun _=>true }
theorem Env.ANN{P:Program}:Bp P Env.none:=⟨fun g R args H fz slot k r h=>by simp[Env.none]at h,⟨fun g h=>by simp[Env.none]at h,fun g _ R args H H' fz fz' slot k S _ _ _=>rfl⟩,fun g s h=>by cases h⟩
def Env.ext(E:Env)(g:FuncId)(loc HJ:Bool)(s:Spec):Env where
 spec x:=match Nat.beq x g with
  |true=>s
  |false=>E.spec x
 loc x:=match Nat.beq x g with
  |true=>loc
  |false=>E.loc x
 HJ x:=match Nat.beq x g with
  |true=>HJ
  |false=>E.HJ x
 pan x:=match Nat.beq x g with
  |true=>.none
  |false=>E.pan x
theorem Env.Ce{P:Program}{E:Env}{g:FuncId}{loc HJ:Bool}{s:Spec}(h:Bp P E)(e:BT P g s)(f:loc=true->Ha s)(c:HJ=true->Iu s):Bp P (E.ext g loc HJ s):=by
 refine⟨?_,⟨?_,?_⟩,fun x d a => ?_⟩;intro x;simp only[Env.ext];cases a:Nat.beq x g with
  |true=>simp_all
  |false=>exact h.1 x
 intro x a;simp only[Env.ext]at a |-;cases b:Nat.beq x g with
  |true=>grind
  |false=>rw[b]at a;exact h.2.1.1 x a
 intro x a;simp only[Env.ext]at a |-;cases b:Nat.beq x g with
  |true=>grind
  |false=>rw[b]at a;exact h.2.1.2 x a
 simp only[Env.ext]at a |-;cases b:Nat.beq x g with
  |true=>grind
  |false=>rw[b]at a;exact h.2.2 x d a
section
variable {P:Program} {E:Env} {h:Hints} {g:FuncId} {fn:Func}
theorem Gq(a:fn.body.isSome=true):fn.body=some (CN fn):=by unfold CN;grind
theorem I_ (hE : Bp P E) (hf : P.funcs[g]? = some fn) (hb : fn.body.isSome = true) (hn : (fn.name == "runtime.NumGoroutine") = false)
  {np na:Nat} (hna:(Nat.ble na fn.ntmps)=true) {its outs:A0} {rs:List RS} {f:Bf (leaves its)->Option (Bf (leaves outs))} (hfun:∀ x,f x=EJ np P E h fn its outs rs x) (hl:Bu P np h (CN fn) 0) :
  BT P g (Bc np na its outs rs f):=
 ACe hE.1 hE.2.1 hE.2.2 hf (Gq hb) (Cg hf hb hn) (AS9 hna) hfun hl
theorem CD (hE : Bp P E) (hf : P.funcs[g]? = some fn) (hb : fn.body.isSome = true) (hn : (fn.name == "runtime.NumGoroutine") = false) (hl : loops (CN fn) = 0) : BT P g (CZ P E h fn) :=
 pe hE.1 hE.2.1 hE.2.2 hf (Gq hb) (Cg hf hb hn) hl
theorem SY{f:Hints}(d:Bp P E){np i n:Nat}{a:Code}{b:A0}{e:BI}{stp:Bf (leaves b)->Option (Bf (leaves b)⊕cb e)}
  (c:∀ v,stp v=roundOf P E f n np i a b e v) (j:Bu P np f a n):J_ P np (.loop a) (MY np i b e stp):=ADB d.1 d.2.1 d.2.2 c j
def bf:A0->Bool
 |[]=>true
 |(.tmp _,.dat _)::r=>bf r
 |_::_=>false
theorem AEP{H H':List Ob}{d:List AV}(j:∀ id∈B4 d,H[id]? = H'[id]?):∀ (b:A0) (fz fz':List Bool),bf b=true->dec (lk d) H b fz []=dec (lk d) H' b fz' []:=by
 intro b;induction b with
  |nil=>intro fz fz' _;rfl
  |cons p r k=>
   intro fz fz' hd;obtain⟨l,c⟩:=p;cases l<;>cases c<;>simp only[bf]at hd<;>try (cases hd;done)
   rename_i t ty;simp only[dec,look];cases f:lk d t with
    |none=>rfl
    |some v=>
     have e:∀ id∈BQ v,H[id]? = H'[id]? := fun id i=>j id (by
      clear k hd j;unfold lk at f;induction d generalizing t with
       |nil=>grind
       |cons a d m=>
        cases t with
         |zero=>simp at f;subst f;simp[B4,i]
         |succ t=>simp only[B4,ASF];grind)
     simp only;rw[XH ty v e];grind
theorem ADS:∀ (n slot:Nat),Dc n [] slot=List.range' slot n:=by
 intro n;induction n with
  |zero=>intro slot;rfl
  |succ n a=>intro slot;simp only[Dc,AT4];rw[a]
theorem Wv{H H':List Ob}{fz fz':List Bool}:∀ (ids:List Nat),(∀ i∈ids,Bd H fz i=Bd H' fz' i)->Gb H fz ids []=Gb H' fz' ids []:=by
 intro ids;induction ids with
  |nil=>intro _;rfl
  |cons a ids b=>intro h;simp only[Gb,List.tail_nil];grind
theorem wy{H:List Ob}{e:List AV}:∀ (a:A0) (fz:List Bool) (bs:List Bnd) (x:Bf (leaves a)) (b:List Bnd) (d:List Nat),bf a=true->dec (lk e) H a fz bs=some (x,b,d)->b=bs:=by
 intro a;induction a with
  |nil=>intro fz bs x b d _ h;simp only[dec,ASA]at h;grind
  |cons p r f=>
   intro fz bs x b d hd h;obtain⟨l,c⟩:=p;cases l<;>cases c<;>simp only[bf]at hd<;>try (cases hd;done)
   simp only[dec]at h;grind
theorem MV{np l:Nat}{a outs:A0}{rs:List RS}{f:Bf (leaves a)->Option (Bf (leaves outs))}(hd:bf a=true)(m:Nat.ble (Dz outs) 4=true):Ha (Bc np l a outs rs f):=by
 intro R args H H' fz fz' slot k e;unfold Bc;rw[AEP e.heap a fz fz' hd];split;rfl;rename_i x bs j c;have d:=wy a fz' [] x bs j hd c;subst d;split;rfl;split;rfl;rename_i y n;simp only[List.take_nil,List.drop_nil];have b:∀ (g:List Nat) (i:Nat),i∈Dc (Dz outs) [] slot->Bd H (BJ g fz) i=Bd H' (BJ g fz') i:=by intro g i hi;rw[ADS,List.mem_range'_1]at hi;have:=AS9 m;exact FI e hi.1 (by omega) g
 unfold J5;rw[show Gb H fz (Dc (Dz outs) [] slot) []=Gb H' fz' (Dc (Dz outs) [] slot) []from Wv _ (b []),Wv _ (b j)]
end
def lW{α:Type}(xs:List α):Option (List α):=match qS (A4 xs)with
 |true=>some xs
 |false=>none
def M6[Lk]{α:Type}(xs:List α):Option (List α):=Lk.f (lW xs)
theorem gX{α:Type}(xs:List α):M6 xs=lW xs:=A1 _
noncomputable def Eh[Lk](e:TypeId)(t:Ty):Spec:=fun R args H fz slot k=>
 match args with
 |[x]=>match GM H (.slice t) x with
  |some (xs,_)=>match(M6 xs:Option (List t.den))with
   |none=>none
   |some y=>(match Bd H fz slot with|true=>k (.own slot) { objs:=[(slot,.arr e t y)] }|false=>none)
  |none=>none
 |_=>none
def Wp:Code->Nat->List Oper
 |.region id ops _,n=>if id=n then ops.toList else []
 |.seq a b,n=>Wp a n++Wp b n
 |.cond _ a b,n=>Wp a n++Wp b n
 |.block _ c,n=>Wp c n
 |.scope c,n=>Wp c n
 |.loop c,n=>Wp c n
 |_,_=>[]
def CY(fn:Func)(n i:Nat):Oper:=((Wp (CN fn) n)[i]?).getD default
structure Hb(P:Program)(fn:Func)(T e:TypeId)(t:Ty):Prop where
 body:fn.body=some (.seq (.region 0 #[CY fn 0 0] false) (.seq (.seq (.region 1 #[CY fn 1 0,CY fn 1 1] false) (.cond (.tmp 4) (.seq (.region 2 #[CY fn 2 0] false) .ret) .skip)) (.seq (.region 3 #[CY fn 3 0,CY fn 3 1,CY fn 3 2,CY fn 3 3] false) .ret)))
 nt:fn.ntmps=8
 res:fn.results = #[.tmp 2]
 d:(CY fn 0 0).dst=some 2/\(CY fn 1 0).dst=some 3/\(CY fn 1 1).dst=some 4/\(CY fn 2 0).dst=some 2/\(CY fn 3 0).dst=some 5/\(CY fn 3 1).dst=some 6/\(CY fn 3 2).dst=some 7/\(CY fn 3 3).dst=some 2
 g:(CY fn 0 0).guard=none/\(CY fn 1 0).guard=none/\(CY fn 1 1).guard=none/\(CY fn 2 0).guard=none/\(CY fn 3 0).guard=none/\(CY fn 3 1).guard=none/\(CY fn 3 2).guard=none/\(CY fn 3 3).guard=none
 o00:(CY fn 0 0).op = .assign (.const (.slice none 0 0))
 o10:(CY fn 1 0).op = .move (.tmp 0)
 o11:(CY fn 1 1).op = .binOp .eql T (.tmp 3) (.const (.slice none 0 0)) T
 o20:(CY fn 2 0).op = .assign (.const (.slice none 0 0))
 o30:(CY fn 3 0).op = .buildSlice T 0 #[]
 o31:(CY fn 3 1).op = .move (.tmp 0)
 o32:(CY fn 3 2).op = .call { callee:=.builtin .append,args:=#[.tmp 5,.tmp 6],argTypes:=#[T,T] }
 o33:(CY fn 3 3).op = .assign (.tmp 7)
 sl:sliceAt P T=some (e,t)
 z:(zeroAt P e).isSome=true
 by1:(P.info? e).map (fun i=>decide (i.bytes<=1024))=some true
section
variable {P:Program} {g:FuncId}
theorem DF{ops:Array Oper}{Q:Exit->Act->World->Prop}{i:Nat}{b:List Nat}{a:Act}{w:World}{o:Oper}(c:ops[i]? = some o)(d:o.guard=none)(h:o.wp P a w (wpOps P ops Q b) Q):wpOps P ops Q (i::b) a w:=by simp only[wpOps,c];rw[ASL (by simp[Region.wanted,d])];grind
theorem C2{o:Oper}{a:Act}{w w':World}{next:Act->World->Prop}{Q:Exit->Act->World->Prop}{u:Value}(h:(execOp a.eval o).run P w = .ok (.value u) w')(b:next (a.put o.dst u) w'):o.wp P a w next Q:=by unfold Oper.wp;rw[h];exact b
variable {fn:Func} {T e:TypeId} {t:Ty}
theorem Le{P:Program}{w:World}{ρ:Operand->Value}{o:Oper}{x:Operand}(h:o.op = .move x):(execOp ρ o).run P w = .ok (.value (ρ x)) w:=by simp[execOp,h]
theorem H_{P:Program}{w:World}{ρ:Operand->Value}{o:Oper}{x:Operand}(h:o.op = .assign x):(execOp ρ o).run P w = .ok (.value (ρ x)) w:=by simp[execOp,h]
theorem Od (hs : Hb P fn T e t) (hf : P.funcs[g]? = some fn) (hn : (fn.name == "runtime.NumGoroutine") = false) : BT P g (Eh e t) := by
 intro R args H fz slot k r hk;unfold Eh at hk;split at hk;rename_i x;split at hk;rename_i xs fr hx;split at hk;cases hk;rename_i y hy;split at hk;rename_i hfree;refine⟨_,_,hk,fun R' k'=>by simp only[Eh,hx,hy,hfree],Cg hf (by rw[hs.body];rfl) hn,fun w F m vals hi hr => ?_⟩;rw[gX]at hy;unfold lW at hy;split at hy;rename_i hfit;simp only[ASA]at hy;subst hy;have hr0:=hr;unfold BE at hr;obtain⟨v,vs',rfl,hrv,hnil⟩:=hr;unfold BE at hnil;subst hnil;obtain⟨hu,hty0,hpos⟩:=Cx hs.sl;obtain⟨zz,hzz⟩:=ATV.1 hs.z;obtain⟨t',cs'⟩:=zz;obtain⟨hty',hcs',i,z,hi0,hz0,hok,hsz,hza⟩:=Cf hzz;subst hcs';have:t'=t:=by grind
 subst this;have hzs:z.cells.size=i.size:=by have hzd:=CU (w:=default) (F:=fun _=>False) t' _ hok;rw[hsz,<- ASe];exact Dat.length t' hzd
 have hby':i.bytes<=1024:=by simpa [hi0]using hs.by1
 obtain⟨A,c,rfl,q2,q3,news,q4,q5⟩:=E4 hi hx hrv;have hfit':xs.length<=4294967296:=by have:(xs.length:Int)<=4294967296:=(VR _).1 hfit;omega
 refine calls_of_wp hf hs.body ?_;obtain⟨d0,d1,d2,d3,d4,d5,d6,d7⟩:=hs.d;obtain⟨g0,g1,g2,g3,g4,g5,g6,g7⟩:=hs.g;have hres:∀ (tm:Array Value) (w0:World),(results fn tm).run P w0 = .ok (tm.getD 2 undef) w0:=fun tm w0=>by simp[results,hs.res]
 refine wp_seq (wp_region ?_);simp only[ATb,ASK,ASV,ASi,AUe,AS1];refine DF (by rfl) g0 (C2 (H_ hs.o00) ?_);refine wp_seq (wp_seq (wp_region ?_));simp only[ATb,ASK,ASV,ASi,AUe,AS1,ASl];refine DF (by rfl) g1 (C2 (Le hs.o10) ?_);refine DF (by rfl) g2 (C2 (u:=.bool A.isNone) (w':=w) (by simp[execOp,hs.o11,Act.eval,Act.put,d0,d1,hs.nt,eqGuard,Lib.run_eql_slice_nil _ _ _ _ _ _ _ _ hu]) ?_);cases A with
  |none=>
   have hxs:xs=[]:=by grind
   subst hxs;refine wp_cond_true (by simp[Act.eval,Act.put,d0,d1,d2,hs.nt]) ?_;refine wp_seq (wp_region ?_);simp only[ATb,ASK,ASV,ASi,AUe,AS1];refine DF (by rfl) g3 (C2 (H_ hs.o20) ?_);refine wp_ret ?_;refine⟨by simp[Act.put,d0,d1,d2,d3],_,hres _ _,?_⟩;obtain⟨m',hg,hrep⟩:=Ez (w:=w) hi hfree e hpos none;refine⟨_,rfl,F,m',hg,?_⟩;show Rep _ _ _ (H.set slot _) _ _;simpa [Act.put,Act.eval,d0,d1,d2,d3,hs.nt]using hrep
  |some ad=>
   refine wp_cond_false (by simp[Act.eval,Act.put,d0,d1,d2,hs.nt]) ?_;refine wp_skip ?_;refine wp_seq (wp_region ?_);simp only[ATb,ASK,ASV,ASi,AUe,AS1,ASl];refine DF (by rfl) g4 (C2 (u:=.slice (some ⟨w.heap.size,0,none⟩) 0 0) (w':=w.alloc (.cells #[] e)) (by have:=JP (P:=P) (w:=w) (len:=0) (parts:=#[]) (us:=#[]) hu hi0 hz0 hsz (by omega) (by simp[Instr.fill]);simp[execOp,hs.o30,this]) ?_)
   refine DF (by rfl) g5 (C2 (Le hs.o31) ?_);have hga:=BP.grow (w':=w.alloc (.cells #[] e)) hi rfl rfl rfl (by simp) (fun b hb=>Below.heap_alloc w _ b hb)
   obtain⟨v,w',m',hrun,hg,hrep⟩:=Gs (P:=P) (T:=T) (ty:=(CY fn 3 2).type) hga.2 hfree hu hi0 hz0 hzs hsz hpos hby' hfit' (some ⟨w.heap.size,0,none⟩) (A:=some ad) (c:=c) (ys:=xs) (news:=news) (fun _=>rfl)
    (B_ (fun x _ cs hx=>hx.mono (fun a ha=>by simp[World.cell?,Below.heap_alloc w _ _ (hi.lt _ ha)]) (fun _ h=>h) t') q4) (fun ad' h j u hu'=>by
     have:=q5 ad' h j u hu'
     exact Lib.cell?_alloc_some _ this)
   refine DF (by rfl) g6 (C2 (u:=v) (w':=w') (by simp[execOp,hs.o32,resolve,invoke,builtin,Act.eval,Act.put,d0,d1,d2,d4,d5,hs.nt,hrun]) ?_)
   refine DF (by rfl) g7 (C2 (H_ hs.o33) ?_);refine wp_ret ?_;refine⟨by simp[Act.put,d0,d1,d2,d4,d5,d6,d7],_,hres _ _,?_⟩;refine⟨_,rfl,F,m',hga.trans hg,?_⟩;show Rep _ _ _ (H.set slot _) _ _;simpa [Act.put,Act.eval,d0,d1,d2,d4,d5,d6,d7,hs.nt]using hrep
 grind;grind;grind;grind
theorem CQ(e:TypeId)(t:Ty):Ha (Eh e t):=by
 intro R args H H' fz fz' slot k b;unfold Eh;cases args with
  |nil=>rfl
  |cons x r=>cases r with
   |cons y r=>rfl
   |nil=>
    simp only
    rw[Cv (.slice t) x fun id a=>b.heap id (by simpa [B4]using a)]
    have:=FI b (s:=slot) (ASG _) (by omega) []
    simp only[BJ]at this
    rw[this]
end
abbrev U0:Ty:=(.int .i64)
abbrev U1:Ty:=(.prod U0 (.prod U0 (.prod U0 (.prod .bool .unit))))
abbrev U2:=(Int×Int×Int×Bool×Unit)
abbrev U3:Ty:=(.prod U0 (.prod U0 .unit))
abbrev U4:=(Int×Int×Unit)
abbrev U5:=(Int×Int×Int×Int×Unit)
abbrev U6:Ty:=(.slice U0)
abbrev U7:=(List Int)
abbrev U8:Ty:=(.prod U0 (.prod U0 U3))
abbrev U9:=(Int×Int×Int×Int×Int×Unit)
abbrev Ua:=(Int×Int×Int×Unit)
abbrev Ub:=(Int×Unit)
abbrev Uc:=(Int×(List U2)×Unit)
abbrev Ud:=(Bool×Unit)
abbrev Ue:Ty:=(.slice U1)
abbrev Uf:Ty:=(.slice U6)
abbrev Ug:=(List U5×Int×List Bool×List U7×Bool×Int×Int×List U2×Int×Unit)
abbrev Uh:=(List Int×Unit)
abbrev Ui:Ty:=(.prod U0 (.prod U0 (.prod (.slice (.arr 2 U0)) .unit)))
abbrev Uj:Ty:=(.int .u32)
abbrev Uk:=(List Int×Int×Int×Unit)
abbrev Ul:=(Int×Int×(List U7)×Unit)
abbrev Um:=(List Int×Int×Unit)
abbrev Un:=(Int×(List U7)×Unit)
abbrev Uo:=(Int×Int)
abbrev Up:Ty:=(.prod U0 (.prod Ue .unit))
abbrev Uq:Ty:=(.slice .bool)
abbrev Ur:=(Int×List U2×Bool×Bool×Int×Int×Int×Int×Int×List Uo×List Int×Int×Int×Unit)
abbrev Us:=(List U5×Int×List Bool×List U7×Bool×Int×Int×Int×Int×Int×Bool×Int×Unit)
abbrev Ut:=(Bool×Bool×U4×Int×Unit)
abbrev Uu:Ty:=(.slice U3)
abbrev Uv:Ty:=(.slice U8)
abbrev Uw:=(List Int×List Int×Int×Int×List Int×List Int×Int×Int×Unit)
abbrev Ux:=(Int×List U7×List Uo×Int×List U7×Int×Int×List Int×Int×Int×Bool×List Int×Bool×Bool×List Int×Int×List Int×Int×Bool×Int×List Int×Bool×Bool×List Int×Int×Int×Unit)
abbrev Uy:Ty:=(.slice Uj)
abbrev Uz:=(Int×(List U4)×(List Ua)×Unit)
abbrev V0:Ty:=(.prod (.prod Uv (.prod U0 (.prod Uq .unit))) (.prod Uf (.prod .bool U3)))
abbrev V1:=(List U4×Unit)
abbrev V2:=(List U5×Int×List Bool×List U7×Bool×Int×Int×List Uo×List U7×Int×Int×Unit)
abbrev V3:Ty:=(.prod .bool (.prod .bool (.prod U3 (.prod U0 .unit))))
abbrev V4:Ty:=(.slice (.prod U0 U3))
abbrev V5:=(Int×Int×Ul×Unit)
abbrev V6:=(List Int×Int×Int×Int×List Int×Int×Int×Unit)
abbrev V7:=(U4×Int)
abbrev V8:Ty:=(.prod U0 (.prod U0 (.prod Ui .unit)))
abbrev V9:=(List Int×Int×List Int×Int×Int×List Int×List Int×Int×Int×Unit)
abbrev Va:Ty:=(.prod U0 (.prod Uf .unit))
abbrev Vb:=(List Int×List Int×List Int×Int×Int×Unit)
abbrev Vc:=(Int×List U2×Int×List U2×Int×Int×Unit)
abbrev Vd:=(Int×List U2×List U4×Int×Unit)
abbrev Ve:=(Int×Bool×Bool×Int×Int×Int×Int×Int×Int×Bool×Int×List U2×Bool×Bool×Int×Int×Int×Int×Int×Unit)
abbrev Vf:=(List Int×Int×List U7×Int×Int×Unit)
abbrev Vg:=(Int×List U2×Int×Int×Unit)
abbrev Vh:=(List Int×List Int×Unit)
abbrev Vi:Ty:=(.prod U0 U8)
abbrev Vj:=(List Int×Int×List U7×Unit)
abbrev Vk:=(Int×Bool×Int×Int×List U5×Int×List Bool×List U7×Bool×Int×Int×List U2×List U7×Int×Int×Unit)
abbrev Vl:=(List U5×Int×List Bool×List U7×Bool×Int×Int×List Uo×List U7×Int×Int×List Int×Int×Int×Unit)
abbrev Vm:=(List Int×List Int×Int×Int×Unit)
abbrev Vn:=(List Int×Int×List U7×Int×Unit)
def IP:List Int:=[0,1,2,2,3,3,3,3,4,4,4,4,4,4,4,4,5,5,5,5,5,5,5,5,5,5,5,5,5,5,5,5,6,6,6,6,6,6,6,6,6,6,6,6,6,6,6,6,6,6,6,6,6,6,6,6,6,6,6,6,6,6,6,6,7,7,7,7,7,7,7,7,7,7,7,7,7,7,7,7,7,7,7,7,7,7,7,7,7,7,7,7,7,7,7,7,7,7,7,7,7,7,7,7,7,7,7,7,7,7,7,7,7,7,7,7,7,7,7,7,7,7,7,7,7,7,7,7,8,8,8,8,8,8,8,8,8,8,8,8,8,8,8,8,8,8,8,8,8,8,8,8,8,8,8,8,8,8,8,8,8,8,8,8,8,8,8,8,8,8,8,8,8,8,8,8,8,8,8,8,8,8,8,8,8,8,8,8,8,8,8,8,8,8,8,8,8,8,8,8,8,8,8,8,8,8,8,8,8,8,8,8,8,8,8,8,8,8,8,8,8,8,8,8,8,8,8,8,8,8,8,8,8,8,8,8,8,8,8,8,8,8,8,8,8,8,8,8,8,8,8,8,8,8,8,8]
abbrev X9:A0:=[(.tmp 0,.dat (.int .u64))]
abbrev AA:Loc×Con:=(.tmp 0,.di)
abbrev BW:A0:=[AA]
abbrev A8:List RS:=[.one]
def j4[Lk]:Ub->Option (Ub):=fun(a,_)=>
 match(ile 4294967296 a)with
 |true=>match shr? .u64 a 32 with|none=>none|some b=>match(ile 65536 b)with
  |true=>match shr? .u64 b 16 with|none=>none|some c=>match(ile 256 c)with
   |true=>match shr? .u64 c 8 with|none=>none|some e=>match idx IP (IntKind.wrap .u8 e)with|none=>none|some f=>some ((w64 ((w64 ((w64 (32+16))+8))+(w64 f))),())
   |false=>match idx IP (IntKind.wrap .u8 c)with|none=>none|some g=>some ((w64 ((w64 (32+16))+(w64 g))),())
  |false=>match(ile 256 b)with
  |true=>match shr? .u64 b 8 with|none=>none|some h=>match idx IP (IntKind.wrap .u8 h)with|none=>none|some i=>some ((w64 ((w64 (32+8))+(w64 i))),())
  |false=>match idx IP (IntKind.wrap .u8 b)with|none=>none|some j=>some ((w64 (32+(w64 j))),())
 |false=>match(ile 65536 a)with
 |true=>match shr? .u64 a 16 with|none=>none|some d=>match(ile 256 d)with
  |true=>match shr? .u64 d 8 with|none=>none|some k=>match idx IP (IntKind.wrap .u8 k)with|none=>none|some l=>some ((w64 ((w64 ((w64 (0+16))+8))+(w64 l))),())
  |false=>match idx IP (IntKind.wrap .u8 d)with|none=>none|some m=>some ((w64 ((w64 (0+16))+(w64 m))),())
 |false=>match(ile 256 a)with
 |true=>match shr? .u64 a 8 with|none=>none|some n=>match idx IP (IntKind.wrap .u8 n)with|none=>none|some o=>some ((w64 ((w64 (0+8))+(w64 o))),())
 |false=>match idx IP (IntKind.wrap .u8 a)with|none=>none|some p=>some ((w64 (0+(w64 p))),())
def zJ[Lk]:=lkk j4
theorem py v:zJ v=j4 v:=A1 _
def WE[Lk]:Ub->Option (Ub):=fun(a,_)=>
 match zJ (a,())with|none=>none|some (b,_)=>some (b,())
def bitsLen[Lk]:=lkk WE
theorem cO v:bitsLen v=WE v:=A1 _
abbrev AAC:A0:=[(.tmp 0,.box 1),(.cell 0 0,.dat (.int .u64))]
abbrev AB:Loc×Con:=(.obj 0,.box 1)
abbrev AAB:A0:=[AB,(.cell 0 0,.dat (.int .u64)),(.tmp 0,.dat (.int .u64))]
def Tf[Lk]:Ub->Option (U4):=fun(a,_)=>
 match shl? .u64 a 13 with|none=>none|some b=>match shr? .u64 (IntKind.wrap .u64 ((BitVec.ofInt (IntKind.bits .u64) a ^^^ BitVec.ofInt (IntKind.bits .u64) b).toNat)) 7 with|none=>none|some c=>match shl? .u64 (IntKind.wrap .u64 ((BitVec.ofInt (IntKind.bits .u64) (IntKind.wrap .u64 ((BitVec.ofInt (IntKind.bits .u64) a ^^^ BitVec.ofInt (IntKind.bits .u64) b).toNat)) ^^^ BitVec.ofInt (IntKind.bits .u64) c).toNat)) 17 with|none=>none|some d=>some ((IntKind.wrap .u64 ((BitVec.ofInt (IntKind.bits .u64) (IntKind.wrap .u64 ((BitVec.ofInt (IntKind.bits .u64) (IntKind.wrap .u64 ((BitVec.ofInt (IntKind.bits .u64) a ^^^ BitVec.ofInt (IntKind.bits .u64) b).toNat)) ^^^ BitVec.ofInt (IntKind.bits .u64) c).toNat)) ^^^ BitVec.ofInt (IntKind.bits .u64) d).toNat)),(IntKind.wrap .u64 ((BitVec.ofInt (IntKind.bits .u64) (IntKind.wrap .u64 ((BitVec.ofInt (IntKind.bits .u64) (IntKind.wrap .u64 ((BitVec.ofInt (IntKind.bits .u64) a ^^^ BitVec.ofInt (IntKind.bits .u64) b).toNat)) ^^^ BitVec.ofInt (IntKind.bits .u64) c).toNat)) ^^^ BitVec.ofInt (IntKind.bits .u64) d).toNat)),())
def xorNext[Lk]:=lkk Tf
theorem YS v:xorNext v=Tf v:=A1 _
def UR[Lk]:Ub->Option (Ub):=fun(a,_)=>
 match bitsLen ((IntKind.wrap .u64 a),())with|none=>none|some (b,_)=>match shl? .u64 1 b with|none=>none|some c=>some (c,())
def X6[Lk]:=lkk UR
theorem aB v:X6 v=UR v:=A1 _
abbrev AD:Loc×Con:=(.tmp 0,.dat Up)
abbrev ADc:A0:=[AD,(.tmp 1,.dat V8)]
abbrev AE:Loc×Con:=(.tmp 0,.dat .bool)
abbrev BN:A0:=[AE]
def VN[Lk]:(Uc×V5×Unit)->Option (Ud):=fun(a,b,_)=>
 match(ilt 30 (A4 a.2.1))with
 |true=>some (true,())
 |false=>match(ilt 12 a.1)with
 |true=>some (true,())
 |false=>some ((ilt 60 (A4 b.2.2.1.2.2.1)),())
def Su[Lk]:=lkk VN
theorem av v:Su v=VN v:=A1 _
def Yj[Lk]:Ub->Option (Ud):=fun(a,_)=>
 match(ile 1 a)with
 |true=>some ((ile a 64),())
 |false=>some (false,())
def QG[Lk]:=lkk Yj
theorem eM v:QG v=Yj v:=A1 _
abbrev AF:Loc×Con:=(.tmp 1,.di)
abbrev Nb:A0:=[AA,AF]
def AF3[Lk]:U4->Option (Ud):=fun(a,b,_)=>
 match QG (a,())with|none=>none|some (c,_)=>match c with
 |true=>match(ile 0 b)with
  |true=>some ((ilt b a),())
  |false=>some (false,())
 |false=>some (false,())
def tin[Lk]:=lkk AF3
theorem AF2 v:tin v=AF3 v:=A1 _
abbrev AG:Loc×Con:=(.tmp 2,.di)
abbrev AF8:A0:=[AA,AF,AG]
def si[Lk]:Ua->Option (Ub):=fun(a,b,c,_)=>
 match(ieq b c)with
 |true=>some ((-1:Int),())
 |false=>match tin (a,b,())with|none=>none|some (d,_)=>match(!d)with
 |true=>some ((-1:Int),())
 |false=>match tin (a,c,())with|none=>none|some (e,_)=>match(!e)with
 |true=>some ((-1:Int),())
 |false=>some ((w64 ((w64 (a*(w64 (b+1))))+c)),())
def AF9[Lk]:=lkk si
theorem yC v:AF9 v=si v:=A1 _
abbrev AH:Loc×Con:=(.tmp 2,.dat .bool)
abbrev AFg:A0:=[AA,AF,AH,(.tmp 3,.dat .bool)]
abbrev Rk:List RS:=[.one,.one,.one,.one]
def Yi[Lk]:U4->Option ((Int×Int×Bool×Bool×Unit)):=fun(a,b,_)=>
 match QG (a,())with|none=>none|some (e,_)=>match(!e)with
 |true=>some (0,0,false,false,())
 |false=>match(ilt b 0)with
 |true=>some (0,0,false,false,())
 |false=>match(ile (w64 (a*(w64 (a+1)))) b)with
 |true=>some (0,0,false,false,())
 |false=>match(ilt b a)with
 |true=>some (b,0,false,true,())
 |false=>match quo? .i64 b a with|none=>none|some c=>match rem? b a with|none=>none|some d=>match(ieq (w64 (c-1)) d)with
 |true=>some (0,0,false,false,())
 |false=>some ((w64 (c-1)),d,true,true,())
def iK[Lk]:=lkk Yi
theorem eL v:iK v=Yi v:=A1 _
abbrev ALn:A0:=[AA,(.tmp 1,.own 56 U6),AG]
abbrev xz:List RS:=[.agg 2,.one]
abbrev AI:Loc×Con:=(.tmp 4,.box 2)
abbrev AJ:Loc×Con:=(.cell 1 0,.di)
abbrev AK:Loc×Con:=(.tmp 2,.box 2)
abbrev AL:Loc×Con:=(.cell 0 0,.di)
abbrev AM:Loc×Con:=(.tmp 12,.di)
abbrev AN:Loc×Con:=(.tmp 13,.di)
abbrev AFv:A0:=[AK,AL,(.cell 0 1,.nil U6),AI,AJ,(.cell 1 1,.own 56 U6),AM,AN]
abbrev AFu:BI:=[(.exit 0,[AK,AL,(.cell 0 1,.nil U6),AI,AJ,(.cell 1 1,.own 56 U6)])]
def NX[Lk]:(Int×Int×List U7×Int×Int×Unit)->Option ((Int×Int×List U7×Int×Int×Unit)⊕(Int×Int×List U7×Unit)⊕Unit):=fun(c,d,b,e,a,_)=>
 match(ilt a e)with
 |true=>match(fits ((A4 b)+(A4 ([([a]:List (Int))]:List U7))))with
  |true=>some (.inl (c,d,(B6 b ([([a]:List (Int))]:List U7)),e,(w64 (a+1)),()))
  |false=>none
 |false=>some (.inr (.inl (c,d,b,())))
def iS[Lk]:Ub->Option ((Int×List U7×Int×Unit)):=fun(a,_)=>
 match QG (a,())with|none=>none|some (b,_)=>match(!b)with
 |true=>some (0,([]:List U7),1,())
 |false=>match A9 NX many (0,a,([]:List U7),a,0,())with|none=>none|some r=>match r with
 |.inl (e,c,d,_)=>some (c,d,0,())
 |.inr _=>none
def yA[Lk]:=lkk iS
theorem nD v:yA v=iS v:=A1 _
abbrev AO:Loc×Con:=(.tmp 0,.dat U6)
abbrev OD:A0:=[AO,AF]
abbrev AP:Loc×Con:=(.tmp 7,.di)
abbrev AQ:Loc×Con:=(.tmp 8,.di)
abbrev ADO:A0:=[AO,AF,AP,AQ]
abbrev AR:Loc×Con:=(.tmp 4,.di)
abbrev HL:BI:=[(.ret,[AR]),(.exit 0,[])]
def LY[Lk]:(List Int×Int×Int×Int×Unit)->Option ((List Int×Int×Int×Int×Unit)⊕Ub⊕(Unit)⊕Unit):=fun(b,c,d,a,_)=>
 match(ilt a d)with
 |true=>match idx b a with|none=>none|some e=>match(ieq c e)with
  |true=>some (.inr (.inl (a,())))
  |false=>some (.inl (b,c,d,(w64 (a+1)),()))
 |false=>some (.inr (.inr (.inl ())))
def aW[Lk]:Um->Option (Ub):=fun(a,b,_)=>
 match A9 LY many (a,b,(A4 a),0,())with|none=>none|some r=>match r with
 |.inl (c,_)=>some (c,())
 |.inr r=>match r with
 |.inl _=>some ((-1:Int),())
 |.inr _=>none
def VF[Lk]:=lkk aW
theorem fh v:VF v=aW v:=A1 _
def OV[Lk]:Um->Option (Ud):=fun(a,b,_)=>
 match VF (a,b,())with|none=>none|some (c,_)=>some ((ile 0 c),())
def HS[Lk]:=lkk OV
theorem TE v:HS v=OV v:=A1 _
abbrev aD:A0:=[AO]
abbrev AS:Loc×Con:=(.tmp 3,.di)
abbrev ANR:A0:=[AO,AS,AR]
abbrev yx:BI:=[(.exit 0,[AS])]
def SN[Lk]:Uk->Option (Uk⊕Ub⊕Unit):=fun(a,c,b,_)=>
 match(ilt b (A4 a))with
 |true=>match idx a b with|none=>none|some d=>some (.inl (a,(C7 c d),(w64 (b+1)),()))
 |false=>some (.inr (.inl (c,())))
def vQ[Lk]:Uh->Option (Ub):=fun(a,_)=>
 match(ilt (A4 a) 1)with
 |true=>none
 |false=>match idx a 0 with|none=>none|some b=>match A9 SN many (a,b,1,())with|none=>none|some r=>match r with
 |.inl (c,_)=>some (c,())
 |.inr _=>none
def AIb[Lk]:=lkk vQ
theorem yy v:AIb v=vQ v:=A1 _
abbrev AN6:A0:=[(.tmp 0,.nil U0),AF]
abbrev AT:Loc×Con:=(.tmp 0,.own 3 U0)
abbrev Fj:A0:=[AT]
def kS[Lk]:Ub->Option (Uh):=fun(a,_)=>
 match(ilt a 0)with
 |true=>none
 |false=>match(ilt 0 (w64 (a-(w64 (0-0)))))with
 |true=>match Dd ([]:List Unit) 0 0 with|none=>none|some _u0=>match(Cq (w64 (a-(w64 (0-0)))))with
  |true=>match Dd (ED (A3 (w64 (a-(w64 ((0:Int)-(0:Int)))))) (0:Int)) (0:Int) (0:Int)with|none=>none|some b=>some ((DA (A3 (A4 b)) (ED (A3 (w64 (a-(w64 ((0:Int)-(0:Int)))))) (0:Int))),())
  |false=>none
 |false=>some (([]:List (Int)),())
def zO[Lk]:=lkk kS
theorem qI v:zO v=kS v:=A1 _
abbrev AU:Loc×Con:=(.tmp 0,.dat Uf)
abbrev AEf:A0:=[AU]
abbrev AW:Loc×Con:=(.tmp 6,.own 3 U0)
abbrev AX:Loc×Con:=(.tmp 27,.di)
abbrev AY:Loc×Con:=(.tmp 26,.di)
abbrev xJ:A0:=[AW,(.tmp 25,.dat Uf),AY,AX]
abbrev xH:BI:=[(.exit 2,[AW])]
def J0[Lk]:(List Int×List U7×Int×Int×Unit)->Option ((List Int×List U7×Int×Int×Unit)⊕Uh⊕Unit):=fun(a,c,d,b,_)=>
 match(ilt b d)with
 |true=>match idx c b with|none=>none|some e=>match(fits ((A4 a)+(A4 e)))with
  |true=>some (.inl ((B6 a e),c,d,(w64 (b+1)),()))
  |false=>none
 |false=>some (.inr (.inl (a,())))
abbrev AZ:Loc×Con:=(.tmp 11,.di)
abbrev Aa:Loc×Con:=(.tmp 10,.di)
abbrev xK:A0:=[AU,AS,(.tmp 9,.dat Uf),Aa,AZ]
abbrev xI:BI:=[(.exit 0,[AU,AS])]
def J1[Lk]:(List U7×Int×List U7×Int×Int×Unit)->Option ((List U7×Int×List U7×Int×Int×Unit)⊕(List U7×Int×Unit)⊕Unit):=fun(c,a,d,e,b,_)=>
 match(ilt b e)with
 |true=>match idx d b with|none=>none|some f=>match(ilt (w64 (a+(A4 f))) 0)with
  |true=>none
  |false=>some (.inl (c,(w64 (a+(A4 f))),d,e,(w64 (b+1)),()))
 |false=>some (.inr (.inl (c,a,())))
def Vv[Lk]:(List U7×Unit)->Option (Uh):=fun(a,_)=>
 match A9 J1 many (a,0,a,(A4 a),0,())with|none=>none|some r=>match r with
 |.inl (b,c,_)=>match zO (c,())with|none=>none|some (d,_)=>match A9 J0 many (d,b,(A4 b),0,())with|none=>none|some r=>match r with
  |.inl (e,_)=>some (e,())
  |.inr _=>none
 |.inr _=>none
def PY[Lk]:=lkk Vv
theorem bt v:PY v=Vv v:=A1 _
abbrev OF:A0:=[AO,(.tmp 1,.clo 213 [])]
abbrev XW:A0:=[AO,(.tmp 1,.clo 213 []),AP,AQ]
def EY[Lk]:Uk->Option (Uk⊕Ub⊕(Unit)⊕Unit):=fun(b,c,a,_)=>
 match(ilt a c)with
 |true=>match idx b a with|none=>none|some d=>match(ilt d 0)with
  |true=>some (.inr (.inl (a,())))
  |false=>match(ilt 10000 d)with
  |true=>some (.inr (.inl (a,())))
  |false=>some (.inl (b,c,(w64 (a+1)),()))
 |false=>some (.inr (.inr (.inl ())))
def Jl[Lk]:Uh->Option (Ub):=fun(a,_)=>
 match A9 EY many (a,(A4 a),0,())with|none=>none|some r=>match r with
 |.inl (b,_)=>some (b,())
 |.inr r=>match r with
 |.inl _=>some ((-1:Int),())
 |.inr _=>none
def Mg[Lk]:=lkk Jl
theorem NC v:Mg v=Jl v:=A1 _
abbrev Ab:Loc×Con:=(.tmp 3,.map U0 U0)
abbrev Ac:Loc×Con:=(.tmp 9,.di)
abbrev ANI:A0:=[AO,Ab,(.tmp 7,.dat U6),AQ,Ac]
abbrev ANH:BI:=[(.exit 0,[AO,Ab])]
def SK[Lk]:(List Int×List Uo×List Int×Int×Int×Unit)->Option ((List Int×List Uo×List Int×Int×Int×Unit)⊕(List Int×List Uo×Unit)⊕Unit):=fun(c,a,d,e,b,_)=>
 match(ilt b e)with
 |true=>match idx d b with|none=>none|some f=>some (.inl (c,(BF a f (w64 (((A7 a f).getD 0)+1))),d,e,(w64 (b+1)),()))
 |false=>some (.inr (.inl (c,a,())))
def vK[Lk]:Uh->Option (Ud):=fun(a,_)=>
 match A9 SK many (a,([]:List Uo),a,(A4 a),0,())with|none=>none|some r=>match r with
 |.inl (b,c,_)=>some ((ieq (A4 c) (A4 b)),())
 |.inr _=>none
def once[Lk]:=lkk vK
theorem yp v:once v=vK v:=A1 _
def Yg[Lk]:Um->Option (Uh):=fun(a,b,_)=>
 match Dd a b (A4 a)with|none=>none|some c=>match Dd a 0 b with|none=>none|some d=>match PY (([c,d]:List U7),())with|none=>none|some (e,_)=>some (e,())
def Yh[Lk]:=lkk Yg
theorem eK v:Yh v=Yg v:=A1 _
abbrev VI:A0:=[AU,(.cap 1 0,.box 1),AL,(.tmp 1,.clo 162 [(0,0)])]
abbrev VH:A0:=[AB,AL,AA]
abbrev Si:A0:=[AB,AL,AU,(.tmp 1,.clo 162 [(0,0)]),AP,AQ]
abbrev Sh:BI:=[(.ret,[AB,AL,AR]),(.exit 0,[AB,AL])]
def Ds[Lk]:(Int×List U7×Int×Int×Unit)->Option ((Int×List U7×Int×Int×Unit)⊕U4⊕Ub⊕Unit):=fun(a,c,d,b,_)=>
 match(ilt b d)with
 |true=>match idx c b with|none=>none|some e=>match HS (e,a,())with|none=>none|some (f,_)=>match f with
  |true=>some (.inr (.inl (a,b,())))
  |false=>some (.inl (a,c,d,(w64 (b+1)),()))
 |false=>some (.inr (.inr (.inl (a,()))))
def HM[Lk]:(List U7×Int×Unit)->Option (U4):=fun(a,b,_)=>
 match A9 Ds many (b,a,(A4 a),0,())with|none=>none|some r=>match r with
 |.inl (c,d,_)=>some (c,d,())
 |.inr r=>match r with
 |.inl (e,_)=>some (e,(-1:Int),())
 |.inr _=>none
def Jj[Lk]:=lkk HM
theorem KZ v:Jj v=HM v:=A1 _
abbrev Ad:Loc×Con:=(.tmp 0,.dat Va)
abbrev K7:A0:=[Ad,AF]
def Yq[Lk]:(Un×Int×Unit)->Option (Ub):=fun(a,b,_)=>
 match Jj (a.2.1,b,())with|none=>none|some (d,c,_)=>some (c,())
def To[Lk]:=lkk Yq
theorem eO v:To v=Yq v:=A1 _
abbrev Ae:Loc×Con:=(.tmp 1,.dat U6)
abbrev AQe:A0:=[AA,Ae]
abbrev AOD:A0:=[AA,(.tmp 5,.box 3),(.cell 0 0,.own 3 U0),(.cell 0 1,.map U0 U0),(.cell 0 2,.map U0 U0),(.tmp 30,.dat U6),(.tmp 31,.di),(.tmp 32,.di)]
abbrev Af:Loc×Con:=(.tmp 4,.dat .bool)
abbrev AOC:BI:=[(.ret,[Af]),(.exit 0,[(.tmp 5,.box 3),(.cell 0 0,.own 3 U0),(.cell 0 1,.map U0 U0),(.cell 0 2,.map U0 U0)])]
def PN[Lk]:(Int×List Int×List Uo×List Uo×List Int×Int×Int×Unit)->Option ((Int×List Int×List Uo×List Uo×List Int×Int×Int×Unit)⊕Ud⊕(List Int×List Uo×List Uo×Unit)⊕Unit):=fun(g,a,c,d,h,i,f,_)=>
 match(ilt f i)with
 |true=>match idx h f with|none=>none|some l=>match iK (g,l,())with|none=>none|some (e,b,j,m,_)=>match(!m)with
  |true=>some (.inr (.inl (false,())))
  |false=>match j with
  |true=>match idx a (w64 ((A4 a)-1))with|none=>none|some n=>match(!(ieq (A_ a (A3 (w64 ((A4 a)-1))) 0) e))with
   |true=>some (.inr (.inl (false,())))
   |false=>match(ilt 0 (w64 ((A4 a)-1)))with
   |true=>match idx a (w64 ((w64 ((A4 a)-1))-1))with|none=>none|some o=>match(ieq (A_ a (A3 (w64 ((w64 ((A4 a)-1))-1))) 0) b)with
    |true=>match Dd a 0 (w64 ((A4 a)-1))with|none=>none|some k=>match(!j)with
     |true=>match idx (KE 0 (A3 (A4 k)) a) (w64 ((((A3 (A4 k)):Nat):Int)-1))with|none=>none|some p=>match(!(ieq (A_ a (0+(A3 (w64 ((((A3 (A4 k)):Nat):Int)-1)))) 0) e))with
      |true=>some (.inr (.inl (false,())))
      |false=>match(!j)with
      |true=>some (.inl (g,(DA (A3 (A4 k)) a),c,(BF d e (w64 (((A7 d e).getD 0)+1))),h,i,(w64 (f+1)),()))
      |false=>some (.inl (g,(DA (A3 (A4 k)) a),c,d,h,i,(w64 (f+1)),()))
     |false=>match(!j)with
     |true=>some (.inl (g,(DA (A3 (A4 k)) a),c,(BF d e (w64 (((A7 d e).getD 0)+1))),h,i,(w64 (f+1)),()))
     |false=>some (.inl (g,(DA (A3 (A4 k)) a),c,d,h,i,(w64 (f+1)),()))
    |false=>match(ilt 0 ((A7 c b).getD 0))with
    |true=>some (.inr (.inl (false,())))
    |false=>match(fits ((A4 a)+(A4 ([b]:List (Int)))))with
    |true=>match(!j)with
     |true=>match idx (B6 a ([b]:List (Int))) (w64 ((A4 (B6 a ([b]:List (Int))))-1))with|none=>none|some q=>match(!(ieq (A_ (B6 a ([b]:List (Int))) (A3 (w64 ((A4 (B6 a ([b]:List (Int))))-1))) 0) e))with
      |true=>some (.inr (.inl (false,())))
      |false=>match(!j)with
      |true=>some (.inl (g,(B6 a ([b]:List (Int))),(BF c b (w64 (((A7 c b).getD 0)+1))),(BF d e (w64 (((A7 d e).getD 0)+1))),h,i,(w64 (f+1)),()))
      |false=>some (.inl (g,(B6 a ([b]:List (Int))),(BF c b (w64 (((A7 c b).getD 0)+1))),d,h,i,(w64 (f+1)),()))
     |false=>match(!j)with
     |true=>some (.inl (g,(B6 a ([b]:List (Int))),(BF c b (w64 (((A7 c b).getD 0)+1))),(BF d e (w64 (((A7 d e).getD 0)+1))),h,i,(w64 (f+1)),()))
     |false=>some (.inl (g,(B6 a ([b]:List (Int))),(BF c b (w64 (((A7 c b).getD 0)+1))),d,h,i,(w64 (f+1)),()))
    |false=>none
   |false=>match(ilt 0 ((A7 c b).getD 0))with
   |true=>some (.inr (.inl (false,())))
   |false=>match(fits ((A4 a)+(A4 ([b]:List (Int)))))with
   |true=>match(!j)with
    |true=>match idx (B6 a ([b]:List (Int))) (w64 ((A4 (B6 a ([b]:List (Int))))-1))with|none=>none|some r=>match(!(ieq (A_ (B6 a ([b]:List (Int))) (A3 (w64 ((A4 (B6 a ([b]:List (Int))))-1))) 0) e))with
     |true=>some (.inr (.inl (false,())))
     |false=>match(!j)with
     |true=>some (.inl (g,(B6 a ([b]:List (Int))),(BF c b (w64 (((A7 c b).getD 0)+1))),(BF d e (w64 (((A7 d e).getD 0)+1))),h,i,(w64 (f+1)),()))
     |false=>some (.inl (g,(B6 a ([b]:List (Int))),(BF c b (w64 (((A7 c b).getD 0)+1))),d,h,i,(w64 (f+1)),()))
    |false=>match(!j)with
    |true=>some (.inl (g,(B6 a ([b]:List (Int))),(BF c b (w64 (((A7 c b).getD 0)+1))),(BF d e (w64 (((A7 d e).getD 0)+1))),h,i,(w64 (f+1)),()))
    |false=>some (.inl (g,(B6 a ([b]:List (Int))),(BF c b (w64 (((A7 c b).getD 0)+1))),d,h,i,(w64 (f+1)),()))
   |false=>none
  |false=>match(!j)with
  |true=>match idx a (w64 ((A4 a)-1))with|none=>none|some s=>match(!(ieq (A_ a (A3 (w64 ((A4 a)-1))) 0) e))with
   |true=>some (.inr (.inl (false,())))
   |false=>match(!j)with
   |true=>some (.inl (g,a,c,(BF d e (w64 (((A7 d e).getD 0)+1))),h,i,(w64 (f+1)),()))
   |false=>some (.inl (g,a,c,d,h,i,(w64 (f+1)),()))
  |false=>match(!j)with
  |true=>some (.inl (g,a,c,(BF d e (w64 (((A7 d e).getD 0)+1))),h,i,(w64 (f+1)),()))
  |false=>some (.inl (g,a,c,d,h,i,(w64 (f+1)),()))
 |false=>some (.inr (.inr (.inl (a,c,d,()))))
def v8[Lk]:(Int×List Int×Unit)->Option (Ud):=fun(b,a,_)=>
 match idx a 0 with|none=>none|some c=>match tin (b,c,())with|none=>none|some (d,_)=>match(!d)with
 |true=>some (false,())
 |false=>match idx a 0 with|none=>none|some e=>match idx a 0 with|none=>none|some f=>match A9 PN many (b,([e]:List (Int)),(BF ([]:List Uo) f 1),([]:List Uo),a,(A4 a),0,())with|none=>none|some r=>match r with
 |.inl (g,_)=>some (g,())
 |.inr r=>match r with
 |.inl (h,i,j,_)=>match(ieq (A4 h) 1)with
  |true=>some ((ieq (A4 j) (A4 i)),())
  |false=>some (false,())
 |.inr _=>none
def goes[Lk]:=lkk v8
theorem zQ v:goes v=v8 v:=A1 _
def MT[Lk]:Ub->Option (Ud):=fun(a,_)=>
 some ((!(ieq a a)),())
def ACd[Lk]:=lkk MT
theorem KT v:ACd v=MT v:=A1 _
def HU[Lk]:U4->Option (Ub):=fun(a,b,_)=>
 match ACd (a,())with|none=>none|some (d,_)=>match ACd (b,())with|none=>none|some (c,_)=>match d with
 |true=>match c with
  |true=>some (0,())
  |false=>some ((-1:Int),())
 |false=>match c with
 |true=>some (1,())
 |false=>match(ilt a b)with
 |true=>some ((-1:Int),())
 |false=>match(ilt b a)with
 |true=>some (1,())
 |false=>some (0,())
def Eb[Lk]:=lkk HU
theorem IF v:Eb v=HU v:=A1 _
abbrev iA:A0:=[AO,Ae]
def iB[Lk]:Vh->Option (Ub):=fun(a,b,_)=>
 match idx a 0 with|none=>none|some c=>match idx b 0 with|none=>none|some d=>match Eb (c,d,())with|none=>none|some (e,_)=>some (e,())
def C8[Lk]:=lkk iB
theorem mr v:C8 v=iB v:=A1 _
abbrev tLt[Lk](y:Int):Bool:=ilt y (0:Int)
abbrev tId[Lk](y:Bool):Bool:=y
def YB[Lk]{α β:Type}(z:α)(c:α×α×Unit->Option (β×Unit))(t:β->Bool):(List α×Int×Int×Int×Int×Unit)->Option ((List α×Int×Int×Int×Int×Unit)⊕(List α×Int×Int×Int×Unit)⊕Unit):=fun(b,d,e,f,a,_)=>
 match(ilt d a)with
 |true=>match idx b a with|none=>none|some h=>match idx b (w64 (a-1))with|none=>none|some i=>match c ((A_ b (A3 a) z),(A_ b (A3 (w64 (a-1))) z),())with|none=>none|some (g,_)=>match(t g)with
  |true=>match idx b (w64 (a-1))with|none=>none|some j=>match idx b a with|none=>none|some k=>match idx b a with|none=>none|some l=>match idx (Be b (A3 a) (A_ b (A3 (w64 (a-1))) z)) (w64 (a-1))with|none=>none|some m=>some (.inl ((Be (Be b (A3 a) (A_ b (A3 (w64 (a-1))) z)) (A3 (w64 (a-1))) (A_ b (A3 a) z)),d,e,f,(w64 (a-1)),()))
  |false=>some (.inr (.inl (b,d,e,f,())))
 |false=>some (.inr (.inl (b,d,e,f,())))
def YC[Lk]{α β:Type}(z:α)(c:α×α×Unit->Option (β×Unit))(t:β->Bool):(List α×Int×Int×Int×Unit)->Option ((List α×Int×Int×Int×Unit)⊕(List α×Unit)⊕Unit):=fun(b,e,d,a,_)=>
 match(ilt a d)with
 |true=>match A9 (YB z c t) many (b,e,d,a,a,())with|none=>none|some r=>match r with
  |.inl (f,g,h,i,_)=>some (.inl (f,g,h,(w64 (i+1)),()))
  |.inr _=>none
 |false=>some (.inr (.inl (b,())))
def Qw[Lk]{α β:Type}(z:α)(c:α×α×Unit->Option (β×Unit))(t:β->Bool):(List α×Int×Int×Unit)->Option ((List α×Unit)):=fun(b,a,d,_)=>
 match A9 (YC z c t) many (b,a,d,(w64 (a+1)),())with|none=>none|some r=>match r with
 |.inl (e,_)=>some (e,())
 |.inr _=>none
def vu[Lk]{α β:Type}(z:α)(c:α×α×Unit->Option (β×Unit))(t:β->Bool)(v:(List α×Int×Int×Unit)):Option ((List α×Unit)):=Lk.f ((Qw z c t) v)
theorem ANp{α β:Type}(z:α)(c:α×α×Unit->Option (β×Unit))(t:β->Bool)(v:(List α×Int×Int×Unit)):(vu z c t) v=(Qw z c t) v:=A1 _
def Rz[Lk]{α β:Type}(z:α)(c:α×α×Unit->Option (β×Unit))(t:β->Bool):(List α×Int×Int×Int×Unit)->Option ((List α×Int×Int×Int×Unit)⊕(List α×Unit)⊕(List α×Unit)⊕Unit):=fun(d,e,b,a,_)=>
 match(ile e (w64 ((w64 (2*a))+1)))with
 |true=>some (.inr (.inl (d,())))
 |false=>match(ilt (w64 ((w64 ((w64 (2*a))+1))+1)) e)with
 |true=>match idx d (w64 (b+(w64 ((w64 (2*a))+1))))with|none=>none|some j=>match idx d (w64 ((w64 (b+(w64 ((w64 (2*a))+1))))+1))with|none=>none|some k=>match c ((A_ d (A3 (w64 (b+(w64 ((w64 (2*a))+1))))) z),(A_ d (A3 (w64 ((w64 (b+(w64 ((w64 (2*a))+1))))+1))) z),())with|none=>none|some (f,_)=>match(t f)with
  |true=>match idx d (w64 (b+a))with|none=>none|some l=>match idx d (w64 (b+(w64 ((w64 ((w64 (2*a))+1))+1))))with|none=>none|some m=>match c ((A_ d (A3 (w64 (b+a))) z),(A_ d (A3 (w64 (b+(w64 ((w64 ((w64 (2*a))+1))+1))))) z),())with|none=>none|some (g,_)=>match(!(t g))with
   |true=>some (.inr (.inr (.inl (d,()))))
   |false=>match idx d (w64 (b+(w64 ((w64 ((w64 (2*a))+1))+1))))with|none=>none|some n=>match idx d (w64 (b+a))with|none=>none|some o=>match idx d (w64 (b+a))with|none=>none|some p=>match idx (Be d (A3 (w64 (b+a))) (A_ d (A3 (w64 (b+(w64 ((w64 ((w64 (2*a))+1))+1))))) z)) (w64 (b+(w64 ((w64 ((w64 (2*a))+1))+1))))with|none=>none|some q=>some (.inl ((Be (Be d (A3 (w64 (b+a))) (A_ d (A3 (w64 (b+(w64 ((w64 ((w64 (2*a))+1))+1))))) z)) (A3 (w64 (b+(w64 ((w64 ((w64 (2*a))+1))+1))))) (A_ d (A3 (w64 (b+a))) z)),e,b,(w64 ((w64 ((w64 (2*a))+1))+1)),()))
  |false=>match idx d (w64 (b+a))with|none=>none|some r=>match idx d (w64 (b+(w64 ((w64 (2*a))+1))))with|none=>none|some s=>match c ((A_ d (A3 (w64 (b+a))) z),(A_ d (A3 (w64 (b+(w64 ((w64 (2*a))+1))))) z),())with|none=>none|some (h,_)=>match(!(t h))with
  |true=>some (.inr (.inr (.inl (d,()))))
  |false=>match idx d (w64 (b+(w64 ((w64 (2*a))+1))))with|none=>none|some u=>match idx d (w64 (b+a))with|none=>none|some v=>match idx d (w64 (b+a))with|none=>none|some w=>match idx (Be d (A3 (w64 (b+a))) (A_ d (A3 (w64 (b+(w64 ((w64 (2*a))+1))))) z)) (w64 (b+(w64 ((w64 (2*a))+1))))with|none=>none|some x=>some (.inl ((Be (Be d (A3 (w64 (b+a))) (A_ d (A3 (w64 (b+(w64 ((w64 (2*a))+1))))) z)) (A3 (w64 (b+(w64 ((w64 (2*a))+1))))) (A_ d (A3 (w64 (b+a))) z)),e,b,(w64 ((w64 (2*a))+1)),()))
 |false=>match idx d (w64 (b+a))with|none=>none|some y=>match idx d (w64 (b+(w64 ((w64 (2*a))+1))))with|none=>none|some A=>match c ((A_ d (A3 (w64 (b+a))) z),(A_ d (A3 (w64 (b+(w64 ((w64 (2*a))+1))))) z),())with|none=>none|some (i,_)=>match(!(t i))with
 |true=>some (.inr (.inr (.inl (d,()))))
 |false=>match idx d (w64 (b+(w64 ((w64 (2*a))+1))))with|none=>none|some B=>match idx d (w64 (b+a))with|none=>none|some C=>match idx d (w64 (b+a))with|none=>none|some D=>match idx (Be d (A3 (w64 (b+a))) (A_ d (A3 (w64 (b+(w64 ((w64 (2*a))+1))))) z)) (w64 (b+(w64 ((w64 (2*a))+1))))with|none=>none|some E=>some (.inl ((Be (Be d (A3 (w64 (b+a))) (A_ d (A3 (w64 (b+(w64 ((w64 (2*a))+1))))) z)) (A3 (w64 (b+(w64 ((w64 (2*a))+1))))) (A_ d (A3 (w64 (b+a))) z)),e,b,(w64 ((w64 (2*a))+1)),()))
def MJ[Lk]{α β:Type}(z:α)(c:α×α×Unit->Option (β×Unit))(t:β->Bool):(List α×Int×Int×Int×Unit)->Option ((List α×Unit)):=fun(a,b,d,e,_)=>
 match A9 (Rz z c t) many (a,d,e,b,())with|none=>none|some r=>match r with
 |.inl (f,_)=>some (f,())
 |.inr r=>match r with
 |.inl (g,_)=>some (g,())
 |.inr _=>none
def WX[Lk]{α β:Type}(z:α)(c:α×α×Unit->Option (β×Unit))(t:β->Bool)(v:(List α×Int×Int×Int×Unit)):Option ((List α×Unit)):=Lk.f ((MJ z c t) v)
theorem AGc{α β:Type}(z:α)(c:α×α×Unit->Option (β×Unit))(t:β->Bool)(v:(List α×Int×Int×Int×Unit)):(WX z c t) v=(MJ z c t) v:=A1 _
def Sr[Lk]{α β:Type}(z:α)(c:α×α×Unit->Option (β×Unit))(t:β->Bool):(List α×Int×Int×Int×Unit)->Option ((List α×Int×Int×Int×Unit)⊕(List α×Unit)⊕Unit):=fun(b,a,e,d,_)=>
 match(ile 0 d)with
 |true=>match idx b (w64 (a+d))with|none=>none|some g=>match idx b a with|none=>none|some h=>match idx b a with|none=>none|some i=>match idx (Be b (A3 a) (A_ b (A3 (w64 (a+d))) z)) (w64 (a+d))with|none=>none|some j=>match(WX z c t) ((Be (Be b (A3 a) (A_ b (A3 (w64 (a+d))) z)) (A3 (w64 (a+d))) (A_ b (A3 a) z)),e,d,a,())with|none=>none|some (f,_)=>some (.inl (f,a,e,(w64 (d-1)),()))
 |false=>some (.inr (.inl (b,())))
def Ss[Lk]{α β:Type}(z:α)(c:α×α×Unit->Option (β×Unit))(t:β->Bool):(List α×Int×Int×Int×Int×Unit)->Option ((List α×Int×Int×Int×Int×Unit)⊕(List α×Int×Int×Int×Unit)⊕Unit):=fun(e,a,f,b,d,_)=>
 match(ile 0 d)with
 |true=>match(WX z c t) (e,d,b,a,())with|none=>none|some (g,_)=>some (.inl (g,a,f,b,(w64 (d-1)),()))
 |false=>some (.inr (.inl (e,a,f,b,())))
def Mn[Lk]{α β:Type}(z:α)(c:α×α×Unit->Option (β×Unit))(t:β->Bool):(List α×Int×Int×Unit)->Option ((List α×Unit)):=fun(d,a,b,_)=>
 match quo? .i64 (w64 ((w64 (b-a))-1)) 2 with|none=>none|some e=>match A9 (Ss z c t) many (d,a,0,(w64 (b-a)),e,())with|none=>none|some r=>match r with
 |.inl (f,g,h,i,_)=>match A9 (Sr z c t) many (f,g,h,(w64 (i-1)),())with|none=>none|some r=>match r with
  |.inl (j,_)=>some (j,())
  |.inr _=>none
 |.inr _=>none
def ar[Lk]{α β:Type}(z:α)(c:α×α×Unit->Option (β×Unit))(t:β->Bool)(v:(List α×Int×Int×Unit)):Option ((List α×Unit)):=Lk.f ((Mn z c t) v)
theorem AJL{α β:Type}(z:α)(c:α×α×Unit->Option (β×Unit))(t:β->Bool)(v:(List α×Int×Int×Unit)):(ar z c t) v=(Mn z c t) v:=A1 _
def Lo[Lk]{α β:Type}(z:α)(c:α×α×Unit->Option (β×Unit))(t:β->Bool):(List α×Int×Int×Int×Int×Int×Unit)->Option ((List α×Int×Int×Int×Int×Int×Unit)⊕(List α×Unit)⊕Unit):=fun(a,b,g,i,d,e,_)=>
 match quo? .i64 g 4 with|none=>none|some j=>match(ile e (w64 ((w64 (b+(w64 (j*2))))+1)))with
 |true=>match xorNext (i,())with|none=>none|some (h,f,_)=>match(ile g (w64 (IntKind.wrap .u64 ((BitVec.ofInt (IntKind.bits .u64) f &&& BitVec.ofInt (IntKind.bits .u64) (IntKind.wrap .u64 (d-1))).toNat))))with
  |true=>match idx a (w64 (b+(w64 ((w64 (IntKind.wrap .u64 ((BitVec.ofInt (IntKind.bits .u64) f &&& BitVec.ofInt (IntKind.bits .u64) (IntKind.wrap .u64 (d-1))).toNat)))-g))))with|none=>none|some k=>match idx a e with|none=>none|some l=>match idx a e with|none=>none|some m=>match idx (Be a (A3 e) (A_ a (A3 (w64 (b+(w64 ((w64 (IntKind.wrap .u64 ((BitVec.ofInt (IntKind.bits .u64) f &&& BitVec.ofInt (IntKind.bits .u64) (IntKind.wrap .u64 (d-1))).toNat)))-g))))) z)) (w64 (b+(w64 ((w64 (IntKind.wrap .u64 ((BitVec.ofInt (IntKind.bits .u64) f &&& BitVec.ofInt (IntKind.bits .u64) (IntKind.wrap .u64 (d-1))).toNat)))-g))))with|none=>none|some n=>some (.inl ((Be (Be a (A3 e) (A_ a (A3 (w64 (b+(w64 ((w64 (IntKind.wrap .u64 ((BitVec.ofInt (IntKind.bits .u64) f &&& BitVec.ofInt (IntKind.bits .u64) (IntKind.wrap .u64 (d-1))).toNat)))-g))))) z)) (A3 (w64 (b+(w64 ((w64 (IntKind.wrap .u64 ((BitVec.ofInt (IntKind.bits .u64) f &&& BitVec.ofInt (IntKind.bits .u64) (IntKind.wrap .u64 (d-1))).toNat)))-g))))) (A_ a (A3 e) z)),b,g,h,d,(w64 (e+1)),()))
  |false=>match idx a (w64 (b+(w64 (IntKind.wrap .u64 ((BitVec.ofInt (IntKind.bits .u64) f &&& BitVec.ofInt (IntKind.bits .u64) (IntKind.wrap .u64 (d-1))).toNat)))))with|none=>none|some o=>match idx a e with|none=>none|some p=>match idx a e with|none=>none|some q=>match idx (Be a (A3 e) (A_ a (A3 (w64 (b+(w64 (IntKind.wrap .u64 ((BitVec.ofInt (IntKind.bits .u64) f &&& BitVec.ofInt (IntKind.bits .u64) (IntKind.wrap .u64 (d-1))).toNat)))))) z)) (w64 (b+(w64 (IntKind.wrap .u64 ((BitVec.ofInt (IntKind.bits .u64) f &&& BitVec.ofInt (IntKind.bits .u64) (IntKind.wrap .u64 (d-1))).toNat)))))with|none=>none|some r=>some (.inl ((Be (Be a (A3 e) (A_ a (A3 (w64 (b+(w64 (IntKind.wrap .u64 ((BitVec.ofInt (IntKind.bits .u64) f &&& BitVec.ofInt (IntKind.bits .u64) (IntKind.wrap .u64 (d-1))).toNat)))))) z)) (A3 (w64 (b+(w64 (IntKind.wrap .u64 ((BitVec.ofInt (IntKind.bits .u64) f &&& BitVec.ofInt (IntKind.bits .u64) (IntKind.wrap .u64 (d-1))).toNat)))))) (A_ a (A3 e) z)),b,g,h,d,(w64 (e+1)),()))
 |false=>some (.inr (.inl (a,())))
def J3[Lk]{α β:Type}(z:α)(c:α×α×Unit->Option (β×Unit))(t:β->Bool):(List α×Int×Int×Unit)->Option ((List α×Unit)):=fun(d,a,b,_)=>
 match(ile 8 (w64 (b-a)))with
 |true=>match X6 ((w64 (b-a)),())with|none=>none|some (e,_)=>match quo? .i64 (w64 (b-a)) 4 with|none=>none|some f=>match A9 (Lo z c t) many (d,a,(w64 (b-a)),(IntKind.wrap .u64 (w64 (b-a))),e,(w64 ((w64 (a+(w64 (f*2))))-1)),())with|none=>none|some r=>match r with
  |.inl (g,_)=>some (g,())
  |.inr _=>none
 |false=>some (d,())
def RQ[Lk]{α β:Type}(z:α)(c:α×α×Unit->Option (β×Unit))(t:β->Bool)(v:(List α×Int×Int×Unit)):Option ((List α×Unit)):=Lk.f ((J3 z c t) v)
theorem AE5{α β:Type}(z:α)(c:α×α×Unit->Option (β×Unit))(t:β->Bool)(v:(List α×Int×Int×Unit)):(RQ z c t) v=(J3 z c t) v:=A1 _
def HC[Lk]{α β:Type}(z:α)(c:α×α×Unit->Option (β×Unit))(t:β->Bool):(List α×Int×Int×Int×Unit)->Option ((List α×Int×Int×Int×Unit)):=fun(a,b,d,e,_)=>
 match idx a d with|none=>none|some g=>match idx a b with|none=>none|some h=>match c ((A_ a (A3 d) z),(A_ a (A3 b) z),())with|none=>none|some (f,_)=>match(t f)with
 |true=>some (a,(w64 (e+1)),d,b,())
 |false=>some (a,e,b,d,())
def Ig[Lk]{α β:Type}(z:α)(c:α×α×Unit->Option (β×Unit))(t:β->Bool)(v:(List α×Int×Int×Int×Unit)):Option ((List α×Int×Int×Int×Unit)):=Lk.f ((HC z c t) v)
theorem vI{α β:Type}(z:α)(c:α×α×Unit->Option (β×Unit))(t:β->Bool)(v:(List α×Int×Int×Int×Unit)):(Ig z c t) v=(HC z c t) v:=A1 _
def HF[Lk]{α β:Type}(z:α)(c:α×α×Unit->Option (β×Unit))(t:β->Bool):(List α×Int×Int×Int×Int×Unit)->Option ((List α×Int×Int×Unit)):=fun(a,b,d,e,f,_)=>
 match(Ig z c t) (a,b,d,f,())with|none=>none|some (g,h,i,j,_)=>match(Ig z c t) (g,j,e,h,())with|none=>none|some (k,l,m,q,_)=>match(Ig z c t) (k,i,m,l,())with|none=>none|some (n,o,r,p,_)=>some (n,o,p,())
def Ii[Lk]{α β:Type}(z:α)(c:α×α×Unit->Option (β×Unit))(t:β->Bool)(v:(List α×Int×Int×Int×Int×Unit)):Option ((List α×Int×Int×Unit)):=Lk.f ((HF z c t) v)
theorem vY{α β:Type}(z:α)(c:α×α×Unit->Option (β×Unit))(t:β->Bool)(v:(List α×Int×Int×Int×Int×Unit)):(Ii z c t) v=(HF z c t) v:=A1 _
def HG[Lk]{α β:Type}(z:α)(c:α×α×Unit->Option (β×Unit))(t:β->Bool):(List α×Int×Int×Unit)->Option ((List α×Int×Int×Unit)):=fun(b,a,d,_)=>
 match(Ii z c t) (b,(w64 (a-1)),a,(w64 (a+1)),d,())with|none=>none|some (e,f,g,_)=>some (e,f,g,())
def Ij[Lk]{α β:Type}(z:α)(c:α×α×Unit->Option (β×Unit))(t:β->Bool)(v:(List α×Int×Int×Unit)):Option ((List α×Int×Int×Unit)):=Lk.f ((HG z c t) v)
theorem vd{α β:Type}(z:α)(c:α×α×Unit->Option (β×Unit))(t:β->Bool)(v:(List α×Int×Int×Unit)):(Ij z c t) v=(HG z c t) v:=A1 _
def JV[Lk]{α β:Type}(z:α)(c:α×α×Unit->Option (β×Unit))(t:β->Bool):(List α×Int×Int×Unit)->Option ((List α×Int×Int×Unit)):=fun(b,a,d,_)=>
 match quo? .i64 (w64 (d-a)) 4 with|none=>none|some j=>match quo? .i64 (w64 (d-a)) 4 with|none=>none|some e=>match quo? .i64 (w64 (d-a)) 4 with|none=>none|some k=>match(ile 8 (w64 (d-a)))with
 |true=>match(ile 50 (w64 (d-a)))with
  |true=>match(Ij z c t) (b,(w64 (a+(w64 (j*1)))),0,())with|none=>none|some (n,o,p,_)=>match(Ij z c t) (n,(w64 (a+(w64 (e*2)))),o,())with|none=>none|some (q,r,s,_)=>match(Ij z c t) (q,(w64 (a+(w64 (k*3)))),r,())with|none=>none|some (u,v,w,_)=>match(Ii z c t) (u,p,s,w,v,())with|none=>none|some (f,l,g,_)=>match(ieq l 0)with
   |true=>some (f,g,1,())
   |false=>match(ieq l 12)with
   |true=>some (f,g,2,())
   |false=>some (f,g,0,())
  |false=>match(Ii z c t) (b,(w64 (a+(w64 (j*1)))),(w64 (a+(w64 (e*2)))),(w64 (a+(w64 (k*3)))),0,())with|none=>none|some (h,m,i,_)=>match(ieq m 0)with
  |true=>some (h,i,1,())
  |false=>match(ieq m 12)with
  |true=>some (h,i,2,())
  |false=>some (h,i,0,())
 |false=>match(ieq 0 0)with
 |true=>some (b,(w64 (a+(w64 (e*2)))),1,())
 |false=>match(ieq 0 12)with
 |true=>some (b,(w64 (a+(w64 (e*2)))),2,())
 |false=>some (b,(w64 (a+(w64 (e*2)))),0,())
def Qa[Lk]{α β:Type}(z:α)(c:α×α×Unit->Option (β×Unit))(t:β->Bool)(v:(List α×Int×Int×Unit)):Option ((List α×Int×Int×Unit)):=Lk.f ((JV z c t) v)
theorem ABl{α β:Type}(z:α)(c:α×α×Unit->Option (β×Unit))(t:β->Bool)(v:(List α×Int×Int×Unit)):(Qa z c t) v=(JV z c t) v:=A1 _
def jI[Lk]{α β:Type}(z:α)(c:α×α×Unit->Option (β×Unit))(t:β->Bool):(List α×Int×Int×Unit)->Option ((List α×Int×Int×Unit)⊕(List α×Unit)⊕Unit):=fun(a,b,d,_)=>
 match(ilt b d)with
 |true=>match idx a d with|none=>none|some e=>match idx a b with|none=>none|some f=>match idx a b with|none=>none|some g=>match idx (Be a (A3 b) (A_ a (A3 d) z)) d with|none=>none|some h=>some (.inl ((Be (Be a (A3 b) (A_ a (A3 d) z)) (A3 d) (A_ a (A3 b) z)),(w64 (b+1)),(w64 (d-1)),()))
 |false=>some (.inr (.inl (a,())))
def QW[Lk]{α β:Type}(z:α)(c:α×α×Unit->Option (β×Unit))(t:β->Bool):(List α×Int×Int×Unit)->Option ((List α×Unit)):=fun(a,b,d,_)=>
 match A9 (jI z c t) many (a,b,(w64 (d-1)),())with|none=>none|some r=>match r with
 |.inl (e,_)=>some (e,())
 |.inr _=>none
def tg[Lk]{α β:Type}(z:α)(c:α×α×Unit->Option (β×Unit))(t:β->Bool)(v:(List α×Int×Int×Unit)):Option ((List α×Unit)):=Lk.f ((QW z c t) v)
theorem AMY{α β:Type}(z:α)(c:α×α×Unit->Option (β×Unit))(t:β->Bool)(v:(List α×Int×Int×Unit)):(tg z c t) v=(QW z c t) v:=A1 _
def KQ[Lk]{α β:Type}(z:α)(c:α×α×Unit->Option (β×Unit))(t:β->Bool):(List α×Int×Int×Int×Int×Int×Unit)->Option ((List α×Int×Int×Int×Int×Int×Unit)⊕(List α×Int×Int×Int×Int×Unit)⊕Unit):=fun(b,e,d,f,g,a,_)=>
 match(ilt a d)with
 |true=>match idx b a with|none=>none|some i=>match idx b (w64 (a-1))with|none=>none|some j=>match c ((A_ b (A3 a) z),(A_ b (A3 (w64 (a-1))) z),())with|none=>none|some (h,_)=>match(!(t h))with
  |true=>some (.inr (.inl (b,e,d,f,g,())))
  |false=>match idx b (w64 (a-1))with|none=>none|some k=>match idx b a with|none=>none|some l=>match idx b a with|none=>none|some m=>match idx (Be b (A3 a) (A_ b (A3 (w64 (a-1))) z)) (w64 (a-1))with|none=>none|some n=>some (.inl ((Be (Be b (A3 a) (A_ b (A3 (w64 (a-1))) z)) (A3 (w64 (a-1))) (A_ b (A3 a) z)),e,d,f,g,(w64 (a+1)),()))
 |false=>some (.inr (.inl (b,e,d,f,g,())))
def KR[Lk]{α β:Type}(z:α)(c:α×α×Unit->Option (β×Unit))(t:β->Bool):(List α×Int×Int×Int×Int×Int×Unit)->Option ((List α×Int×Int×Int×Int×Int×Unit)⊕(List α×Int×Int×Int×Int×Unit)⊕Unit):=fun(b,d,e,f,g,a,_)=>
 match(ile 1 a)with
 |true=>match idx b a with|none=>none|some i=>match idx b (w64 (a-1))with|none=>none|some j=>match c ((A_ b (A3 a) z),(A_ b (A3 (w64 (a-1))) z),())with|none=>none|some (h,_)=>match(!(t h))with
  |true=>some (.inr (.inl (b,d,e,f,g,())))
  |false=>match idx b (w64 (a-1))with|none=>none|some k=>match idx b a with|none=>none|some l=>match idx b a with|none=>none|some m=>match idx (Be b (A3 a) (A_ b (A3 (w64 (a-1))) z)) (w64 (a-1))with|none=>none|some n=>some (.inl ((Be (Be b (A3 a) (A_ b (A3 (w64 (a-1))) z)) (A3 (w64 (a-1))) (A_ b (A3 a) z)),d,e,f,g,(w64 (a-1)),()))
 |false=>some (.inr (.inl (b,d,e,f,g,())))
def Ny[Lk]{α β:Type}(z:α)(c:α×α×Unit->Option (β×Unit))(t:β->Bool):(List α×Int×Int×Int×Int×Unit)->Option ((List α×Int×Int×Int×Int×Unit)⊕(List α×Int×Int×Int×Int×Unit)⊕Unit):=fun(b,e,d,a,f,_)=>
 match(ilt a d)with
 |true=>match idx b a with|none=>none|some h=>match idx b (w64 (a-1))with|none=>none|some i=>match c ((A_ b (A3 a) z),(A_ b (A3 (w64 (a-1))) z),())with|none=>none|some (g,_)=>match(!(t g))with
  |true=>some (.inl (b,e,d,(w64 (a+1)),f,()))
  |false=>some (.inr (.inl (b,e,d,a,f,())))
 |false=>some (.inr (.inl (b,e,d,a,f,())))
def Ev[Lk]{α β:Type}(z:α)(c:α×α×Unit->Option (β×Unit))(t:β->Bool):(List α×Int×Int×Int×Int×Unit)->Option ((List α×Int×Int×Int×Int×Unit)⊕(List α×Bool×Unit)⊕(List α×Unit)⊕Unit):=fun(i,n,o,p,j,_)=>
 match(ilt j 5)with
 |true=>match A9 (Ny z c t) many (i,n,o,p,j,())with|none=>none|some r=>match r with
  |.inl (b,e,d,a,g,_)=>match(ieq a d)with
   |true=>some (.inr (.inl (b,true,())))
   |false=>match(ilt (w64 (d-e)) 50)with
   |true=>some (.inr (.inl (b,false,())))
   |false=>match idx b (w64 (a-1))with|none=>none|some D=>match idx b a with|none=>none|some E=>match idx b a with|none=>none|some F=>match idx (Be b (A3 a) (A_ b (A3 (w64 (a-1))) z)) (w64 (a-1))with|none=>none|some G=>match(ile 2 (w64 (a-e)))with
   |true=>match A9 (KR z c t) many ((Be (Be b (A3 a) (A_ b (A3 (w64 (a-1))) z)) (A3 (w64 (a-1))) (A_ b (A3 a) z)),e,d,a,g,(w64 (a-1)),())with|none=>none|some r=>match r with
    |.inl (k,l,h,f,m,_)=>match(ile 2 (w64 (h-f)))with
     |true=>match A9 (KQ z c t) many (k,l,h,f,m,(w64 (f+1)),())with|none=>none|some r=>match r with
      |.inl (q,s,u,v,w,_)=>some (.inl (q,s,u,v,(w64 (w+1)),()))
      |.inr _=>none
     |false=>some (.inl (k,l,h,f,(w64 (m+1)),()))
    |.inr _=>none
   |false=>match(ile 2 (w64 (d-a)))with
   |true=>match A9 (KQ z c t) many ((Be (Be b (A3 a) (A_ b (A3 (w64 (a-1))) z)) (A3 (w64 (a-1))) (A_ b (A3 a) z)),e,d,a,g,(w64 (a+1)),())with|none=>none|some r=>match r with
    |.inl (x,y,A,B,C,_)=>some (.inl (x,y,A,B,(w64 (C+1)),()))
    |.inr _=>none
   |false=>some (.inl ((Be (Be b (A3 a) (A_ b (A3 (w64 (a-1))) z)) (A3 (w64 (a-1))) (A_ b (A3 a) z)),e,d,a,(w64 (g+1)),()))
  |.inr _=>none
 |false=>some (.inr (.inr (.inl (i,()))))
def Fu[Lk]{α β:Type}(z:α)(c:α×α×Unit->Option (β×Unit))(t:β->Bool):(List α×Int×Int×Unit)->Option ((List α×Bool×Unit)):=fun(b,a,d,_)=>
 match A9 (Ev z c t) many (b,a,d,(w64 (a+1)),0,())with|none=>none|some r=>match r with
 |.inl (e,f,_)=>some (e,f,())
 |.inr r=>match r with
 |.inl (g,_)=>some (g,false,())
 |.inr _=>none
def JY[Lk]{α β:Type}(z:α)(c:α×α×Unit->Option (β×Unit))(t:β->Bool)(v:(List α×Int×Int×Unit)):Option ((List α×Bool×Unit)):=Lk.f ((Fu z c t) v)
theorem pH{α β:Type}(z:α)(c:α×α×Unit->Option (β×Unit))(t:β->Bool)(v:(List α×Int×Int×Unit)):(JY z c t) v=(Fu z c t) v:=A1 _
def Qg[Lk]{α β:Type}(z:α)(c:α×α×Unit->Option (β×Unit))(t:β->Bool):(List α×Int×Int×Int×Unit)->Option ((List α×Int×Int×Int×Unit)⊕(List α×Int×Int×Int×Unit)⊕Unit):=fun(a,d,e,b,_)=>
 match(ile e b)with
 |true=>match idx a d with|none=>none|some g=>match idx a b with|none=>none|some h=>match c ((A_ a (A3 d) z),(A_ a (A3 b) z),())with|none=>none|some (f,_)=>match(t f)with
  |true=>some (.inl (a,d,e,(w64 (b-1)),()))
  |false=>some (.inr (.inl (a,d,e,b,())))
 |false=>some (.inr (.inl (a,d,e,b,())))
def Qh[Lk]{α β:Type}(z:α)(c:α×α×Unit->Option (β×Unit))(t:β->Bool):(List α×Int×Int×Int×Unit)->Option ((List α×Int×Int×Int×Unit)⊕(List α×Int×Int×Int×Unit)⊕Unit):=fun(a,d,b,e,_)=>
 match(ile b e)with
 |true=>match idx a d with|none=>none|some g=>match idx a b with|none=>none|some h=>match c ((A_ a (A3 d) z),(A_ a (A3 b) z),())with|none=>none|some (f,_)=>match(!(t f))with
  |true=>some (.inl (a,d,(w64 (b+1)),e,()))
  |false=>some (.inr (.inl (a,d,b,e,())))
 |false=>some (.inr (.inl (a,d,b,e,())))
def Qi[Lk]{α β:Type}(z:α)(c:α×α×Unit->Option (β×Unit))(t:β->Bool):(List α×Int×Int×Int×Unit)->Option ((List α×Int×Int×Int×Unit)⊕(List α×Int×Unit)⊕Unit):=fun(e,f,g,h,_)=>
 match A9 (Qh z c t) many (e,f,g,h,())with|none=>none|some r=>match r with
 |.inl (i,j,k,l,_)=>match A9 (Qg z c t) many (i,j,k,l,())with|none=>none|some r=>match r with
  |.inl (a,m,b,d,_)=>match(ilt d b)with
   |true=>some (.inr (.inl (a,b,())))
   |false=>match idx a d with|none=>none|some n=>match idx a b with|none=>none|some o=>match idx a b with|none=>none|some p=>match idx (Be a (A3 b) (A_ a (A3 d) z)) d with|none=>none|some q=>some (.inl ((Be (Be a (A3 b) (A_ a (A3 d) z)) (A3 d) (A_ a (A3 b) z)),m,(w64 (b+1)),(w64 (d-1)),()))
  |.inr _=>none
 |.inr _=>none
def HA[Lk]{α β:Type}(z:α)(c:α×α×Unit->Option (β×Unit))(t:β->Bool):(List α×Int×Int×Int×Unit)->Option ((List α×Int×Unit)):=fun(a,b,e,d,_)=>
 match idx a d with|none=>none|some h=>match idx a b with|none=>none|some i=>match idx a b with|none=>none|some j=>match idx (Be a (A3 b) (A_ a (A3 d) z)) d with|none=>none|some k=>match A9 (Qi z c t) many ((Be (Be a (A3 b) (A_ a (A3 d) z)) (A3 d) (A_ a (A3 b) z)),b,(w64 (b+1)),(w64 (e-1)),())with|none=>none|some r=>match r with
 |.inl (f,g,_)=>some (f,g,())
 |.inr _=>none
def MQ[Lk]{α β:Type}(z:α)(c:α×α×Unit->Option (β×Unit))(t:β->Bool)(v:(List α×Int×Int×Int×Unit)):Option ((List α×Int×Unit)):=Lk.f ((HA z c t) v)
theorem vA{α β:Type}(z:α)(c:α×α×Unit->Option (β×Unit))(t:β->Bool)(v:(List α×Int×Int×Int×Unit)):(MQ z c t) v=(HA z c t) v:=A1 _
def Zz[Lk]{α β:Type}(z:α)(c:α×α×Unit->Option (β×Unit))(t:β->Bool):(List α×Int×Int×Int×Unit)->Option ((List α×Int×Int×Int×Unit)⊕(List α×Int×Int×Int×Unit)⊕Unit):=fun(a,d,e,b,_)=>
 match(ile e b)with
 |true=>match idx a b with|none=>none|some g=>match idx a d with|none=>none|some h=>match c ((A_ a (A3 b) z),(A_ a (A3 d) z),())with|none=>none|some (f,_)=>match(!(t f))with
  |true=>some (.inl (a,d,e,(w64 (b-1)),()))
  |false=>some (.inr (.inl (a,d,e,b,())))
 |false=>some (.inr (.inl (a,d,e,b,())))
def Z0[Lk]{α β:Type}(z:α)(c:α×α×Unit->Option (β×Unit))(t:β->Bool):(List α×Int×Int×Int×Unit)->Option ((List α×Int×Int×Int×Unit)⊕(List α×Int×Int×Int×Unit)⊕Unit):=fun(a,d,b,e,_)=>
 match(ile b e)with
 |true=>match idx a b with|none=>none|some g=>match idx a d with|none=>none|some h=>match c ((A_ a (A3 b) z),(A_ a (A3 d) z),())with|none=>none|some (f,_)=>match(t f)with
  |true=>some (.inl (a,d,(w64 (b+1)),e,()))
  |false=>some (.inr (.inl (a,d,b,e,())))
 |false=>some (.inr (.inl (a,d,b,e,())))
def Z1[Lk]{α β:Type}(z:α)(c:α×α×Unit->Option (β×Unit))(t:β->Bool):(List α×Int×Int×Int×Unit)->Option ((List α×Int×Int×Int×Unit)⊕(List α×Int×Int×Unit)⊕Unit):=fun(f,g,h,i,_)=>
 match A9 (Z0 z c t) many (f,g,h,i,())with|none=>none|some r=>match r with
 |.inl (j,k,l,m,_)=>match A9 (Zz z c t) many (j,k,l,m,())with|none=>none|some r=>match r with
  |.inl (a,e,d,b,_)=>match(ilt b d)with
   |true=>some (.inr (.inl (a,e,b,())))
   |false=>match idx a b with|none=>none|some n=>match idx a d with|none=>none|some o=>match idx a d with|none=>none|some p=>match idx (Be a (A3 d) (A_ a (A3 b) z)) b with|none=>none|some q=>some (.inl ((Be (Be a (A3 d) (A_ a (A3 b) z)) (A3 b) (A_ a (A3 d) z)),e,(w64 (d+1)),(w64 (b-1)),()))
  |.inr _=>none
 |.inr _=>none
def Z2[Lk]{α β:Type}(z:α)(c:α×α×Unit->Option (β×Unit))(t:β->Bool):(List α×Int×Int×Int×Unit)->Option ((List α×Int×Int×Int×Unit)⊕(List α×Int×Int×Int×Unit)⊕Unit):=fun(a,d,e,b,_)=>
 match(ile e b)with
 |true=>match idx a b with|none=>none|some g=>match idx a d with|none=>none|some h=>match c ((A_ a (A3 b) z),(A_ a (A3 d) z),())with|none=>none|some (f,_)=>match(!(t f))with
  |true=>some (.inl (a,d,e,(w64 (b-1)),()))
  |false=>some (.inr (.inl (a,d,e,b,())))
 |false=>some (.inr (.inl (a,d,e,b,())))
def Z3[Lk]{α β:Type}(z:α)(c:α×α×Unit->Option (β×Unit))(t:β->Bool):(List α×Int×Int×Int×Unit)->Option ((List α×Int×Int×Int×Unit)⊕(List α×Int×Int×Int×Unit)⊕Unit):=fun(a,d,b,e,_)=>
 match(ile b e)with
 |true=>match idx a b with|none=>none|some g=>match idx a d with|none=>none|some h=>match c ((A_ a (A3 b) z),(A_ a (A3 d) z),())with|none=>none|some (f,_)=>match(t f)with
  |true=>some (.inl (a,d,(w64 (b+1)),e,()))
  |false=>some (.inr (.inl (a,d,b,e,())))
 |false=>some (.inr (.inl (a,d,b,e,())))
def MP[Lk]{α β:Type}(z:α)(c:α×α×Unit->Option (β×Unit))(t:β->Bool):(List α×Int×Int×Int×Unit)->Option ((List α×Int×Bool×Unit)):=fun(d,f,l,j,_)=>
 match idx d j with|none=>none|some q=>match idx d f with|none=>none|some s=>match idx d f with|none=>none|some u=>match idx (Be d (A3 f) (A_ d (A3 j) z)) j with|none=>none|some v=>match A9 (Z3 z c t) many ((Be (Be d (A3 f) (A_ d (A3 j) z)) (A3 j) (A_ d (A3 f) z)),f,(w64 (f+1)),(w64 (l-1)),())with|none=>none|some r=>match r with
 |.inl (m,n,o,p,_)=>match A9 (Z2 z c t) many (m,n,o,p,())with|none=>none|some r=>match r with
  |.inl (a,h,g,b,_)=>match(ilt b g)with
   |true=>match idx a h with|none=>none|some w=>match idx a b with|none=>none|some x=>match idx a b with|none=>none|some y=>match idx (Be a (A3 b) (A_ a (A3 h) z)) h with|none=>none|some A=>some ((Be (Be a (A3 b) (A_ a (A3 h) z)) (A3 h) (A_ a (A3 b) z)),b,true,())
   |false=>match idx a b with|none=>none|some B=>match idx a g with|none=>none|some C=>match idx a g with|none=>none|some D=>match idx (Be a (A3 g) (A_ a (A3 b) z)) b with|none=>none|some E=>match A9 (Z1 z c t) many ((Be (Be a (A3 g) (A_ a (A3 b) z)) (A3 b) (A_ a (A3 g) z)),h,(w64 (g+1)),(w64 (b-1)),())with|none=>none|some r=>match r with
   |.inl (e,k,i,_)=>match idx e k with|none=>none|some F=>match idx e i with|none=>none|some G=>match idx e i with|none=>none|some H=>match idx (Be e (A3 i) (A_ e (A3 k) z)) k with|none=>none|some I=>some ((Be (Be e (A3 i) (A_ e (A3 k) z)) (A3 k) (A_ e (A3 i) z)),i,false,())
   |.inr _=>none
  |.inr _=>none
 |.inr _=>none
def SH[Lk]{α β:Type}(z:α)(c:α×α×Unit->Option (β×Unit))(t:β->Bool)(v:(List α×Int×Int×Int×Unit)):Option ((List α×Int×Bool×Unit)):=Lk.f ((MP z c t) v)
theorem AIH{α β:Type}(z:α)(c:α×α×Unit->Option (β×Unit))(t:β->Bool)(v:(List α×Int×Int×Int×Unit)):(SH z c t) v=(MP z c t) v:=A1 _
def UK[Lk]{α β:Type}(z:α)(c:α×α×Unit->Option (β×Unit))(t:β->Bool)(self:(List α×Int×Int×Int×Unit)->Option ((List α×Unit)))(f:List α)(a b p l:Int)(n o:Bool):Option ((List α×Int×Int×Int×Bool×Bool×Unit)⊕(List α×Unit)⊕Unit):=
 match(ilt 0 a)with
 |true=>match idx f (w64 (a-1))with|none=>none|some y=>match idx f p with|none=>none|some A=>match c ((A_ f (A3 (w64 (a-1))) z),(A_ f (A3 p) z),())with|none=>none|some (q,_)=>match(!(t q))with
  |true=>match(MQ z c t) (f,a,b,p,())with|none=>none|some (r,s,_)=>some (.inl (r,s,b,l,n,o,()))
  |false=>match(SH z c t) (f,a,b,p,())with|none=>none|some (g,d,h,_)=>match quo? .i64 (w64 (b-a)) 8 with|none=>none|some i=>match(ilt (w64 (d-a)) (w64 (b-d)))with
  |true=>match self (g,a,d,l,())with|none=>none|some (u,_)=>some (.inl (u,(w64 (d+1)),b,l,(ile i (w64 (d-a))),h,()))
  |false=>match self (g,(w64 (d+1)),b,l,())with|none=>none|some (v,_)=>some (.inl (v,a,d,l,(ile i (w64 (b-d))),h,()))
 |false=>match(SH z c t) (f,a,b,p,())with|none=>none|some (j,e,k,_)=>match quo? .i64 (w64 (b-a)) 8 with|none=>none|some m=>match(ilt (w64 (e-a)) (w64 (b-e)))with
 |true=>match self (j,a,e,l,())with|none=>none|some (w,_)=>some (.inl (w,(w64 (e+1)),b,l,(ile m (w64 (e-a))),k,()))
 |false=>match self (j,(w64 (e+1)),b,l,())with|none=>none|some (x,_)=>some (.inl (x,a,e,l,(ile m (w64 (b-e))),k,()))
def je[Lk]{α β:Type}(z:α)(c:α×α×Unit->Option (β×Unit))(t:β->Bool)(self:(List α×Int×Int×Int×Unit)->Option ((List α×Unit)))(f:List α)(a b p h l:Int)(d e:Bool):Option ((List α×Int×Int×Int×Bool×Bool×Unit)⊕(List α×Unit)⊕Unit):=
 match d with
 |true=>match e with
  |true=>match(ieq h 1)with
   |true=>match(JY z c t) (f,a,b,())with|none=>none|some (g,i,_)=>match i with
    |true=>some (.inr (.inl (g,())))
    |false=>(UK z c t) self g a b p l d e
   |false=>(UK z c t) self f a b p l d e
  |false=>(UK z c t) self f a b p l d e
 |false=>(UK z c t) self f a b p l d e
def jd[Lk]{α β:Type}(z:α)(c:α×α×Unit->Option (β×Unit))(t:β->Bool)(self:(List α×Int×Int×Int×Unit)->Option ((List α×Unit)))(i:List α)(a b l:Int)(d e:Bool):Option ((List α×Int×Int×Int×Bool×Bool×Unit)⊕(List α×Unit)⊕Unit):=
 match(Qa z c t) (i,a,b,())with|none=>none|some (f,g,h,_)=>match(ieq h 2)with
 |true=>match(tg z c t) (f,a,b,())with|none=>none|some (j,_)=>(je z c t) self j a b (w64 ((w64 (b-1))-(w64 (g-a)))) 1 l d e
 |false=>(je z c t) self f a b g h l d e
def KP[Lk]{α β:Type}(z:α)(c:α×α×Unit->Option (β×Unit))(t:β->Bool)(self:(List α×Int×Int×Int×Unit)->Option ((List α×Unit))):(List α×Int×Int×Int×Bool×Bool×Unit)->Option ((List α×Int×Int×Int×Bool×Bool×Unit)⊕(List α×Unit)⊕Unit):=fun(d,a,b,e,f,g,_)=>
 match(ile (w64 (b-a)) 12)with
 |true=>match(vu z c t) (d,a,b,())with|none=>none|some (h,_)=>some (.inr (.inl (h,())))
 |false=>match(ieq e 0)with
 |true=>match(ar z c t) (d,a,b,())with|none=>none|some (i,_)=>some (.inr (.inl (i,())))
 |false=>match(!f)with
 |true=>match(RQ z c t) (d,a,b,())with|none=>none|some (j,_)=>(jd z c t) self j a b (w64 (e-1)) f g
 |false=>(jd z c t) self d a b e f g
def Qc[Lk]{α β:Type}(z:α)(c:α×α×Unit->Option (β×Unit))(t:β->Bool)(self:(List α×Int×Int×Int×Unit)->Option ((List α×Unit))):(List α×Int×Int×Int×Unit)->Option ((List α×Unit)):=fun(a,b,d,e,_)=>
 match A9 ((KP z c t) self) many (a,b,d,e,true,true,())with|none=>none|some r=>match r with
 |.inl (f,_)=>some (f,())
 |.inr _=>none
def JX[Lk]{α β:Type}(z:α)(c:α×α×Unit->Option (β×Unit))(t:β->Bool):Nat->(List α×Int×Int×Int×Unit)->Option ((List α×Unit))
 |0,_=>none
 |n+1,v=>(Qc z c t) ((JX z c t) n) v
def uV[Lk]{α β:Type}(z:α)(c:α×α×Unit->Option (β×Unit))(t:β->Bool)(v:(List α×Int×Int×Int×Unit)):Option ((List α×Unit)):=Lk.f ((JX z c t) 100 v)
theorem AMz{α β:Type}(z:α)(c:α×α×Unit->Option (β×Unit))(t:β->Bool)(v:(List α×Int×Int×Int×Unit)):(uV z c t) v=(JX z c t) 100 v:=A1 _
def MG[Lk]{α β:Type}(z:α)(c:α×α×Unit->Option (β×Unit))(t:β->Bool):(List α×Unit)->Option ((List α×Unit)):=fun(a,_)=>
 match bitsLen ((IntKind.wrap .u64 (A4 a)),())with|none=>none|some (b,_)=>match(uV z c t) (a,0,(A4 a),b,())with|none=>none|some (d,_)=>some (d,())
def eb[Lk]{α β:Type}(z:α)(c:α×α×Unit->Option (β×Unit))(t:β->Bool)(v:(List α×Unit)):Option ((List α×Unit)):=Lk.f ((MG z c t) v)
theorem AGN{α β:Type}(z:α)(c:α×α×Unit->Option (β×Unit))(t:β->Bool)(v:(List α×Unit)):(eb z c t) v=(MG z c t) v:=A1 _
abbrev Ag:Loc×Con:=(.tmp 3,.clo 168 [])
abbrev Ah:Loc×Con:=(.tmp 0,.own 56 U6)
abbrev VD:A0:=[Ah,AF,AG,Ag]
abbrev Ai:Loc×Con:=(.obj 0,.own 56 U6)
abbrev Jg:A0:=[Ai]
abbrev Bv:List RS:=[]
abbrev Aj:Loc×Con:=(.tmp 0,.own' 0)
abbrev ANh:A0:=[Ai,Aj,AF,AG,Ag,AQ,Ac]
abbrev ANg:BI:=[(.exit 2,[Ai,Aj,AF,AG,Ag,AQ])]
abbrev ANi:A0:=[Ai,Aj,AF,AG,Ag,AQ]
abbrev kC:BI:=[(.exit 0,[Ai])]
def AQX[Lk]:=Qw (([]:List (Int)):U7) C8 tLt
def ARc[Lk]:=vu (([]:List (Int)):U7) C8 tLt
theorem ANj v:ARc v=AQX v:=A1 _
abbrev Ak:Loc×Con:=(.tmp 4,.clo 168 [])
abbrev KL:A0:=[Ah,AF,AG,AS,Ak]
abbrev AGX:A0:=[Ai,Aj,AG,AS,Ak,Aa]
abbrev AGW:BI:=[(.exit 0,[Ai]),(.ret,[Ai])]
def AME[Lk]:=MJ (([]:List (Int)):U7) C8 tLt
def APH[Lk]:=WX (([]:List (Int)):U7) C8 tLt
theorem AGY v:APH v=AME v:=A1 _
abbrev AJD:A0:=[Ai,Aj,Ag,AQ,Ac,AM]
abbrev AJB:BI:=[(.exit 2,[Ai])]
abbrev AJE:A0:=[Ai,Aj,Ag,AQ,Ac,Aa,AZ]
abbrev AJC:BI:=[(.exit 0,[Ai,Aj,Ag,AQ,Ac,Aa])]
def ANy[Lk]:=Mn (([]:List (Int)):U7) C8 tLt
def APR[Lk]:=ar (([]:List (Int)):U7) C8 tLt
theorem AJF v:APR v=ANy v:=A1 _
abbrev Al:Loc×Con:=(.tmp 3,.box 1)
abbrev ACK:A0:=[Ah,AF,AG,Al,AJ,Ak]
abbrev Am:Loc×Con:=(.obj 1,.box 1)
abbrev ACJ:A0:=[Ai,Am,AJ,AA,AF]
abbrev BZ:List RS:=[.one,.one]
def ACL[Lk]:=HC (([]:List (Int)):U7) C8 tLt
def yl[Lk]:=Ig (([]:List (Int)):U7) C8 tLt
theorem vG v:yl v=ACL v:=A1 _
abbrev An:Loc×Con:=(.tmp 4,.box 1)
abbrev ACj:A0:=[Ah,AF,AG,AS,An,AJ,(.tmp 5,.clo 168 [])]
abbrev fT:A0:=[Ai,Am,AJ,AA]
def ACk[Lk]:=HF (([]:List (Int)):U7) C8 tLt
def zA[Lk]:=Ii (([]:List (Int)):U7) C8 tLt
theorem vW v:zA v=ACk v:=A1 _
abbrev Ao:Loc×Con:=(.tmp 2,.box 1)
abbrev ACv:A0:=[Ah,AF,Ao,AJ,Ag]
def ACw[Lk]:=HG (([]:List (Int)):U7) C8 tLt
def zE[Lk]:=Ij (([]:List (Int)):U7) C8 tLt
theorem vb v:zE v=ACw v:=A1 _
abbrev AHb:A0:=[Ai,AA,AF]
def AHc[Lk]:=JV (([]:List (Int)):U7) C8 tLt
def AHe[Lk]:=Qa (([]:List (Int)):U7) C8 tLt
theorem ABj v:AHe v=AHc v:=A1 _
abbrev AMU:A0:=[Ai,Aj,AQ,Ac]
def APp[Lk]:=QW (([]:List (Int)):U7) C8 tLt
def ARM[Lk]:=tg (([]:List (Int)):U7) C8 tLt
theorem AMV v:ARM v=APp v:=A1 _
abbrev ue:A0:=[Ai,AE]
abbrev oq:A0:=[Ai,Aj,AF,AG,Ag,Ac,Aa,AM]
abbrev oh:BI:=[(.exit 6,[Ai,Aj,AF,AG,Ag,Ac,Aa])]
abbrev ot:A0:=[Ai,Aj,AF,AG,Ag,Ac,Aa,AZ]
abbrev oi:BI:=[(.exit 4,[Ai,Aj,AF,AG,Ag,Ac,Aa])]
abbrev Wi:A0:=[Ai,Aj,AF,AG,Ag,Ac,Aa]
abbrev om:BI:=[(.exit 2,[Ai,Aj,AF,AG,Ag,Ac,Aa])]
abbrev Ap:Loc×Con:=(.tmp 8,.dat .bool)
abbrev oo:BI:=[(.ret,[Ai,Ap]),(.exit 0,[Ai])]
def uf[Lk]:=Fu (([]:List (Int)):U7) C8 tLt
def ow[Lk]:=JY (([]:List (Int)):U7) C8 tLt
theorem ou v:ow v=uf v:=A1 _
abbrev AB6:A0:=[Ai,AA]
abbrev Qe:A0:=[Ai,Aj,AF,Ak,AZ,AM]
abbrev uw:BI:=[(.exit 4,[Ai,Aj,AF,Ak,AZ,AM])]
abbrev ux:BI:=[(.exit 2,[Ai,Aj,AF,Ak,AZ,AM])]
abbrev uy:BI:=[(.exit 0,[Ai,AZ])]
def AB7[Lk]:=HA (([]:List (Int)):U7) C8 tLt
def yh[Lk]:=MQ (([]:List (Int)):U7) C8 tLt
theorem uz v:yh v=AB7 v:=A1 _
abbrev Aq:Loc×Con:=(.tmp 1,.dat .bool)
abbrev AM8:A0:=[Ai,AA,Aq]
abbrev Nx:A0:=[Ai,Aj,AF,Ak,AM,AN]
abbrev AH4:BI:=[(.exit 8,[Ai,Aj,AF,Ak,AM,AN])]
abbrev AH5:BI:=[(.exit 6,[Ai,Aj,AF,Ak,AM,AN])]
abbrev AH6:BI:=[(.exit 4,[Ai,Aj,AF,AN])]
abbrev AH7:BI:=[(.exit 2,[Ai,Aj,AF,Ak,AM,AN])]
abbrev AH8:BI:=[(.exit 0,[Ai,Aj,AF,Ak,AM,AN])]
def AM9[Lk]:=MP (([]:List (Int)):U7) C8 tLt
def APM[Lk]:=SH (([]:List (Int)):U7) C8 tLt
theorem AH9 v:APM v=AM9 v:=A1 _
abbrev Ar:Loc×Con:=(.cell 0 1,.dat Uf)
abbrev LZ:A0:=[AO,(.cap 1 0,.box 2),AL,Ar,(.tmp 1,.clo 159 [(0,0)])]
abbrev As:Loc×Con:=(.obj 0,.box 2)
abbrev VK:A0:=[As,AL,Ar,AA]
abbrev Sk:A0:=[As,AL,Ar,AO,(.tmp 1,.clo 159 [(0,0)]),AP,AQ]
abbrev Sj:BI:=[(.ret,[As,AL,Ar,AR]),(.exit 0,[As,AL,Ar])]
def Dt[Lk]:(Int×List U7×List Int×Int×Int×Unit)->Option ((Int×List U7×List Int×Int×Int×Unit)⊕(Int×List U7×Int×Unit)⊕(Int×List U7×Unit)⊕Unit):=fun(a,c,d,e,b,_)=>
 match(ilt b e)with
 |true=>match idx d b with|none=>none|some f=>match(ilt f 0)with
  |true=>some (.inr (.inl (a,c,b,())))
  |false=>match(ile a f)with
  |true=>some (.inr (.inl (a,c,b,())))
  |false=>some (.inl (a,c,d,e,(w64 (b+1)),()))
 |false=>some (.inr (.inr (.inl (a,c,()))))
def HN[Lk]:Vj->Option ((Int×List U7×Int×Unit)):=fun(a,b,c,_)=>
 match A9 Dt many (b,c,a,(A4 a),0,())with|none=>none|some r=>match r with
 |.inl (d,e,f,_)=>some (d,e,f,())
 |.inr r=>match r with
 |.inl (g,h,_)=>some (g,h,(-1:Int),())
 |.inr _=>none
def Jk[Lk]:=lkk HN
theorem Ka v:Jk v=HN v:=A1 _
abbrev At:Loc×Con:=(.tmp 0,.dat Uu)
abbrev AQo:A0:=[At]
abbrev Au:Loc×Con:=(.tmp 3,.own 3 U0)
abbrev AON:A0:=[Au,(.tmp 6,.dat Uu),AP,AQ]
abbrev zb:BI:=[(.exit 0,[Au])]
def S6[Lk]:(List Int×List U4×Int×Int×Unit)->Option ((List Int×List U4×Int×Int×Unit)⊕Uh⊕Unit):=fun(b,d,e,c,_)=>
 match(ilt c e)with
 |true=>match idx d c with|none=>none|some a=>match(fits ((A4 b)+(A4 ([a.1,a.2.1]:List (Int)))))with
  |true=>some (.inl ((B6 b ([a.1,a.2.1]:List (Int))),d,e,(w64 (c+1)),()))
  |false=>none
 |false=>some (.inr (.inl (b,())))
def wQ[Lk]:V1->Option (Uh):=fun(a,_)=>
 match A9 S6 many (([]:List (Int)),a,(A4 a),0,())with|none=>none|some r=>match r with
 |.inl (b,_)=>some (b,())
 |.inr _=>none
def ends[Lk]:=lkk wQ
theorem zc v:ends v=wQ v:=A1 _
abbrev AQP:A0:=[AS,(.tmp 6,.dat U6),AP,AQ]
abbrev AQO:BI:=[(.ret,[AG]),(.exit 0,[AS])]
def JZ[Lk]:(Int×List Int×Int×Int×Unit)->Option ((Int×List Int×Int×Int×Unit)⊕Ub⊕Ub⊕Unit):=fun(a,c,d,b,_)=>
 match(ilt b d)with
 |true=>match idx c b with|none=>none|some e=>match(!(ieq e a))with
  |true=>some (.inr (.inl (e,())))
  |false=>some (.inl (a,c,d,(w64 (b+1)),()))
 |false=>some (.inr (.inr (.inl (a,()))))
def pW[Lk]:Uh->Option (Ub):=fun(a,_)=>
 match A9 JZ many (0,a,(A4 a),0,())with|none=>none|some r=>match r with
 |.inl (b,_)=>some (b,())
 |.inr r=>match r with
 |.inl (c,_)=>some (c,())
 |.inr _=>none
def orI[Lk]:=lkk pW
theorem jl v:orI v=pW v:=A1 _
def SW[Lk]:Ub->Option (Ud):=fun(a,_)=>
 match(ile 1 a)with
 |true=>some ((ile a 64),())
 |false=>some (false,())
def aH[Lk]:=lkk SW
theorem UW v:aH v=SW v:=A1 _
abbrev aN:A0:=[(.tmp 0,.dat U1),(.tmp 1,.dat U1)]
def Mb[Lk]:(U2×U2×Unit)->Option (Ub):=fun(a,b,_)=>
 match Eb (a.1,b.1,())with|none=>none|some (c,_)=>match Eb (a.2.1,b.2.1,())with|none=>none|some (d,_)=>match orI (([c,d]:List (Int)),())with|none=>none|some (e,_)=>some (e,())
def Fb[Lk]:=lkk Mb
theorem N_ v:Fb v=Mb v:=A1 _
abbrev SS:A0:=[AD,AF]
abbrev Av:Loc×Con:=(.tmp 0,.own 47 U3)
abbrev SR:A0:=[Av]
abbrev Aw:Loc×Con:=(.tmp 5,.own 47 U3)
abbrev AC8:A0:=[AF,Aw,(.tmp 9,.dat Ue),Aa,AZ]
abbrev fW:BI:=[(.exit 0,[Aw])]
def FE[Lk]:(Int×List U4×List U2×Int×Int×Unit)->Option ((Int×List U4×List U2×Int×Int×Unit)⊕V1⊕Unit):=fun(d,b,e,f,c,_)=>
 match(ilt c f)with
 |true=>match idx e c with|none=>none|some a=>match a.2.2.2.1 with
  |true=>match(ile d a.2.2.1)with
   |true=>match(fits ((A4 b)+(A4 ([(a.1,(a.2.1,()))]:List U4))))with
    |true=>some (.inl (d,(B6 b ([(a.1,(a.2.1,()))]:List U4)),e,f,(w64 (c+1)),()))
    |false=>none
   |false=>some (.inl (d,b,e,f,(w64 (c+1)),()))
  |false=>some (.inl (d,b,e,f,(w64 (c+1)),()))
 |false=>some (.inr (.inl (b,())))
def SU[Lk]:(Uc×Int×Unit)->Option (V1):=fun(a,b,_)=>
 match A9 FE many (b,([]:List U4),a.2.1,(A4 a.2.1),0,())with|none=>none|some r=>match r with
 |.inl (c,_)=>some (c,())
 |.inr _=>none
def UU[Lk]:=lkk SU
theorem UT v:UU v=SU v:=A1 _
abbrev Ax:Loc×Con:=(.tmp 1,.clo 33 [(1,0)])
abbrev Ay:Loc×Con:=(.cell 1 0,.map U3 U0)
abbrev So:A0:=[Av,(.cap 1 0,.box 1),Ay,Ax]
abbrev Az:Loc×Con:=(.obj 0,.own 47 U3)
abbrev AVG:Loc×Con:=(.obj 2,.map' 2)
abbrev kL:A0:=[Az,Am,Ay,AVG,AA]
abbrev dS:A0:=[Az,Am,Ay,AVG,Aj,Ax,AP,AQ]
abbrev dR:BI:=[(.ret,[Az,Am,Ay,AVG,AR]),(.exit 0,[Az,Am,Ay,AVG])]
def Ef[Lk]:(List U4×List V7×Int×Int×Unit)->Option ((List U4×List V7×Int×Int×Unit)⊕(List U4×List V7×Int×Unit)⊕(List U4×List V7×Unit)⊕Unit):=fun(a,c,d,b,_)=>
 match(ilt b d)with
 |true=>match idx a b with|none=>none|some e=>match(ieq ((A7 c ((A_ a (A3 b) (0,(0,()))).1,((A_ a (A3 b) (0,(0,()))).2.1,()))).getD 0) 0)with
  |true=>some (.inr (.inl (a,c,b,())))
  |false=>some (.inl (a,c,d,(w64 (b+1)),()))
 |false=>some (.inr (.inr (.inl (a,c,()))))
def Mk[Lk]:(List U4×List V7×Unit)->Option ((List U4×List V7×Int×Unit)):=fun(a,b,_)=>
 match A9 Ef many (a,b,(A4 a),0,())with|none=>none|some r=>match r with
 |.inl (c,d,e,_)=>some (c,d,e,())
 |.inr r=>match r with
 |.inl (f,g,_)=>some (f,g,(-1:Int),())
 |.inr _=>none
def Q3[Lk]:=lkk Mk
theorem P6 v:Q3 v=Mk v:=A1 _
abbrev wC:A0:=[(.tmp 0,.dat U3),(.tmp 1,.dat U3)]
def Mo[Lk]:(U4×U4×Unit)->Option (Ub):=fun(a,b,_)=>
 match Eb (a.1,b.1,())with|none=>none|some (c,_)=>match Eb (a.2.1,b.2.1,())with|none=>none|some (d,_)=>match orI (([c,d]:List (Int)),())with|none=>none|some (e,_)=>some (e,())
def Bj[Lk]:=lkk Mo
theorem OK v:Bj v=Mo v:=A1 _
abbrev AVH:Loc×Con:=(.tmp 3,.clo 84 [])
abbrev VE:A0:=[Av,AF,AG,AVH]
abbrev Ji:A0:=[Az]
abbrev ANr:A0:=[Az,Aj,AF,AG,AVH,AQ,Ac]
abbrev ANq:BI:=[(.exit 2,[Az,Aj,AF,AG,AVH,AQ])]
abbrev ANs:A0:=[Az,Aj,AF,AG,AVH,AQ]
abbrev kE:BI:=[(.exit 0,[Az])]
def AQb[Lk]:=Qw ((0,(0,())):U4) Bj tLt
def ARe[Lk]:=vu ((0,(0,())):U4) Bj tLt
theorem ANt v:ARe v=AQb v:=A1 _
abbrev AVI:Loc×Con:=(.tmp 4,.clo 84 [])
abbrev KN:A0:=[Av,AF,AG,AS,AVI]
abbrev AGe:A0:=[Az,Aj,AG,AS,AVI,Aa]
abbrev AGd:BI:=[(.exit 0,[Az]),(.ret,[Az])]
def AMI[Lk]:=MJ ((0,(0,())):U4) Bj tLt
def APJ[Lk]:=WX ((0,(0,())):U4) Bj tLt
theorem AGf v:APJ v=AMI v:=A1 _
abbrev AJO:A0:=[Az,Aj,AVH,AQ,Ac,AM]
abbrev AJM:BI:=[(.exit 2,[Az])]
abbrev AJP:A0:=[Az,Aj,AVH,AQ,Ac,Aa,AZ]
abbrev AJN:BI:=[(.exit 0,[Az,Aj,AVH,AQ,Ac,Aa])]
def AN2[Lk]:=Mn ((0,(0,())):U4) Bj tLt
def APT[Lk]:=ar ((0,(0,())):U4) Bj tLt
theorem AJQ v:APT v=AN2 v:=A1 _
abbrev ACT:A0:=[Av,AF,AG,Al,AJ,AVI]
abbrev ACS:A0:=[Az,Am,AJ,AA,AF]
def ACU[Lk]:=HC ((0,(0,())):U4) Bj tLt
def yn[Lk]:=Ig ((0,(0,())):U4) Bj tLt
theorem vJ v:yn v=ACU v:=A1 _
abbrev ACp:A0:=[Av,AF,AG,AS,An,AJ,(.tmp 5,.clo 84 [])]
abbrev fV:A0:=[Az,Am,AJ,AA]
def ACq[Lk]:=HF ((0,(0,())):U4) Bj tLt
def zC[Lk]:=Ii ((0,(0,())):U4) Bj tLt
theorem vZ v:zC v=ACq v:=A1 _
abbrev AC1:A0:=[Av,AF,Ao,AJ,AVH]
def AC2[Lk]:=HG ((0,(0,())):U4) Bj tLt
def zG[Lk]:=Ij ((0,(0,())):U4) Bj tLt
theorem ve v:zG v=AC2 v:=A1 _
abbrev AHj:A0:=[Az,AA,AF]
def AHk[Lk]:=JV ((0,(0,())):U4) Bj tLt
def AHm[Lk]:=Qa ((0,(0,())):U4) Bj tLt
theorem ABm v:AHm v=AHk v:=A1 _
abbrev AMZ:A0:=[Az,Aj,AQ,Ac]
def APt[Lk]:=QW ((0,(0,())):U4) Bj tLt
def ARO[Lk]:=tg ((0,(0,())):U4) Bj tLt
theorem AMa v:ARO v=APt v:=A1 _
abbrev uj:A0:=[Az,AE]
abbrev pM:A0:=[Az,Aj,AF,AG,AVH,Ac,Aa,AM]
abbrev pI:BI:=[(.exit 6,[Az,Aj,AF,AG,AVH,Ac,Aa])]
abbrev pN:A0:=[Az,Aj,AF,AG,AVH,Ac,Aa,AZ]
abbrev pJ:BI:=[(.exit 4,[Az,Aj,AF,AG,AVH,Ac,Aa])]
abbrev Wl:A0:=[Az,Aj,AF,AG,AVH,Ac,Aa]
abbrev pK:BI:=[(.exit 2,[Az,Aj,AF,AG,AVH,Ac,Aa])]
abbrev pL:BI:=[(.ret,[Az,Ap]),(.exit 0,[Az])]
def uk[Lk]:=Fu ((0,(0,())):U4) Bj tLt
def pP[Lk]:=JY ((0,(0,())):U4) Bj tLt
theorem pO v:pP v=uk v:=A1 _
abbrev ACB:A0:=[Az,AA]
abbrev Qj:A0:=[Az,Aj,AF,AVI,AZ,AM]
abbrev vB:BI:=[(.exit 4,[Az,Aj,AF,AVI,AZ,AM])]
abbrev vC:BI:=[(.exit 2,[Az,Aj,AF,AVI,AZ,AM])]
abbrev vD:BI:=[(.exit 0,[Az,AZ])]
def ACC[Lk]:=HA ((0,(0,())):U4) Bj tLt
def yj[Lk]:=MQ ((0,(0,())):U4) Bj tLt
theorem vE v:yj v=ACC v:=A1 _
abbrev AND:A0:=[Az,AA,Aq]
abbrev N0:A0:=[Az,Aj,AF,AVI,AM,AN]
abbrev AII:BI:=[(.exit 8,[Az,Aj,AF,AVI,AM,AN])]
abbrev AIJ:BI:=[(.exit 6,[Az,Aj,AF,AVI,AM,AN])]
abbrev AIK:BI:=[(.exit 4,[Az,Aj,AF,AN])]
abbrev AIL:BI:=[(.exit 2,[Az,Aj,AF,AVI,AM,AN])]
abbrev AIM:BI:=[(.exit 0,[Az,Aj,AF,AVI,AM,AN])]
def ANE[Lk]:=MP ((0,(0,())):U4) Bj tLt
def APO[Lk]:=SH ((0,(0,())):U4) Bj tLt
theorem AIN v:APO v=ANE v:=A1 _
def iC[Lk]:Ub->Option (Ud):=fun(a,_)=>
 some ((ieq a (w64 (IntKind.wrap .u16 a))),())
def YZ[Lk]:=lkk iC
theorem mu v:YZ v=iC v:=A1 _
def YV[Lk]:Ub->Option (Ud):=fun(a,_)=>
 match(ile 1 a)with
 |true=>some ((ile a 4),())
 |false=>some (false,())
def hY[Lk]:=lkk YV
theorem dy v:hY v=YV v:=A1 _
abbrev Sn:A0:=[At,(.tmp 1,.clo 99 [])]
abbrev dQ:A0:=[At,(.tmp 1,.clo 99 []),AP,AQ]
def Fe[Lk]:(List U4×Int×Int×Unit)->Option ((List U4×Int×Int×Unit)⊕Ub⊕(Unit)⊕Unit):=fun(b,c,a,_)=>
 match(ilt a c)with
 |true=>match idx b a with|none=>none|some d=>match YZ (d.1,())with|none=>none|some (e,_)=>match(!e)with
  |true=>some (.inr (.inl (a,())))
  |false=>match YZ (d.2.1,())with|none=>none|some (f,_)=>match(!f)with
  |true=>some (.inr (.inl (a,())))
  |false=>some (.inl (b,c,(w64 (a+1)),()))
 |false=>some (.inr (.inr (.inl ())))
def Mj[Lk]:V1->Option (Ub):=fun(a,_)=>
 match A9 Fe many (a,(A4 a),0,())with|none=>none|some r=>match r with
 |.inl (b,_)=>some (b,())
 |.inr r=>match r with
 |.inl _=>some ((-1:Int),())
 |.inr _=>none
def Q2[Lk]:=lkk Mj
theorem P2 v:Q2 v=Mj v:=A1 _
def K1[Lk]:V1->Option (Ud):=fun(a,_)=>
 match Q2 (a,())with|none=>none|some (b,_)=>some ((ile 0 b),())
def GJ[Lk]:=lkk K1
theorem OY v:GJ v=K1 v:=A1 _
abbrev Sp:A0:=[(.tmp 0,.dat V4),(.tmp 1,.clo 102 [])]
abbrev dT:A0:=[(.tmp 0,.dat V4),(.tmp 1,.clo 102 []),AP,AQ]
def Ff[Lk]:(List Ua×Int×Int×Unit)->Option ((List Ua×Int×Int×Unit)⊕Ub⊕(Unit)⊕Unit):=fun(c,d,a,_)=>
 match(ilt a d)with
 |true=>match idx c a with|none=>none|some b=>match hY (b.1,())with|none=>none|some (e,_)=>match(!e)with
  |true=>some (.inr (.inl (a,())))
  |false=>match YZ (b.2.1,())with|none=>none|some (f,_)=>match(!f)with
  |true=>some (.inr (.inl (a,())))
  |false=>match YZ (b.2.2.1,())with|none=>none|some (g,_)=>match(!g)with
  |true=>some (.inr (.inl (a,())))
  |false=>some (.inl (c,d,(w64 (a+1)),()))
 |false=>some (.inr (.inr (.inl ())))
def Ml[Lk]:(List Ua×Unit)->Option (Ub):=fun(a,_)=>
 match A9 Ff many (a,(A4 a),0,())with|none=>none|some r=>match r with
 |.inl (b,_)=>some (b,())
 |.inr r=>match r with
 |.inl _=>some ((-1:Int),())
 |.inr _=>none
def Q4[Lk]:=lkk Ml
theorem P7 v:Q4 v=Ml v:=A1 _
def K2[Lk]:(List Ua×Unit)->Option (Ud):=fun(a,_)=>
 match Q4 (a,())with|none=>none|some (b,_)=>some ((ile 0 b),())
def Ki[Lk]:=lkk K2
theorem OZ v:Ki v=K2 v:=A1 _
abbrev mj:A0:=[(.tmp 0,.dat (.prod U0 (.prod Uu (.prod V4 .unit))))]
def YT[Lk]:(Uz×Unit)->Option (Ud):=fun(a,_)=>
 match(ieq a.1 1)with
 |true=>match(ieq (A4 a.2.2.1) 0)with
  |true=>match(ile (A4 a.2.1) 60)with
   |true=>match GJ (a.2.1,())with|none=>none|some (b,_)=>some ((!b),())
   |false=>some (false,())
  |false=>some (false,())
 |false=>match(ieq a.1 2)with
 |true=>match(ieq (A4 a.2.2.1) 0)with
  |true=>match(ile (A4 a.2.1) 60)with
   |true=>match GJ (a.2.1,())with|none=>none|some (c,_)=>some ((!c),())
   |false=>some (false,())
  |false=>some (false,())
 |false=>match(ieq a.1 3)with
 |true=>match(ieq (A4 a.2.1) 0)with
  |true=>match(ile (A4 a.2.2.1) 60)with
   |true=>match Ki (a.2.2.1,())with|none=>none|some (d,_)=>some ((!d),())
   |false=>some (false,())
  |false=>some (false,())
 |false=>some (false,())
def hJ[Lk]:=lkk YT
theorem dv v:hJ v=YT v:=A1 _
abbrev AK4:A0:=[(.tmp 0,.dat (.prod U0 U3))]
def cT[Lk]:(Ua×Unit)->Option (Uh):=fun(a,_)=>
 match(ieq a.1 1)with
 |true=>some (([a.2.1,a.2.2.1]:List (Int)),())
 |false=>match(ieq a.1 2)with
 |true=>some (([a.2.1]:List (Int)),())
 |false=>match(ieq a.1 3)with
 |true=>some (([a.2.1]:List (Int)),())
 |false=>some (([]:List (Int)),())
def mU[Lk]:=lkk cT
theorem gj v:mU v=cT v:=A1 _
abbrev AVJ:Loc×Con:=(.tmp 25,.di)
abbrev AK0:A0:=[Au,(.tmp 24,.dat V4),AVJ,AY]
abbrev AKy:BI:=[(.exit 2,[Au])]
def TU[Lk]:(List Int×List Ua×Int×Int×Unit)->Option ((List Int×List Ua×Int×Int×Unit)⊕Uh⊕Unit):=fun(a,d,e,b,_)=>
 match(ilt b e)with
 |true=>match idx d b with|none=>none|some c=>match mU ((c.1,(c.2.1,(c.2.2.1,()))),())with|none=>none|some (f,_)=>match(fits ((A4 a)+(A4 f)))with
  |true=>some (.inl ((B6 a f),d,e,(w64 (b+1)),()))
  |false=>none
 |false=>some (.inr (.inl (a,())))
abbrev AK1:A0:=[(.tmp 1,.box 3),AL,(.cell 0 1,.dat Uu),(.cell 0 2,.dat V4),Au,(.tmp 9,.dat Uu),Aa,AZ]
abbrev AKz:BI:=[(.exit 0,[(.tmp 1,.box 3),AL,(.cell 0 1,.dat Uu),(.cell 0 2,.dat V4),Au])]
def On[Lk]:(Int×List U4×List Ua×List Int×List U4×Int×Int×Unit)->Option ((Int×List U4×List Ua×List Int×List U4×Int×Int×Unit)⊕(Int×List U4×List Ua×List Int×Unit)⊕Unit):=fun(d,e,f,b,g,h,c,_)=>
 match(ilt c h)with
 |true=>match idx g c with|none=>none|some a=>match(fits ((A4 b)+(A4 ([a.1,a.2.1]:List (Int)))))with
  |true=>some (.inl (d,e,f,(B6 b ([a.1,a.2.1]:List (Int))),g,h,(w64 (c+1)),()))
  |false=>none
 |false=>some (.inr (.inl (d,e,f,b,())))
def mP[Lk]:(Uz×Unit)->Option (Uh):=fun(a,_)=>
 match A9 On many (a.1,a.2.1,a.2.2.1,([]:List (Int)),a.2.1,(A4 a.2.1),0,())with|none=>none|some r=>match r with
 |.inl (e,f,b,c,_)=>match A9 TU many (c,b,(A4 b),0,())with|none=>none|some r=>match r with
  |.inl (d,_)=>some (d,())
  |.inr _=>none
 |.inr _=>none
def zv[Lk]:=lkk mP
theorem rn v:zv v=mP v:=A1 _
def lD[Lk]:Ub->Option (Ud):=fun(a,_)=>
 match(ile 0 a)with
 |true=>some ((ilt a 65536),())
 |false=>some (false,())
def qq[Lk]:=lkk lD
theorem qp v:qq v=lD v:=A1 _
abbrev AJ3:A0:=[(.tmp 0,.dat U3)]
abbrev AQr:A0:=[(.tmp 0,.dat Uj),Aq]
def wk[Lk]:(U4×Unit)->Option ((Int×Bool×Unit)):=fun(a,_)=>
 match qq (a.1,())with|none=>none|some (b,_)=>match(!b)with
 |true=>some (0,false,())
 |false=>match qq (a.2.1,())with|none=>none|some (c,_)=>match(!c)with
 |true=>some (0,false,())
 |false=>match shl? .u32 (IntKind.wrap .u32 (C7 a.1 a.2.1)) 16 with|none=>none|some d=>some ((IntKind.wrap .u32 ((BitVec.ofInt (IntKind.bits .u32) d ||| BitVec.ofInt (IntKind.bits .u32) (IntKind.wrap .u32 (imax a.1 a.2.1))).toNat)),true,())
def AOS[Lk]:=lkk wk
theorem zg v:AOS v=wk v:=A1 _
abbrev lK:A0:=[(.tmp 0,.dat Uj)]
def lL[Lk]:Ub->Option ((U4×Unit)):=fun(a,_)=>
 match shr? .u32 a 16 with|none=>none|some b=>some (((w64 b),((w64 (IntKind.wrap .u16 a)),())),())
def zh[Lk]:=lkk lL
theorem qt v:zh v=lL v:=A1 _
abbrev AVK:Loc×Con:=(.tmp 0,.dat Uy)
abbrev gP:A0:=[AVK]
abbrev AVL:Loc×Con:=(.tmp 0,.own 4 .bool)
abbrev AEF:A0:=[AVL]
abbrev wu:A0:=[AVK,(.tmp 3,.own 4 .bool),(.tmp 9,.dat Uy),Aa,AZ]
abbrev wq:BI:=[(.exit 0,[(.tmp 3,.own 4 .bool)])]
def Jv[Lk]:(List Int×List Bool×List Int×Int×Int×Unit)->Option ((List Int×List Bool×List Int×Int×Int×Unit)⊕(List Bool×Unit)⊕Unit):=fun(c,b,d,e,a,_)=>
 match(ilt a e)with
 |true=>match idx d a with|none=>none|some f=>match(ieq a 0)with
  |true=>match idx b a with|none=>none|some h=>some (.inl (c,(Be b (A3 a) true),d,e,(w64 (a+1)),()))
  |false=>match idx c (w64 (a-1))with|none=>none|some g=>match idx b a with|none=>none|some i=>some (.inl (c,(Be b (A3 a) (!(ieq g f))),d,e,(w64 (a+1)),()))
 |false=>some (.inr (.inl (b,())))
def VZ[Lk]:Uh->Option ((List Bool×Unit)):=fun(a,_)=>
 match(Cq (A4 a)&&Cq (A4 a)&&ile (A4 a) (A4 a)&&true)with
 |true=>match A9 Jv many (a,(ED (A3 (A4 a)) false),a,(A4 a),(0:Int),())with|none=>none|some r=>match r with
  |.inl (b,_)=>some (b,())
  |.inr _=>none
 |false=>none
def YL[Lk]:=lkk VZ
theorem bX v:YL v=VZ v:=A1 _
def PA[Lk]:Ub->Option (Ub):=fun(a,_)=>
 match(ilt a 1)with
 |true=>some (0,())
 |false=>match(ilt 16 a)with
 |true=>some (0,())
 |false=>match quo? .i64 (w64 ((w64 (32+a))-1)) a with|none=>none|some b=>some (b,())
def PB[Lk]:=lkk PA
theorem QV v:PB v=PA v:=A1 _
def ZR[Lk]:U4->Option (Ud):=fun(a,b,_)=>
 match(ile 0 a)with
 |true=>match PB (b,())with|none=>none|some (c,_)=>some ((ilt a c),())
 |false=>some (false,())
def jE[Lk]:=lkk ZR
theorem ez v:jE v=ZR v:=A1 _
abbrev AG9:A0:=[(.tmp 0,.dat Uj),AF,AG]
def Zb[Lk]:Ua->Option (Ub):=fun(c,b,a,_)=>
 match jE (b,a,())with|none=>none|some (d,_)=>match(!d)with
 |true=>some (0,())
 |false=>match shr? .u32 c (IntKind.wrap .u64 (w64 (b*a)))with|none=>none|some e=>match shl? .u32 1 (IntKind.wrap .u64 a)with|none=>none|some f=>some ((IntKind.wrap .u32 ((BitVec.ofInt (IntKind.bits .u32) e &&& BitVec.ofInt (IntKind.bits .u32) (IntKind.wrap .u32 (f-1))).toNat)),())
def UD[Lk]:=lkk Zb
theorem fG v:UD v=Zb v:=A1 _
abbrev AG3:A0:=[AO,AF,(.tmp 5,.map U0 U0),(.tmp 9,.dat U6),Aa,AZ]
abbrev AG2:BI:=[(.ret,[Af]),(.exit 0,[AO,AF])]
def Nt[Lk]:(List Int×Int×List Uo×List Int×Int×Int×Unit)->Option ((List Int×Int×List Uo×List Int×Int×Int×Unit)⊕Ud⊕Um⊕Unit):=fun(e,c,b,f,g,d,_)=>
 match(ilt d g)with
 |true=>match idx f d with|none=>none|some a=>match(ilt a 0)with
  |true=>some (.inr (.inl (false,())))
  |false=>match(ile c a)with
  |true=>some (.inr (.inl (false,())))
  |false=>match(ilt 1 ((A7 (BF b a (w64 (((A7 b a).getD 0)+1))) a).getD 0))with
  |true=>some (.inr (.inl (false,())))
  |false=>some (.inl (e,c,(BF b a (w64 (((A7 b a).getD 0)+1))),f,g,(w64 (d+1)),()))
 |false=>some (.inr (.inr (.inl (e,c,()))))
def jG[Lk]:Um->Option (Ud):=fun(a,b,_)=>
 match A9 Nt many (a,b,([]:List Uo),a,(A4 a),0,())with|none=>none|some r=>match r with
 |.inl (c,_)=>some (c,())
 |.inr r=>match r with
 |.inl (d,e,_)=>some ((ieq (A4 d) e),())
 |.inr _=>none
def yN[Lk]:=lkk jG
theorem n6 v:yN v=jG v:=A1 _
abbrev ARP:A0:=[AVK,Ae,AG,AS]
abbrev AVM:Loc×Con:=(.tmp 13,.own 3 U0)
abbrev AVN:Loc×Con:=(.tmp 9,.own 3 U0)
abbrev APz:A0:=[AVK,AG,AS,AVN,AVM,(.tmp 63,.dat U6),(.tmp 64,.di),(.tmp 65,.di)]
abbrev APw:BI:=[(.exit 4,[AVM])]
def jL[Lk]:(List Int×Int×Int×List Int×List Int×List Int×Int×Int×Unit)->Option ((List Int×Int×Int×List Int×List Int×List Int×Int×Int×Unit)⊕Uh⊕Unit):=fun(e,f,g,a,c,h,i,d,_)=>
 match(ilt d i)with
 |true=>match idx h d with|none=>none|some j=>match idx e j with|none=>none|some k=>match UD (k,f,g,())with|none=>none|some (b,_)=>match idx a b with|none=>none|some l=>match idx c (A_ a (A3 b) 0)with|none=>none|some m=>match idx a b with|none=>none|some n=>match idx a b with|none=>none|some o=>some (.inl (e,f,g,(Be a (A3 b) (w64 ((A_ a (A3 b) 0)+1))),(Be c (A3 (A_ a (A3 b) 0)) j),h,i,(w64 (d+1)),()))
 |false=>some (.inr (.inl (c,())))
abbrev AVO:Loc×Con:=(.tmp 45,.di)
abbrev AP0:A0:=[AVK,Ae,AG,AS,AVN,(.tmp 44,.di),AVO]
abbrev APx:BI:=[(.exit 2,[AVK,Ae,AG,AS,AVN])]
def Zc[Lk]:(List Int×List Int×Int×Int×List Int×Int×Int×Unit)->Option ((List Int×List Int×Int×Int×List Int×Int×Int×Unit)⊕(List Int×List Int×Int×Int×List Int×Unit)⊕Unit):=fun(c,d,e,f,b,g,a,_)=>
 match(ilt a g)with
 |true=>match idx b (w64 (a+1))with|none=>none|some h=>match idx b a with|none=>none|some i=>match idx b (w64 (a+1))with|none=>none|some j=>some (.inl (c,d,e,f,(Be b (A3 (w64 (a+1))) (w64 ((A_ b (A3 (w64 (a+1))) 0)+(A_ b (A3 a) 0)))),g,(w64 (a+1)),()))
 |false=>some (.inr (.inl (c,d,e,f,b,())))
abbrev AP1:A0:=[AVK,Ae,AG,AS,AVN,(.tmp 22,.dat U6),(.tmp 23,.di),(.tmp 24,.di)]
abbrev APy:BI:=[(.exit 0,[AVK,Ae,AG,AS,AVN])]
def Zd[Lk]:Uw->Option (Uw⊕(List Int×List Int×Int×Int×List Int×Unit)⊕Unit):=fun(c,g,d,e,a,h,i,f,_)=>
 match(ilt f i)with
 |true=>match idx h f with|none=>none|some j=>match idx c j with|none=>none|some k=>match UD (k,d,e,())with|none=>none|some (b,_)=>match idx a (IntKind.wrap .u32 (b+1))with|none=>none|some l=>match idx a (IntKind.wrap .u32 (b+1))with|none=>none|some m=>some (.inl (c,g,d,e,(Be a (A3 (IntKind.wrap .u32 (b+1))) (w64 ((A_ a (A3 (IntKind.wrap .u32 (b+1))) 0)+1))),h,i,(w64 (f+1)),()))
 |false=>some (.inr (.inl (c,g,d,e,a,())))
def AHD[Lk]:Vm->Option (Uh):=fun(f,c,g,d,_)=>
 match shl? .i64 1 (IntKind.wrap .u64 d)with|none=>none|some b=>match(Cq (w64 (b+1))&&Cq (w64 (b+1))&&ile (w64 (b+1)) (w64 (b+1))&&true)with
 |true=>match A9 Zd many (f,c,g,d,(ED (A3 (w64 (b+(1:Int)))) (0:Int)),c,(A4 c),(0:Int),())with|none=>none|some r=>match r with
  |.inl (h,i,j,k,e,_)=>match A9 Zc many (h,i,j,k,e,(w64 ((A4 e)-1)),0,())with|none=>none|some r=>match r with
   |.inl (l,a,m,n,o,_)=>match(Cq (A4 a)&&Cq (A4 a)&&ile (A4 a) (A4 a)&&true)with
    |true=>match A9 jL many (l,m,n,o,(ED (A3 (A4 a)) (0:Int)),a,(A4 a),(0:Int),())with|none=>none|some r=>match r with
     |.inl (p,_)=>some (p,())
     |.inr _=>none
    |false=>none
   |.inr _=>none
  |.inr _=>none
 |false=>none
def rby[Lk]:=lkk AHD
theorem AHC v:rby v=AHD v:=A1 _
def Na[Lk]:U4->Option (Ud):=fun(a,b,_)=>
 match(ile 1 a)with
 |true=>match(ile a 1000)with
  |true=>match(ile 1 b)with
   |true=>some ((ile b 100),())
   |false=>some (false,())
  |false=>some (false,())
 |false=>some (false,())
def K9[Lk]:=lkk Na
theorem Ru v:K9 v=Na v:=A1 _
abbrev AVP:Loc×Con:=(.tmp 0,.dat (.prod Uv (.prod U0 (.prod Uq .unit))))
abbrev AAo:A0:=[AVP]
abbrev AVQ:Loc×Con:=(.cell 0 2,.dat Uq)
abbrev AVR:Loc×Con:=(.cell 0 0,.dat Uv)
abbrev AVS:Loc×Con:=(.cell 0 1,.di)
abbrev sY:A0:=[(.tmp 1,.box 3),AVR,AVS,AVQ,(.tmp 25,.dat Uv),AY,AX]
abbrev Yu:BI:=[(.ret,[AH]),(.exit 0,[])]
def MC[Lk]:(List U5×Int×List Bool×List U5×Int×Int×Unit)->Option ((List U5×Int×List Bool×List U5×Int×Int×Unit)⊕Ud⊕(Unit)⊕Unit):=fun(f,g,c,d,e,b,_)=>
 match(ilt b e)with
 |true=>match idx d b with|none=>none|some a=>match(ilt a.1 0)with
  |true=>some (.inr (.inl (false,())))
  |false=>match(ile a.2.1 a.1)with
  |true=>some (.inr (.inl (false,())))
  |false=>match(ilt (A4 c) a.2.1)with
  |true=>some (.inr (.inl (false,())))
  |false=>match(ilt a.2.2.1 (-1:Int))with
  |true=>some (.inr (.inl (false,())))
  |false=>match(ile b a.2.2.1)with
  |true=>some (.inr (.inl (false,())))
  |false=>match(ilt a.2.2.2.1 0)with
  |true=>some (.inr (.inl (false,())))
  |false=>match(ilt 2 a.2.2.2.1)with
  |true=>some (.inr (.inl (false,())))
  |false=>some (.inl (f,g,c,d,e,(w64 (b+1)),()))
 |false=>some (.inr (.inr (.inl ())))
def Ts[Lk]:(((List U5)×Int×(List Bool)×Unit)×Unit)->Option (Ud):=fun(a,_)=>
 match K9 ((A4 a.2.2.1),a.2.1,())with|none=>none|some (b,_)=>match(!b)with
 |true=>some (false,())
 |false=>match(ieq (A4 a.1) 0)with
 |true=>some (false,())
 |false=>match(ilt 2000 (A4 a.1))with
 |true=>some (false,())
 |false=>match A9 MC many (a.1,a.2.1,a.2.2.1,a.1,(A4 a.1),0,())with|none=>none|some r=>match r with
 |.inl (c,_)=>some (c,())
 |.inr r=>match r with
 |.inl _=>some (true,())
 |.inr _=>none
def Rp[Lk]:=lkk Ts
theorem Yv v:Rp v=Ts v:=A1 _
abbrev K8:A0:=[AVP,AF]
def Tq[Lk]:(((List U5)×Int×(List Bool)×Unit)×Int×Unit)->Option (Ub):=fun(a,b,_)=>
 match Rp ((a.1,(a.2.1,(a.2.2.1,()))),())with|none=>none|some (c,_)=>match(!c)with
 |true=>some (1,())
 |false=>match(ilt b 0)with
 |true=>some (6,())
 |false=>match(ile (A4 a.1) b)with
 |true=>some (6,())
 |false=>some (0,())
def O6[Lk]:=lkk Tq
theorem Yt v:O6 v=Tq v:=A1 _
abbrev AAl:A0:=[(.tmp 0,.dat U8)]
def Tp[Lk]:(U5×Unit)->Option (Ub):=fun(a,_)=>
 some ((w64 (a.2.1-a.1)),())
def MB[Lk]:=lkk Tp
theorem Ys v:MB v=Tp v:=A1 _
def Tt[Lk]:(((List U5)×Int×(List Bool)×Unit)×Int×Unit)->Option (Ud):=fun(a,c,_)=>
 match O6 ((a.1,(a.2.1,(a.2.2.1,()))),c,())with|none=>none|some (d,_)=>match(ieq d 0)with
 |true=>match idx a.1 c with|none=>none|some b=>match MB ((b.1,(b.2.1,(b.2.2.1,(b.2.2.2.1,())))),())with|none=>none|some (e,_)=>some ((ilt a.2.1 e),())
 |false=>some (false,())
def Rq[Lk]:=lkk Tt
theorem Yx v:Rq v=Tt v:=A1 _
abbrev AVT:Loc×Con:=(.tmp 0,.own 214 U8)
abbrev AAs:A0:=[AVT,AF,(.tmp 2,.own 4 .bool),AS]
abbrev AAr:List RS:=[.agg 3,.one]
def Tu[Lk]:U4->Option ((List U5×Int×List Bool×Int×Unit)):=fun(a,b,_)=>
 match K9 (a,b,())with|none=>none|some (c,_)=>match(!c)with
 |true=>some (([]:List U5),0,([]:List (Bool)),1,())
 |false=>match(Cq a&&Cq a&&ile a a&&true)with
 |true=>some (([((0:Int),(a,((-1:Int),((0:Int),()))))]:List U5),b,(ED (A3 a) false),(0:Int),())
 |false=>none
def Xq[Lk]:=lkk Tu
theorem Yy v:Xq v=Tu v:=A1 _
abbrev AVU:Loc×Con:=(.tmp 5,.di)
abbrev AFx:A0:=[(.tmp 0,.dat Uv),AF,(.tmp 2,.dat Uq),AS,AR,AVU]
abbrev AFw:List RS:=[.agg 3,.one,.one,.one]
def Yw[Lk]:(((List U5)×Int×(List Bool)×Unit)×Int×Unit)->Option ((List U5×Int×List Bool×Int×Int×Int×Unit)):=fun(b,c,_)=>
 match O6 ((b.1,(b.2.1,(b.2.2.1,()))),c,())with|none=>none|some (f,_)=>match(!(ieq f 0))with
 |true=>some (b.1,b.2.1,b.2.2.1,0,0,f,())
 |false=>match idx b.1 c with|none=>none|some a=>match MB ((a.1,(a.2.1,(a.2.2.1,(a.2.2.2.1,())))),())with|none=>none|some (g,_)=>match(ile g b.2.1)with
 |true=>some (b.1,b.2.1,b.2.2.1,0,0,5,())
 |false=>match(ilt 0 a.2.2.2.1)with
 |true=>some (b.1,b.2.1,b.2.2.1,0,0,5,())
 |false=>match(ilt 2000 (w64 ((A4 b.1)+2)))with
 |true=>some (b.1,b.2.1,b.2.2.1,0,0,2,())
 |false=>match MB ((a.1,(a.2.1,(a.2.2.1,(a.2.2.2.1,())))),())with|none=>none|some (h,_)=>match quo? .i64 h 2 with|none=>none|some d=>match M6 b.1 with|none=>none|some e=>match(fits ((A4 e)+(A4 ([(a.1,((w64 (a.1+d)),(c,(0,())))),((w64 (a.1+d)),(a.2.1,(c,(0,()))))]:List U5))))with
 |true=>match idx (B6 e ([(a.1,((w64 (a.1+d)),(c,(0,())))),((w64 (a.1+d)),(a.2.1,(c,(0,()))))]:List U5)) c with|none=>none|some i=>some ((Be (B6 e ([(a.1,((w64 (a.1+d)),(c,(0,())))),((w64 (a.1+d)),(a.2.1,(c,(0,()))))]:List U5)) (A3 c) ((A_ (B6 e ([(a.1,((w64 (a.1+d)),(c,(0,())))),((w64 (a.1+d)),(a.2.1,(c,(0,()))))]:List U5)) (A3 c) (0,(0,(0,(0,()))))).1,((A_ (B6 e ([(a.1,((w64 (a.1+d)),(c,(0,())))),((w64 (a.1+d)),(a.2.1,(c,(0,()))))]:List U5)) (A3 c) (0,(0,(0,(0,()))))).2.1,((A_ (B6 e ([(a.1,((w64 (a.1+d)),(c,(0,())))),((w64 (a.1+d)),(a.2.1,(c,(0,()))))]:List U5)) (A3 c) (0,(0,(0,(0,()))))).2.2.1,(2,()))))),b.2.1,b.2.2.1,(A4 b.1),(w64 ((A4 b.1)+1)),0,())
 |false=>none
def iT[Lk]:=lkk Yw
theorem eQ v:iT v=Yw v:=A1 _
abbrev sc:A0:=[AVT,AF]
abbrev AVV:Loc×Con:=(.obj 0,.own 214 U8)
abbrev sb:A0:=[AVV,AE]
abbrev nF:A0:=[AVV,Aj,AF]
abbrev nE:BI:=[(.ret,[AVV,Af]),(.exit 0,[AVV])]
def Hu[Lk]:(List U5×Int×Unit)->Option ((List U5×Int×Unit)⊕(List U5×Bool×Unit)⊕(List U5×Unit)⊕Unit):=fun(b,a,_)=>
 match(!(ieq a (-1:Int)))with
 |true=>match idx b a with|none=>none|some c=>match(ieq (A_ b (A3 a) (0,(0,(0,(0,()))))).2.2.2.1 0)with
  |true=>some (.inr (.inl (b,false,())))
  |false=>match(ilt 0 (A_ (Be b (A3 a) ((A_ b (A3 a) (0,(0,(0,(0,()))))).1,((A_ b (A3 a) (0,(0,(0,(0,()))))).2.1,((A_ b (A3 a) (0,(0,(0,(0,()))))).2.2.1,((w64 ((A_ b (A3 a) (0,(0,(0,(0,()))))).2.2.2.1-1)),()))))) (A3 a) (0,(0,(0,(0,()))))).2.2.2.1)with
  |true=>some (.inr (.inl ((Be b (A3 a) ((A_ b (A3 a) (0,(0,(0,(0,()))))).1,((A_ b (A3 a) (0,(0,(0,(0,()))))).2.1,((A_ b (A3 a) (0,(0,(0,(0,()))))).2.2.1,((w64 ((A_ b (A3 a) (0,(0,(0,(0,()))))).2.2.2.1-1)),()))))),false,())))
  |false=>some (.inl ((Be b (A3 a) ((A_ b (A3 a) (0,(0,(0,(0,()))))).1,((A_ b (A3 a) (0,(0,(0,(0,()))))).2.1,((A_ b (A3 a) (0,(0,(0,(0,()))))).2.2.1,((w64 ((A_ b (A3 a) (0,(0,(0,(0,()))))).2.2.2.1-1)),()))))),(A_ (Be b (A3 a) ((A_ b (A3 a) (0,(0,(0,(0,()))))).1,((A_ b (A3 a) (0,(0,(0,(0,()))))).2.1,((A_ b (A3 a) (0,(0,(0,(0,()))))).2.2.1,((w64 ((A_ b (A3 a) (0,(0,(0,(0,()))))).2.2.2.1-1)),()))))) (A3 a) (0,(0,(0,(0,()))))).2.2.1,()))
 |false=>some (.inr (.inr (.inl (b,()))))
def QJ[Lk]:(List U5×Int×Unit)->Option ((List U5×Bool×Unit)):=fun(a,b,_)=>
 match A9 Hu many (a,b,())with|none=>none|some r=>match r with
 |.inl (c,d,_)=>some (c,d,())
 |.inr r=>match r with
 |.inl (e,_)=>some (e,true,())
 |.inr _=>none
def Rr[Lk]:=lkk QJ
theorem WW v:Rr v=QJ v:=A1 _
abbrev APh:A0:=[(.tmp 0,.dat Uv),AF,(.tmp 2,.dat Uq),(.tmp 3,.dat .bool),AR]
abbrev AF0:List RS:=[.agg 3,.one,.one]
abbrev AVW:Loc×Con:=(.tmp 2,.box 3)
abbrev ALs:A0:=[AVW,(.cell 0 0,.own 214 U8),AVS,(.cell 0 2,.own 4 .bool),(.tmp 4,.box 3),(.cell 3 0,.nil U8),(.cell 3 1,.di),(.cell 3 2,.nil .bool),(.tmp 8,.box 4),(.cell 4 0,.di),(.cell 4 1,.di),(.cell 4 2,.di),(.cell 4 3,.di),Ac]
abbrev ALr:BI:=[(.exit 0,[AVW,(.cell 0 0,.own 214 U8),AVS,(.cell 0 2,.own 4 .bool),(.tmp 4,.box 3),(.cell 3 0,.nil U8),(.cell 3 1,.di),(.cell 3 2,.nil .bool),(.tmp 8,.box 4),(.cell 4 0,.di),(.cell 4 1,.di),(.cell 4 2,.di),(.cell 4 3,.di)])]
def Rs[Lk]:(List U5×Int×List Bool×Int×Int×Int×Int×Int×Int×Unit)->Option ((List U5×Int×List Bool×Int×Int×Int×Int×Int×Int×Unit)⊕(List U5×Int×List Bool×Int×Int×Int×Int×Int×Unit)⊕Unit):=fun(d,e,b,f,g,c,h,i,a,_)=>
 match(ilt a c)with
 |true=>match idx b a with|none=>none|some j=>some (.inl (d,e,(Be b (A3 a) true),f,g,c,h,i,(w64 (a+1)),()))
 |false=>some (.inr (.inl (d,e,b,f,g,c,h,i,())))
def se[Lk]:(((List U5)×Int×(List Bool)×Unit)×Int×Unit)->Option ((List U5×Int×List Bool×Bool×Int×Unit)):=fun(a,c,_)=>
 match O6 ((a.1,(a.2.1,(a.2.2.1,()))),c,())with|none=>none|some (d,_)=>match(!(ieq d 0))with
 |true=>some (a.1,a.2.1,a.2.2.1,false,d,())
 |false=>match idx a.1 c with|none=>none|some b=>match MB ((b.1,(b.2.1,(b.2.2.1,(b.2.2.2.1,())))),())with|none=>none|some (e,_)=>match(ilt a.2.1 e)with
 |true=>some (a.1,a.2.1,a.2.2.1,false,5,())
 |false=>match(ilt 0 b.2.2.2.1)with
 |true=>some (a.1,a.2.1,a.2.2.1,false,5,())
 |false=>match idx a.2.2.1 b.1 with|none=>none|some f=>match f with
 |true=>some (a.1,a.2.1,a.2.2.1,false,5,())
 |false=>match M6 a.1 with|none=>none|some g=>match M6 a.2.2.1 with|none=>none|some h=>match A9 Rs many (g,a.2.1,h,0,b.1,b.2.1,b.2.2.1,b.2.2.2.1,b.1,())with|none=>none|some r=>match r with
 |.inl (i,j,k,o,p,q,l,s,_)=>match Rr (i,l,())with|none=>none|some (m,n,_)=>some (m,j,k,n,0,())
 |.inr _=>none
def ALt[Lk]:=lkk se
theorem yB v:ALt v=se v:=A1 _
def RO[Lk]:Ub->Option (Ud):=fun(a,_)=>
 match(ile 0 a)with
 |true=>some ((ile a 100000),())
 |false=>some (false,())
def Oj[Lk]:=lkk RO
theorem XE v:Oj v=RO v:=A1 _
def cB[Lk]:(((List U5)×Int×(List Bool)×Unit)×Int×Unit)->Option (Ud):=fun(a,b,_)=>
 match(ile 0 b)with
 |true=>match(ilt b (A4 a.1))with
  |true=>match idx a.1 b with|none=>none|some c=>match(ieq c.2.2.2.1 0)with
   |true=>match Rq ((a.1,(a.2.1,(a.2.2.1,()))),b,())with|none=>none|some (d,_)=>match d with
    |true=>some (true,())
    |false=>match idx a.1 b with|none=>none|some e=>match idx a.2.2.1 e.1 with|none=>none|some f=>some ((!f),())
   |false=>some (false,())
  |false=>some (false,())
 |false=>some (false,())
def l7[Lk]:=lkk cB
theorem gY v:l7 v=cB v:=A1 _
abbrev AVX:Loc×Con:=(.tmp 0,.dat V0)
abbrev qz:A0:=[AVX]
abbrev AVY:Loc×Con:=(.cell 0 4,.dat .bool)
abbrev AVZ:Loc×Con:=(.cell 0 3,.dat Uf)
abbrev AVa:Loc×Con:=(.cell 0 6,.di)
abbrev AVb:Loc×Con:=(.cell 0 5,.di)
abbrev AVc:Loc×Con:=(.tmp 39,.di)
abbrev AVd:Loc×Con:=(.tmp 46,.di)
abbrev AEW:A0:=[(.tmp 1,.box 7),AVR,AVS,AVQ,AVZ,AVY,AVb,AVa,Ab,(.tmp 38,.dat Uf),AVc,(.tmp 40,.di),(.tmp 44,.dat U6),AVO,AVd]
abbrev AEV:BI:=[(.ret,[AH]),(.exit 2,[(.tmp 1,.box 7),AVR,AVS,AVQ,AVZ,AVY,AVb,AVa,Ab,(.tmp 38,.dat Uf),AVc,(.tmp 40,.di)])]
def Li[Lk]:Vl->Option (Vl⊕Ud⊕V2⊕Unit):=fun(c,d,e,g,h,i,j,b,k,l,m,n,o,f,_)=>
 match(ilt f o)with
 |true=>match idx n f with|none=>none|some a=>match(ilt 1 ((A7 (BF b a (w64 (((A7 b a).getD 0)+1))) a).getD 0))with
  |true=>some (.inr (.inl (false,())))
  |false=>match l7 ((c,(d,(e,()))),a,())with|none=>none|some (p,_)=>match(!p)with
  |true=>some (.inr (.inl (false,())))
  |false=>some (.inl (c,d,e,g,h,i,j,(BF b a (w64 (((A7 b a).getD 0)+1))),k,l,m,n,o,(w64 (f+1)),()))
 |false=>some (.inr (.inr (.inl (c,d,e,g,h,i,j,b,k,l,m,()))))
abbrev AEX:A0:=[(.tmp 1,.box 7),AVR,AVS,AVQ,AVZ,AVY,AVb,AVa,Ab,(.tmp 38,.dat Uf),AVc,(.tmp 40,.di)]
def Lj[Lk]:V2->Option (V2⊕Ud⊕(Unit)⊕Unit):=fun(e,f,g,h,i,j,k,l,b,c,a,_)=>
 match(ilt a c)with
 |true=>match idx b a with|none=>none|some d=>match A9 Li many (e,f,g,h,i,j,k,l,b,c,a,d,(A4 d),0,())with|none=>none|some r=>match r with
  |.inl (m,_)=>some (.inr (.inl (m,())))
  |.inr r=>match r with
  |.inl (n,o,p,q,s,t,u,v,w,x,y,_)=>some (.inl (n,o,p,q,s,t,u,v,w,x,(w64 (y+1)),()))
  |.inr _=>none
 |false=>some (.inr (.inr (.inl ())))
def bk[Lk]:((((List U5)×Int×(List Bool)×Unit)×(List U7)×Bool×Int×Int×Unit)×Unit)->Option (Ud):=fun(a,_)=>
 match Rp ((a.1.1,(a.1.2.1,(a.1.2.2.1,()))),())with|none=>none|some (b,_)=>match(!b)with
 |true=>some (false,())
 |false=>match(ieq (A4 a.2.1) 0)with
 |true=>some (false,())
 |false=>match(ilt 8 (A4 a.2.1))with
 |true=>some (false,())
 |false=>match Oj (a.2.2.2.1,())with|none=>none|some (c,_)=>match(!c)with
 |true=>some (false,())
 |false=>match Oj (a.2.2.2.2.1,())with|none=>none|some (d,_)=>match(!d)with
 |true=>some (false,())
 |false=>match A9 Lj many (a.1.1,a.1.2.1,a.1.2.2.1,a.2.1,a.2.2.1,a.2.2.2.1,a.2.2.2.2.1,([]:List Uo),a.2.1,(A4 a.2.1),0,())with|none=>none|some r=>match r with
 |.inl (e,_)=>some (e,())
 |.inr r=>match r with
 |.inl _=>some (true,())
 |.inr _=>none
def lP[Lk]:=lkk bk
theorem gR v:lP v=bk v:=A1 _
abbrev AVe:Loc×Con:=(.tmp 6,.di)
abbrev AKZ:A0:=[AVT,AF,(.tmp 2,.own 4 .bool),(.tmp 3,.own 56 U6),Af,AVU,AVe,AP]
abbrev AKY:List RS:=[.agg 7,.one]
def cE[Lk]:Ua->Option ((List U5×Int×List Bool×List U7×Bool×Int×Int×Int×Unit)):=fun(c,d,a,_)=>
 match(ilt a 1)with
 |true=>some (([]:List U5),0,([]:List (Bool)),([]:List U7),false,0,0,1,())
 |false=>match(ilt 8 a)with
 |true=>some (([]:List U5),0,([]:List (Bool)),([]:List U7),false,0,0,1,())
 |false=>match Xq (c,d,())with|none=>none|some (e,f,g,b,_)=>match(!(ieq b 0))with
 |true=>some (([]:List U5),0,([]:List (Bool)),([]:List U7),false,0,0,b,())
 |false=>match(Cq a&&Cq a&&ile a a&&true)with
 |true=>match idx (ED (A3 a) ()) (0:Int)with|none=>none|some h=>match(fits (A4 ([0]:List (Int))))with
  |true=>match idx (ED (A3 a) ()) (0:Int)with|none=>none|some i=>some (e,f,g,(Be (ED (List.length (ED (A3 a) ())) []) 0 ([(0:Int)]:List (Int))),false,(0:Int),(0:Int),(0:Int),())
  |false=>none
 |false=>none
def mF[Lk]:=lkk cE
theorem gb v:mF v=cE v:=A1 _
abbrev AKQ:A0:=[AG,(.tmp 6,.dat Uf),AP,AQ]
abbrev rV:BI:=[(.exit 0,[AG])]
def Oh[Lk]:(Int×List U7×Int×Int×Unit)->Option ((Int×List U7×Int×Int×Unit)⊕Ub⊕Unit):=fun(b,c,d,a,_)=>
 match(ilt a d)with
 |true=>match idx c a with|none=>none|some e=>some (.inl ((w64 (b+(A4 e))),c,d,(w64 (a+1)),()))
 |false=>some (.inr (.inl (b,())))
def l8[Lk]:((((List U5)×Int×(List Bool)×Unit)×(List U7)×Bool×Int×Int×Unit)×Unit)->Option (Ub):=fun(a,_)=>
 match A9 Oh many (0,a.2.1,(A4 a.2.1),0,())with|none=>none|some r=>match r with
 |.inl (b,_)=>some (b,())
 |.inr _=>none
def zp[Lk]:=lkk l8
theorem rW v:zp v=l8 v:=A1 _
abbrev AVf:Loc×Con:=(.cell 0 10,.dat .bool)
abbrev AVg:Loc×Con:=(.cell 0 3,.own 56 U6)
abbrev AVh:Loc×Con:=(.cell 0 7,.di)
abbrev AVi:Loc×Con:=(.cell 0 8,.di)
abbrev AVj:Loc×Con:=(.cell 0 9,.di)
abbrev gW:A0:=[(.tmp 0,.box 11),AVR,AVS,AVQ,AVg,AVY,AVb,AVa,AVh,AVi,AVj,AVf,AF]
abbrev AVk:Loc×Con:=(.obj 1,.own' 1)
abbrev gV:A0:=[(.obj 0,.box 11),AVR,AVS,AVQ,AVg,AVY,AVb,AVa,AVh,AVi,AVj,AVf,AVk,AA]
def Vx[Lk]:Us->Option (Us):=fun(b,c,d,a,e,f,g,h,i,j,k,l,_)=>
 match rem? l (A4 a)with|none=>none|some m=>match rem? (w64 (m+(A4 a))) (A4 a)with|none=>none|some n=>some (b,c,d,a,e,f,g,h,i,j,k,n,())
def TJ[Lk]:=lkk Vx
theorem bz v:TJ v=Vx v:=A1 _
abbrev AKU:A0:=[(.tmp 0,.box 11),AVR,AVS,AVQ,AVg,AVY,AVb,AVa,AVh,AVi,AVj,AVf,AF,AG]
abbrev AKT:A0:=[(.obj 0,.box 11),AVR,AVS,AVQ,AVg,AVY,AVb,AVa,AVh,AVi,AVj,AVf,AVk,AE]
def cC[Lk]:(List U5×Int×List Bool×List U7×Bool×Int×Int×Int×Int×Int×Bool×Int×Int×Unit)->Option ((List U5×Int×List Bool×List U7×Bool×Int×Int×Int×Int×Int×Bool×Bool×Unit)):=fun(d,e,f,a,g,h,i,j,l,m,k,b,c,_)=>
 match idx a b with|none=>none|some r=>match idx a c with|none=>none|some s=>match(ile 0 (w64 ((A4 (A_ a (A3 b) ([]:List (Int))))-1)))with
 |true=>match idx (A_ a (A3 b) ([]:List (Int))) (w64 ((A4 (A_ a (A3 b) ([]:List (Int))))-1))with|none=>none|some n=>match(ieq (w64 ((A4 (A_ a (A3 b) ([]:List (Int))))-1)) (w64 ((A4 (A_ a (A3 b) ([]:List (Int))))-1)))with
  |true=>match Dd (A_ a (A3 b) ([]:List (Int))) 0 (w64 ((A4 (A_ a (A3 b) ([]:List (Int))))-1))with|none=>none|some o=>match idx a b with|none=>none|some t=>some (d,e,f,(Be a (A3 b) o),g,h,i,j,b,n,k,true,())
  |false=>none
 |false=>match(ilt 0 (A4 (A_ a (A3 c) ([]:List (Int)))))with
 |true=>match idx (A_ a (A3 c) ([]:List (Int))) 0 with|none=>none|some p=>match Dd (A_ a (A3 c) ([]:List (Int))) 1 (A4 (A_ a (A3 c) ([]:List (Int))))with|none=>none|some q=>match idx a c with|none=>none|some u=>some (d,e,f,(Be a (A3 c) q),g,h,i,j,c,p,k,true,())
 |false=>some (d,e,f,a,g,h,i,j,l,m,k,false,())
def mD[Lk]:=lkk cC
theorem ga v:mD v=cC v:=A1 _
def AKS[Lk]:Us->Option (Us):=fun(h,i,j,a,k,d,e,f,g,b,l,c,_)=>
 match Rq ((h,(i,(j,()))),b,())with|none=>none|some (w,_)=>match w with
 |true=>match iT ((h,(i,(j,()))),b,())with|none=>none|some (n,o,p,q,r,m,_)=>match(ieq m 0)with
  |true=>match idx a c with|none=>none|some y=>match(fits ((A4 (A_ a (A3 c) ([]:List (Int))))+(A4 ([r,q]:List (Int)))))with
   |true=>match idx a c with|none=>none|some z=>some (n,o,p,(Be a (A3 c) (B6 (A_ a (A3 c) ([]:List (Int))) ([r,q]:List (Int)))),k,d,e,f,g,b,true,m,())
   |false=>none
  |false=>some (n,o,p,a,k,d,e,f,g,b,l,m,())
 |false=>match ALt ((h,(i,(j,()))),b,())with|none=>none|some (s,t,u,x,v,_)=>match k with
 |true=>some (s,t,u,a,true,d,e,f,g,b,l,v,())
 |false=>some (s,t,u,a,x,d,e,f,g,b,l,v,())
def cgo[Lk]:=lkk AKS
theorem AKR v:cgo v=AKS v:=A1 _
abbrev AOa:A0:=[AVX,AF,AG]
abbrev AOZ:A0:=[(.tmp 0,.dat Uv),AF,(.tmp 2,.dat Uq),(.tmp 3,.dat Uf),Af,AVU,AVe,(.tmp 7,.dat U1),AQ]
abbrev AOY:List RS:=[.agg 7,.one,.one]
def lN[Lk]:((((List U5)×Int×(List Bool)×Unit)×(List U7)×Bool×Int×Int×Unit)×Int×Int×Unit)->Option ((List U5×Int×List Bool×List U7×Bool×Int×Int×U2×Int×Unit)):=fun(a,o,p,_)=>
 match lP (((a.1.1,(a.1.2.1,(a.1.2.2.1,()))),(a.2.1,(a.2.2.1,(a.2.2.2.1,(a.2.2.2.2.1,()))))),())with|none=>none|some (q,_)=>match(!q)with
 |true=>some (a.1.1,a.1.2.1,a.1.2.2.1,a.2.1,a.2.2.1,a.2.2.2.1,a.2.2.2.2.1,(0,(0,(0,(false,())))),1,())
 |false=>match(ieq a.2.2.2.1 100000)with
 |true=>some (a.1.1,a.1.2.1,a.1.2.2.1,a.2.1,a.2.2.1,a.2.2.2.1,a.2.2.2.2.1,(0,(0,(0,(false,())))),2,())
 |false=>match M6 a.2.1 with|none=>none|some r=>match TJ (a.1.1,a.1.2.1,a.1.2.2.1,r,a.2.2.1,a.2.2.2.1,a.2.2.2.2.1,0,(-1:Int),(-1:Int),false,o,())with|none=>none|some (s,t,u,v,w,x,y,z,A,B,C,b,_)=>match TJ (s,t,u,v,w,x,y,z,A,B,C,p,())with|none=>none|some (D,E,F,G,H,I,J,y21,K,L,M,N,_)=>match mD (D,E,F,G,H,(w64 (I+1)),J,b,K,L,M,b,N,())with|none=>none|some (d,e,f,g,h,i,c,j,k,l,m,O,_)=>match O with
 |true=>match cgo (d,e,f,g,h,i,c,j,k,l,m,b,())with|none=>none|some (P,Q,R,S,T,U,V,W,X,Y,Z,n,_)=>match(!(ieq n 0))with
  |true=>some (a.1.1,a.1.2.1,a.1.2.2.1,a.2.1,a.2.2.1,a.2.2.2.1,a.2.2.2.2.1,(0,(0,(0,(false,())))),n,())
  |false=>some (P,Q,R,S,T,U,V,(W,(X,(Y,(Z,())))),0,())
 |false=>match(ieq c 100000)with
 |true=>some (a.1.1,a.1.2.1,a.1.2.2.1,a.2.1,a.2.2.1,a.2.2.2.1,a.2.2.2.2.1,(0,(0,(0,(false,())))),2,())
 |false=>some (d,e,f,g,h,i,(w64 (c+1)),(j,(k,(l,(m,())))),0,())
def zk[Lk]:=lkk lN
theorem qw v:zk v=lN v:=A1 _
abbrev AVl:Loc×Con:=(.cell 0 7,.own 212 U1)
abbrev AOO:A0:=[(.tmp 0,.box 8),AVR,AVS,AVQ,AVZ,AVY,AVb,AVa,AVl,AF,AG]
abbrev AVm:Loc×Con:=(.obj 0,.box 8)
abbrev ze:A0:=[AVm,AVR,AVS,AVQ,AVZ,AVY,AVb,AVa,AVl,AA]
def k9[Lk]:(List U5×Int×List Bool×List U7×Bool×Int×Int×List U2×Int×Int×Unit)->Option (Ug):=fun(d,e,f,g,h,i,j,b,k,l,_)=>
 match zk (((d,(e,(f,()))),(g,(h,(i,(j,()))))),k,l,())with|none=>none|some (m,n,o,p,q,r,s,a,c,_)=>match(ieq c 0)with
 |true=>match(fits ((A4 b)+(A4 ([(a.1,(a.2.1,(a.2.2.1,(a.2.2.2.1,()))))]:List U2))))with
  |true=>some (m,n,o,p,q,r,s,(B6 b ([(a.1,(a.2.1,(a.2.2.1,(a.2.2.2.1,()))))]:List U2)),c,())
  |false=>none
 |false=>some (d,e,f,g,h,i,j,b,c,())
def qk[Lk]:=lkk k9
theorem qj v:qk v=k9 v:=A1 _
abbrev AD6:A0:=[(.tmp 0,.box 8),AVR,AVS,AVQ,AVZ,AVY,AVb,AVa,AVl]
abbrev AVn:Loc×Con:=(.tmp 0,.ptr' 0 0)
abbrev AVo:Loc×Con:=(.tmp 14,.di)
abbrev wY:A0:=[AVm,AVR,AVS,AVQ,AVZ,AVY,AVb,AVa,AVl,AVn,AS,AN,AVo]
abbrev wW:BI:=[(.ret,[AVm,AVR,AVS,AVQ,AVZ,AVY,AVb,AVa,AVl,AG]),(.exit 2,[AVm,AVR,AVS,AVQ,AVZ,AVY,AVb,AVa,AVl,AVn,AS])]
def EP[Lk]:(List U5×Int×List Bool×List U7×Bool×Int×Int×List U2×Int×Int×Int×Unit)->Option ((List U5×Int×List Bool×List U7×Bool×Int×Int×List U2×Int×Int×Int×Unit)⊕Ug⊕Ug⊕Unit):=fun(b,c,d,e,a,f,g,h,j,k,i,_)=>
 match(ilt i k)with
 |true=>match a with
  |true=>some (.inr (.inl (b,c,d,e,a,f,g,h,0,())))
  |false=>match zp (((b,(c,(d,()))),(e,(a,(f,(g,()))))),())with|none=>none|some (u,_)=>match(ieq u 0)with
  |true=>some (.inr (.inl (b,c,d,e,a,f,g,h,4,())))
  |false=>match qk (b,c,d,e,a,f,g,h,i,(w64 ((w64 (i+1))+j)),())with|none=>none|some (l,m,n,o,p,q,r,s,t,_)=>match(!(ieq t 0))with
  |true=>some (.inr (.inl (l,m,n,o,p,q,r,s,t,())))
  |false=>some (.inl (l,m,n,o,p,q,r,s,j,k,(w64 (i+1)),()))
 |false=>some (.inr (.inr (.inl (b,c,d,e,a,f,g,h,j,()))))
abbrev wZ:A0:=[AVm,AVR,AVS,AVQ,AVZ,AVY,AVb,AVa,AVl,AVn,AS]
abbrev wX:BI:=[(.ret,[AVm,AVR,AVS,AVQ,AVZ,AVY,AVb,AVa,AVl,AG])]
def Fz[Lk]:Ug->Option (Ug⊕Ug⊕Unit):=fun(b,c,d,a,e,f,g,h,i,_)=>
 match A9 EP many (b,c,d,a,e,f,g,h,i,(A4 a),0,())with|none=>none|some r=>match r with
 |.inl (j,k,l,m,n,o,p,q,s,_)=>some (.inr (.inl (j,k,l,m,n,o,p,q,s,())))
 |.inr r=>match r with
 |.inl (t,u,v,w,x,y,z,A,B,_)=>some (.inl (t,u,v,w,x,y,z,A,(w64 (B+1)),()))
 |.inr _=>none
def VX[Lk]:(List U5×Int×List Bool×List U7×Bool×Int×Int×List U2×Unit)->Option (Ug):=fun(a,b,c,d,e,f,g,h,_)=>
 match A9 Fz many (a,b,c,d,e,f,g,h,0,())with|none=>none|some r=>match r with
 |.inl (i,j,k,l,m,n,o,p,q,_)=>some (i,j,k,l,m,n,o,p,q,())
 |.inr _=>none
def YI[Lk]:=lkk VX
theorem bS v:YI v=VX v:=A1 _
abbrev AJz:A0:=[AA,AF,AG,(.tmp 3,.dat (.slice (.arr 2 U0)))]
abbrev AJy:A0:=[AVX,(.tmp 1,.own 212 U1),AG]
abbrev Ea:List RS:=[.one,.one,.one]
abbrev AVp:Loc×Con:=(.cell 1 1,.di)
abbrev AD4:A0:=[(.tmp 8,.box 7),(.cell 0 0,.nil U8),AVS,(.cell 0 2,.nil .bool),(.cell 0 3,.nil U6),AVY,AVb,AVa,(.tmp 13,.box 8),(.cell 1 0,.dat Uv),AVp,(.cell 1 2,.dat Uq),(.cell 1 3,.dat Uf),(.cell 1 4,.dat .bool),(.cell 1 5,.di),(.cell 1 6,.di),(.cell 1 7,.own 212 U1),(.tmp 31,.dat (.slice (.arr 2 U0))),(.tmp 32,.di),(.tmp 33,.di)]
abbrev AD3:BI:=[(.exit 0,[(.tmp 8,.box 7),(.cell 0 0,.nil U8),AVS,(.cell 0 2,.nil .bool),(.cell 0 3,.nil U6),AVY,AVb,AVa,(.tmp 13,.box 8),(.cell 1 0,.dat Uv),AVp,(.cell 1 2,.dat Uq),(.cell 1 3,.dat Uf),(.cell 1 4,.dat .bool),(.cell 1 5,.di),(.cell 1 6,.di),(.cell 1 7,.own 212 U1)]),(.ret,[(.tmp 8,.box 7),AVR,AVS,AVQ,AVZ,AVY,AVb,AVa,(.tmp 9,.own 212 U1),Aa])]
def I9[Lk]:Vk->Option (Vk⊕(Int×Bool×Int×Int×List U5×Int×List Bool×List U7×Bool×Int×Int×List U2×Unit)⊕Ug⊕Unit):=fun(b,c,d,e,f,g,h,i,a,j,k,l,n,o,m,_)=>
 match(ilt m o)with
 |true=>match idx n m with|none=>none|some p=>match a with
  |true=>some (.inr (.inl (b,c,d,e,f,g,h,i,a,j,k,l,())))
  |false=>match qk (f,g,h,i,a,j,k,l,(A_ p 0 0),(A_ p 1 0),())with|none=>none|some (q,r,s,t,u,v,w,x,y,_)=>match(!(ieq y 0))with
  |true=>some (.inr (.inr (.inl (q,r,s,t,u,v,w,x,y,()))))
  |false=>some (.inl (b,c,d,e,q,r,s,t,u,v,w,x,n,o,(w64 (m+1)),()))
 |false=>some (.inr (.inl (b,c,d,e,f,g,h,i,a,j,k,l,())))
def bR[Lk]:(Int×Int×Int×List U7×Unit)->Option (((((List U5)×Int×(List Bool)×Unit)×(List U7)×Bool×Int×Int×Unit)×List U2×Int×Unit)):=fun(c,d,e,a,_)=>
 match mF (c,d,e,())with|none=>none|some (f,g,h,i,j,k,l,b,_)=>match(!(ieq b 0))with
 |true=>some (((([]:List U5),(0,(([]:List (Bool)),()))),(([]:List U7),(false,(0,(0,()))))),([]:List U2),b,())
 |false=>match A9 I9 many (0,false,0,0,f,g,h,i,j,k,l,([]:List U2),a,(A4 a),0,())with|none=>none|some r=>match r with
 |.inl (N,O,P,Q,m,n,o,p,q,s,t,u,_)=>match YI (m,n,o,p,q,s,t,u,())with|none=>none|some (v,w,x,y,z,A,B,C,D,_)=>some (((v,(w,(x,()))),(y,(z,(A,(B,()))))),C,D,())
 |.inr r=>match r with
 |.inl (E,F,G,H,I,J,K,L,M,_)=>some (((E,(F,(G,()))),(H,(I,(J,(K,()))))),L,M,())
 |.inr _=>none
def VW[Lk]:=lkk bR
theorem gL v:VW v=bR v:=A1 _
abbrev AEB:A0:=[AVX,(.tmp 1,.dat Ue)]
abbrev AEA:A0:=[(.tmp 0,.own 164 U3)]
abbrev wj:A0:=[(.tmp 2,.box 7),AVR,AVS,AVQ,AVZ,AVY,AVb,AVa,(.tmp 5,.own 164 U3),(.tmp 9,.dat Ue),Aa,AZ]
abbrev wi:BI:=[(.exit 0,[(.tmp 5,.own 164 U3)])]
def Jt[Lk]:(List U5×Int×List Bool×List U7×Bool×Int×Int×List U4×List U2×Int×Int×Unit)->Option ((List U5×Int×List Bool×List U7×Bool×Int×Int×List U4×List U2×Int×Int×Unit)⊕V1⊕Unit):=fun(a,f,g,h,i,j,k,b,d,e,c,_)=>
 match(ilt c e)with
 |true=>match idx d c with|none=>none|some l=>match l.2.2.2.1 with
  |true=>some (.inl (a,f,g,h,i,j,k,b,d,e,(w64 (c+1)),()))
  |false=>match(ilt l.2.2.1 0)with
  |true=>some (.inl (a,f,g,h,i,j,k,b,d,e,(w64 (c+1)),()))
  |false=>match(ile (A4 a) l.2.2.1)with
  |true=>some (.inl (a,f,g,h,i,j,k,b,d,e,(w64 (c+1)),()))
  |false=>match idx a l.2.2.1 with|none=>none|some m=>match(fits ((A4 b)+(A4 ([(m.1,(m.2.1,()))]:List U4))))with
  |true=>some (.inl (a,f,g,h,i,j,k,(B6 b ([(m.1,(m.2.1,()))]:List U4)),d,e,(w64 (c+1)),()))
  |false=>none
 |false=>some (.inr (.inl (b,())))
def VY[Lk]:((((List U5)×Int×(List Bool)×Unit)×(List U7)×Bool×Int×Int×Unit)×List U2×Unit)->Option (V1):=fun(a,b,_)=>
 match A9 Jt many (a.1.1,a.1.2.1,a.1.2.2.1,a.2.1,a.2.2.1,a.2.2.2.1,a.2.2.2.2.1,([]:List U4),b,(A4 b),0,())with|none=>none|some r=>match r with
 |.inl (c,_)=>some (c,())
 |.inr _=>none
def YK[Lk]:=lkk VY
theorem bW v:YK v=VY v:=A1 _
abbrev AJe:A0:=[(.tmp 0,.dat Ui)]
def bB[Lk]:(Ul×Unit)->Option (Ud):=fun(a,_)=>
 match(ile 1 a.1)with
 |true=>match(ile a.1 100)with
  |true=>match(ile 1 a.2.1)with
   |true=>match(ile a.2.1 8)with
    |true=>some ((ile (A4 a.2.2.1) 4000),())
    |false=>some (false,())
   |false=>some (false,())
  |false=>some (false,())
 |false=>some (false,())
def kZ[Lk]:=lkk bB
theorem fv v:kZ v=bB v:=A1 _
abbrev AJg:A0:=[AA,(.tmp 1,.dat Ui)]
abbrev E0:A0:=[AT,AF,AG]
abbrev AVq:Loc×Con:=(.tmp 44,.own 164 U3)
abbrev AVr:Loc×Con:=(.tmp 8,.own 212 U1)
abbrev AVs:Loc×Con:=(.tmp 10,.own 3 U0)
abbrev AVt:Loc×Con:=(.cell 2 0,.di)
abbrev AVu:Loc×Con:=(.cell 2 1,.di)
abbrev ADq:A0:=[AVr,AVs,(.tmp 12,.box 2),AVt,AVu,AVq,AVO,AVd,(.tmp 54,.di),(.tmp 55,.di)]
abbrev ADo:BI:=[(.exit 2,[AVr,AVs,AVq,AVO,AVd])]
def Lb[Lk]:(List U2×List Int×Int×Int×List U4×Int×Int×Int×Int×Unit)->Option ((List U2×List Int×Int×Int×List U4×Int×Int×Int×Int×Unit)⊕(List U2×List Int×List U4×Int×Int×Unit)⊕Unit):=fun(d,b,c,i,e,f,g,h,a,_)=>
 match(ilt a h)with
 |true=>match(fits ((A4 b)+(A4 ([(w64 (c+a))]:List (Int)))))with
  |true=>some (.inl (d,(B6 b ([(w64 (c+a))]:List (Int))),c,i,e,f,g,h,(w64 (a+1)),()))
  |false=>none
 |false=>some (.inr (.inl (d,b,e,f,g,())))
abbrev ADr:A0:=[AVr,AVs,AVq,AVO,AVd]
abbrev ADp:BI:=[(.exit 0,[AVr,AVs])]
def Lc[Lk]:(List U2×List Int×List U4×Int×Int×Unit)->Option ((List U2×List Int×List U4×Int×Int×Unit)⊕(List U2×List Int×Unit)⊕Unit):=fun(c,d,b,e,a,_)=>
 match(ilt a e)with
 |true=>match idx b a with|none=>none|some k=>match A9 Lb many (c,d,(A_ b (A3 a) (0,(0,()))).1,(A_ b (A3 a) (0,(0,()))).2.1,b,e,a,(w64 ((A_ b (A3 a) (0,(0,()))).2.1-(A_ b (A3 a) (0,(0,()))).1)),0,())with|none=>none|some r=>match r with
  |.inl (f,g,h,i,j,_)=>some (.inl (f,g,h,i,(w64 (j+1)),()))
  |.inr _=>none
 |false=>some (.inr (.inl (c,d,())))
def OL[Lk]:(Int×Ul×Unit)->Option (Uk):=fun(c,b,_)=>
 match(ilt c 0)with
 |true=>some (([]:List (Int)),0,1,())
 |false=>match(ilt 1000 c)with
 |true=>some (([]:List (Int)),0,1,())
 |false=>match kZ ((b.1,(b.2.1,(b.2.2.1,()))),())with|none=>none|some (g,_)=>match(!g)with
 |true=>some (([]:List (Int)),0,1,())
 |false=>match(ieq c 0)with
 |true=>some (([]:List (Int)),0,0,())
 |false=>match VW (c,b.1,b.2.1,b.2.2.1,())with|none=>none|some (a,d,e,_)=>match(!(ieq e 0))with
 |true=>some (([]:List (Int)),0,e,())
 |false=>match YK (((a.1.1,(a.1.2.1,(a.1.2.2.1,()))),(a.2.1,(a.2.2.1,(a.2.2.2.1,(a.2.2.2.2.1,()))))),d,())with|none=>none|some (f,_)=>match A9 Lc many (d,([]:List (Int)),f,(A4 f),0,())with|none=>none|some r=>match r with
 |.inl (h,i,_)=>some (i,(A4 h),0,())
 |.inr _=>none
def C4[Lk]:=lkk OL
theorem PS v:C4 v=OL v:=A1 _
def Y4[Lk]:Ub->Option (Ud):=fun(a,_)=>
 match(ile 1 a)with
 |true=>some ((ile a 100),())
 |false=>some (false,())
def Y5[Lk]:=lkk Y4
theorem eY v:Y5 v=Y4 v:=A1 _
def T8[Lk]:U4->Option (Ub):=fun(a,b,_)=>
 match(ilt a 0)with
 |true=>some (0,())
 |false=>match(ilt 1000 a)with
 |true=>some (0,())
 |false=>match Y5 (b,())with|none=>none|some (c,_)=>match(!c)with
 |true=>some (0,())
 |false=>match quo? .i64 (w64 ((w64 (a+b))-1)) b with|none=>none|some d=>some (d,())
def Xx[Lk]:=lkk T8
theorem ZF v:Xx v=T8 v:=A1 _
abbrev ALy:A0:=[AVK,AF,AG]
def iY[Lk]:Uk->Option (Uh):=fun(a,b,c,_)=>
 match Dd a (w64 (b*c)) (C7 (A4 a) (w64 ((w64 (b+1))*c)))with|none=>none|some d=>some (d,())
def nM[Lk]:=lkk iY
theorem nL v:nM v=iY v:=A1 _
abbrev AGq:A0:=[AVK,(.tmp 1,.clo 236 [])]
abbrev AVv:Loc×Con:=(.tmp 0,.own 186 Uj)
abbrev AGp:A0:=[AVv,(.tmp 1,.dat Uj)]
abbrev AVw:Loc×Con:=(.tmp 6,.own 186 Uj)
abbrev AVx:Loc×Con:=(.tmp 15,.di)
abbrev ABI:A0:=[(.tmp 1,.clo 236 []),AVw,(.tmp 7,.dat Uj),(.tmp 13,.dat Uy),AVo,AVx]
abbrev ABH:BI:=[(.exit 0,[AVw,(.tmp 7,.dat Uj)])]
def LG[Lk]:(List Int×Int×List Int×Int×Int×Unit)->Option ((List Int×Int×List Int×Int×Int×Unit)⊕Um⊕Unit):=fun(b,c,d,e,a,_)=>
 match(ilt a e)with
 |true=>match idx d a with|none=>none|some f=>match idx b a with|none=>none|some g=>some (.inl ((Be b (A3 a) c),(IntKind.wrap .u32 (c+f)),d,e,(w64 (a+1)),()))
 |false=>some (.inr (.inl (b,c,())))
def ZO[Lk]:Uh->Option (Um):=fun(a,_)=>
 match(Cq (A4 a)&&Cq (A4 a)&&ile (A4 a) (A4 a)&&true)with
 |true=>match A9 LG many ((ED (A3 (A4 a)) (0:Int)),(0:Int),a,(A4 a),(0:Int),())with|none=>none|some r=>match r with
  |.inl (b,c,_)=>some (b,c,())
  |.inr _=>none
 |false=>none
def T9[Lk]:=lkk ZO
theorem ew v:T9 v=ZO v:=A1 _
abbrev AVy:Loc×Con:=(.tmp 3,.clo 236 [])
abbrev AAw:A0:=[AVK,AF,(.tmp 2,.dat Ui),AVy]
abbrev eZ:A0:=[AVv,(.tmp 1,.dat Uj),AG,AS]
abbrev AVz:Loc×Con:=(.tmp 17,.own 186 Uj)
abbrev AV0:Loc×Con:=(.tmp 8,.own 186 Uj)
abbrev AV1:Loc×Con:=(.tmp 76,.own 3 U0)
abbrev AV2:Loc×Con:=(.tmp 9,.dat Uj)
abbrev AV3:Loc×Con:=(.tmp 19,.di)
abbrev AV4:Loc×Con:=(.tmp 78,.di)
abbrev s9:A0:=[AVK,AF,AVy,AV0,AV2,Aa,AVz,AV3,AV1,(.tmp 77,.di),AV4,(.tmp 91,.own 186 Uj),(.tmp 92,.di),(.tmp 93,.di)]
abbrev sw:BI:=[(.exit 4,[AVK,AF,AVy,AV0,AV2,Aa,AVz,AV1,(.tmp 77,.di),AV4])]
def JI[Lk]:(List Int×Int×List Int×Int×Int×List Int×Int×List Int×Int×Int×List Int×Int×Int×Unit)->Option ((List Int×Int×List Int×Int×Int×List Int×Int×List Int×Int×Int×List Int×Int×Int×Unit)⊕V9⊕Unit):=fun(g,c,e,h,i,d,b,j,k,l,f,m,a,_)=>
 match(ilt a m)with
 |true=>match idx f a with|none=>none|some n=>match idx d b with|none=>none|some o=>match idx e (w64 ((w64 (b*c))+a))with|none=>none|some p=>some (.inl (g,c,(Be e (A3 (w64 ((w64 (b*c))+a))) (IntKind.wrap .u32 ((A_ d (A3 b) 0)+(A_ f (A3 a) 0)))),h,i,d,b,j,k,l,f,m,(w64 (a+1)),()))
 |false=>some (.inr (.inl (g,c,e,h,i,d,j,k,l,())))
abbrev tA:A0:=[AVK,AF,AVy,AV0,AV2,Aa,AVz,AV1,(.tmp 77,.di),AV4]
abbrev s7:BI:=[(.exit 2,[AV0,AV2,Aa])]
def JJ[Lk]:V9->Option (V9⊕Uk⊕Unit):=fun(c,d,e,f,g,j,b,h,a,_)=>
 match(ilt a h)with
 |true=>match idx b a with|none=>none|some v=>match nM (c,(A_ b (A3 a) 0),d,())with|none=>none|some (k,_)=>match T9 (k,())with|none=>none|some (i,w,_)=>match A9 JI many (c,d,e,f,g,j,(A_ b (A3 a) 0),b,h,a,i,(A4 i),0,())with|none=>none|some r=>match r with
  |.inl (l,m,n,o,p,q,s,t,u,_)=>some (.inl (l,m,n,o,p,q,s,t,(w64 (u+1)),()))
  |.inr _=>none
 |false=>some (.inr (.inl (e,f,g,())))
abbrev tB:A0:=[AVK,AF,AVy,Aa,AVM,(.tmp 14,.own 186 Uj),(.tmp 48,.own' 0),(.tmp 49,.di),(.tmp 50,.di)]
abbrev s8:BI:=[(.exit 0,[AVK,AF,AVy,Aa,AVM,(.tmp 14,.own 186 Uj)])]
def JK[Lk]:(List Int×Int×Int×List Int×List Int×Int×Int×Unit)->Option ((List Int×Int×Int×List Int×List Int×Int×Int×Unit)⊕(List Int×Int×Int×List Int×List Int×Unit)⊕Unit):=fun(c,d,f,a,e,g,b,_)=>
 match(ilt b g)with
 |true=>match idx a b with|none=>none|some j=>match nM (c,(A_ a (A3 b) 0),d,())with|none=>none|some (h,_)=>match T9 (h,())with|none=>none|some (k,i,_)=>match idx e (A_ a (A3 b) 0)with|none=>none|some l=>some (.inl (c,d,f,a,(Be e (A3 (A_ a (A3 b) 0)) i),g,(w64 (b+1)),()))
 |false=>some (.inr (.inl (c,d,f,a,e,())))
def O8[Lk]:(List Int×Int×Ul×Unit)->Option ((List Int×Int×Int×Int×Unit)):=fun(c,d,e,_)=>
 match Y5 (d,())with|none=>none|some (i,_)=>match(!i)with
 |true=>some (([]:List (Int)),0,0,1,())
 |false=>match(ilt 1000 (A4 c))with
 |true=>some (([]:List (Int)),0,0,1,())
 |false=>match Xx ((A4 c),d,())with|none=>none|some (a,_)=>match C4 (a,(e.1,(e.2.1,(e.2.2.1,()))),())with|none=>none|some (f,j,g,_)=>match(!(ieq g 0))with
 |true=>some (([]:List (Int)),0,0,g,())
 |false=>match(Cq a&&Cq a&&ile a a&&true)with
 |true=>match A9 JK many (c,d,j,f,(ED (A3 a) (0:Int)),(A4 f),(0:Int),())with|none=>none|some r=>match r with
  |.inl (b,k,l,h,m,_)=>match T9 (m,())with|none=>none|some (n,o,_)=>match(Cq (A4 b)&&Cq (A4 b)&&ile (A4 b) (A4 b)&&true)with
   |true=>match A9 JJ many (b,k,(ED (A3 (A4 b)) (0:Int)),o,l,n,h,(A4 h),(0:Int),())with|none=>none|some r=>match r with
    |.inl (p,q,s,_)=>some (p,q,(w64 (2*s)),0,())
    |.inr _=>none
   |false=>none
  |.inr _=>none
 |false=>none
def Rw[Lk]:=lkk O8
theorem QL v:Rw v=O8 v:=A1 _
abbrev yF:A0:=[AVK,AF,(.tmp 2,.dat Ui)]
def Xs[Lk]:(List Int×Int×Ul×Unit)->Option ((List Int×Int×Int×Int×Unit)):=fun(b,c,a,_)=>
 match Rw (b,c,(a.1,(a.2.1,(a.2.2.1,()))),())with|none=>none|some (d,e,f,g,_)=>some (d,e,f,g,())
def eX[Lk]:=lkk Xs
theorem Y3 v:eX v=Xs v:=A1 _
abbrev AHT:A0:=[(.tmp 0,.dat Uq),Aq]
abbrev AHS:A0:=[AVv]
abbrev ABd:A0:=[Aq,(.tmp 5,.own 186 Uj),(.tmp 11,.dat Uq),AM,AN]
abbrev ABc:BI:=[(.exit 0,[(.tmp 5,.own 186 Uj)])]
def LJ[Lk]:(Bool×List Int×List Bool×Int×Int×Unit)->Option ((Bool×List Int×List Bool×Int×Int×Unit)⊕Uh⊕Unit):=fun(c,b,d,e,a,_)=>
 match(ilt a e)with
 |true=>match idx d a with|none=>none|some f=>match(!(f==c))with
  |true=>match idx b a with|none=>none|some g=>some (.inl (c,(Be b (A3 a) 1),d,e,(w64 (a+1)),()))
  |false=>some (.inl (c,b,d,e,(w64 (a+1)),()))
 |false=>some (.inr (.inl (b,())))
def Zm[Lk]:(List Bool×Bool×Unit)->Option (Uh):=fun(a,b,_)=>
 match(Cq (A4 a)&&Cq (A4 a)&&ile (A4 a) (A4 a)&&true)with
 |true=>match A9 LJ many (b,(ED (A3 (A4 a)) (0:Int)),a,(A4 a),(0:Int),())with|none=>none|some r=>match r with
  |.inl (c,_)=>some (c,())
  |.inr _=>none
 |false=>none
def jT[Lk]:=lkk Zm
theorem fL v:jT v=Zm v:=A1 _
abbrev uC:A0:=[AVK,(.tmp 9,.own 186 Uj),AZ,AVo,(.tmp 15,.own 3 U0),(.tmp 43,.own 3 U0),(.tmp 44,.di),AVO]
abbrev uB:BI:=[(.exit 0,[AZ,AVo,(.tmp 15,.own 3 U0)])]
def JU[Lk]:Uw->Option (Uw⊕(Int×Int×List Int×Unit)⊕Unit):=fun(e,c,f,g,d,b,h,a,_)=>
 match(ilt a h)with
 |true=>match idx b a with|none=>none|some j=>match idx e (A_ b (A3 a) 0)with|none=>none|some i=>match(ieq i 1)with
  |true=>match idx c (A_ b (A3 a) 0)with|none=>none|some k=>match idx d (A_ c (A3 (A_ b (A3 a) 0)) 0)with|none=>none|some l=>some (.inl (e,c,f,g,(Be d (A3 (A_ c (A3 (A_ b (A3 a) 0)) 0)) (A_ b (A3 a) 0)),b,h,(w64 (a+1)),()))
  |false=>some (.inl (e,c,f,g,d,b,h,(w64 (a+1)),()))
 |false=>some (.inr (.inl (f,g,d,())))
def UE[Lk]:(List Int×Int×Ul×Unit)->Option (Uk):=fun(c,g,a,_)=>
 match eX (c,g,(a.1,(a.2.1,(a.2.2.1,()))),())with|none=>none|some (h,b,i,d,_)=>match(!(ieq d 0))with
 |true=>some (([]:List (Int)),0,d,())
 |false=>match C4 ((A4 c),(a.1,(a.2.1,(a.2.2.1,()))),())with|none=>none|some (e,j,f,_)=>match(!(ieq f 0))with
 |true=>some (([]:List (Int)),0,f,())
 |false=>match(Cq b&&Cq b&&ile b b&&true)with
 |true=>match A9 JU many (c,h,i,j,(ED (A3 b) (0:Int)),e,(A4 e),(0:Int),())with|none=>none|some r=>match r with
  |.inl (k,l,m,_)=>some (m,(w64 (k+l)),0,())
  |.inr _=>none
 |false=>none
def X2[Lk]:=lkk UE
theorem Zk v:X2 v=UE v:=A1 _
abbrev AHH:A0:=[(.tmp 0,.dat Uq),AF,(.tmp 2,.dat Ui)]
def Zg[Lk]:(List Bool×Int×Ul×Unit)->Option (Uk):=fun(b,c,a,_)=>
 match jT (b,false,())with|none=>none|some (d,_)=>match X2 (d,c,(a.1,(a.2.1,(a.2.2.1,()))),())with|none=>none|some (e,f,g,_)=>some (e,f,g,())
def jQ[Lk]:=lkk Zg
theorem fH v:jQ v=Zg v:=A1 _
abbrev AMO:A0:=[AVK,AF,AG,(.tmp 3,.dat Ui)]
abbrev AV5:Loc×Con:=(.tmp 16,.own 3 U0)
abbrev AGx:A0:=[AVK,AF,AZ,AVo,AV5,AVO,AVd]
abbrev AGv:BI:=[(.exit 2,[AZ,AVo,AV5])]
def Nq[Lk]:V6->Option (V6⊕(Int×Int×List Int×Unit)⊕Unit):=fun(b,c,d,e,f,g,a,_)=>
 match(ilt a g)with
 |true=>match rby (b,f,a,c,())with|none=>none|some (h,_)=>some (.inl (b,c,d,e,h,g,(w64 (a+1)),()))
 |false=>some (.inr (.inl (d,e,f,())))
abbrev AGy:A0:=[AVK,AF,AZ,AVo,AV5,(.tmp 36,.di),(.tmp 37,.di)]
abbrev AGw:BI:=[(.exit 0,[AVK,AF,AZ,AVo,AV5])]
def Nr[Lk]:V6->Option (V6⊕(List Int×Int×Int×Int×List Int×Unit)⊕Unit):=fun(c,d,e,f,b,g,a,_)=>
 match(ilt a g)with
 |true=>match(fits ((A4 b)+(A4 ([a]:List (Int)))))with
  |true=>some (.inl (c,d,e,f,(B6 b ([a]:List (Int))),g,(w64 (a+1)),()))
  |false=>none
 |false=>some (.inr (.inl (c,d,e,f,b,())))
def Xy[Lk]:(List Int×Int×Int×Ul×Unit)->Option (Uk):=fun(a,c,g,b,_)=>
 match PB (c,())with|none=>none|some (d,_)=>match(ieq d 0)with
 |true=>some (([]:List (Int)),0,1,())
 |false=>match eX (a,g,(b.1,(b.2.1,(b.2.2.1,()))),())with|none=>none|some (p,q,h,e,_)=>match(!(ieq e 0))with
 |true=>some (([]:List (Int)),0,e,())
 |false=>match A9 Nr many (a,c,d,h,([]:List (Int)),(A4 a),0,())with|none=>none|some r=>match r with
 |.inl (i,j,f,k,l,_)=>match A9 Nq many (i,j,f,k,l,f,0,())with|none=>none|some r=>match r with
  |.inl (m,n,o,_)=>some (o,(w64 (n*m)),0,())
  |.inr _=>none
 |.inr _=>none
def fB[Lk]:=lkk Xy
theorem ZT v:fB v=Xy v:=A1 _
abbrev ABK:A0:=[AVK,Ae]
abbrev ABJ:A0:=[AVv,Aq]
abbrev tX:A0:=[AVK,AVw,(.tmp 14,.dat U6),AVx,(.tmp 16,.di)]
abbrev tW:BI:=[(.exit 0,[AVw])]
def JR[Lk]:Vb->Option (Vb⊕Uh⊕Unit):=fun(c,a,d,e,b,_)=>
 match(ilt b e)with
 |true=>match idx d b with|none=>none|some g=>match idx c g with|none=>none|some f=>match(fits ((A4 a)+(A4 ([f]:List (Int)))))with
  |true=>some (.inl (c,(B6 a ([f]:List (Int))),d,e,(w64 (b+1)),()))
  |false=>none
 |false=>some (.inr (.inl (a,())))
def T_[Lk]:Vh->Option ((List Int×Bool×Unit)):=fun(b,a,_)=>
 match yN (a,(A4 b),())with|none=>none|some (c,_)=>match(!c)with
 |true=>some (([]:List (Int)),false,())
 |false=>match A9 JR many (b,([]:List (Int)),a,(A4 a),0,())with|none=>none|some r=>match r with
 |.inl (d,_)=>some (d,true,())
 |.inr _=>none
def R5[Lk]:=lkk T_
theorem ZS v:R5 v=T_ v:=A1 _
abbrev gN:A0:=[AVK,(.tmp 1,.dat V8)]
abbrev AED:A0:=[AVv,(.tmp 1,.own 3 U0),AG,AS]
abbrev wo:A0:=[Ac,(.tmp 11,.own 186 Uj),AVM,AVo,(.tmp 15,.own 186 Uj),AV5,(.tmp 55,.own' 1),(.tmp 56,.di),(.tmp 57,.di)]
abbrev wm:BI:=[(.exit 0,[Ac,AVo,(.tmp 15,.own 186 Uj),AV5])]
def Ju[Lk]:(Int×List Int×List Int×Int×List Int×List Int×Int×Int×Unit)->Option ((Int×List Int×List Int×Int×List Int×List Int×Int×Int×Unit)⊕(Int×Int×List Int×List Int×Unit)⊕Unit):=fun(f,c,b,g,d,e,h,a,_)=>
 match(ilt a h)with
 |true=>match idx b a with|none=>none|some i=>match(ilt (w64 (a+1)) (A4 b))with
  |true=>match idx b (w64 (a+1))with|none=>none|some j=>match idx c (A_ b (A3 a) 0)with|none=>none|some k=>match(fits ((A4 d)+(A4 ([(A_ c (A3 (A_ b (A3 a) 0)) 0)]:List (Int)))))with
   |true=>match(fits ((A4 e)+(A4 ([(w64 ((A_ b (A3 (w64 (a+1))) 0)-(A_ b (A3 a) 0)))]:List (Int)))))with
    |true=>some (.inl (f,c,b,g,(B6 d ([(A_ c (A3 (A_ b (A3 a) 0)) 0)]:List (Int))),(B6 e ([(w64 ((A_ b (A3 (w64 (a+1))) 0)-(A_ b (A3 a) 0)))]:List (Int))),h,(w64 (a+1)),()))
    |false=>none
   |false=>none
  |false=>match idx c (A_ b (A3 a) 0)with|none=>none|some l=>match(fits ((A4 d)+(A4 ([(A_ c (A3 (A_ b (A3 a) 0)) 0)]:List (Int)))))with
  |true=>match(fits ((A4 e)+(A4 ([(w64 ((A4 c)-(A_ b (A3 a) 0)))]:List (Int)))))with
   |true=>some (.inl (f,c,b,g,(B6 d ([(A_ c (A3 (A_ b (A3 a) 0)) 0)]:List (Int))),(B6 e ([(w64 ((A4 c)-(A_ b (A3 a) 0)))]:List (Int))),h,(w64 (a+1)),()))
   |false=>none
  |false=>none
 |false=>some (.inr (.inl (f,g,d,e,())))
def PU[Lk]:(List Int×V5×Unit)->Option (Vm):=fun(b,a,_)=>
 match fB (b,a.1,a.2.1,(a.2.2.1.1,(a.2.2.1.2.1,(a.2.2.1.2.2.1,()))),())with|none=>none|some (g,h,c,_)=>match(!(ieq c 0))with
 |true=>some (([]:List (Int)),([]:List (Int)),0,c,())
 |false=>match R5 (b,g,())with|none=>none|some (d,o,_)=>match YL (d,())with|none=>none|some (i,_)=>match jQ (i,a.2.1,(a.2.2.1.1,(a.2.2.1.2.1,(a.2.2.1.2.2.1,()))),())with|none=>none|some (e,j,f,_)=>match(!(ieq f 0))with
 |true=>some (([]:List (Int)),([]:List (Int)),0,f,())
 |false=>match A9 Ju many (h,d,e,j,([]:List (Int)),([]:List (Int)),(A4 e),0,())with|none=>none|some r=>match r with
 |.inl (k,l,m,n,_)=>some (m,n,(w64 (k+l)),0,())
 |.inr _=>none
def S9[Lk]:=lkk PU
theorem RE v:S9 v=PU v:=A1 _
abbrev AOQ:A0:=[AVv,AF,AG]
def YJ[Lk]:(List Int×V5×Unit)->Option (Uk):=fun(b,a,_)=>
 match S9 (b,(a.1,(a.2.1,((a.2.2.1.1,(a.2.2.1.2.1,(a.2.2.1.2.2.1,()))),()))),())with|none=>none|some (c,f,d,e,_)=>some (c,d,e,())
def bV[Lk]:=lkk YJ
theorem bU v:bV v=YJ v:=A1 _
abbrev AJ8:A0:=[At,(.tmp 1,.dat V8)]
abbrev AJ7:A0:=[Av,AF,AG]
abbrev AEL:A0:=[AN,AVo,(.tmp 15,.own 47 U3),(.tmp 48,.own 186 Uj),(.tmp 49,.di),(.tmp 50,.di)]
abbrev AEJ:BI:=[(.exit 2,[AN,AVo,(.tmp 15,.own 47 U3)])]
def HQ[Lk]:(Int×Int×List U4×List Int×Int×Int×Unit)->Option ((Int×Int×List U4×List Int×Int×Int×Unit)⊕(Int×Int×List U4×Unit)⊕Unit):=fun(d,e,b,c,f,a,_)=>
 match(ilt a f)with
 |true=>match idx c a with|none=>none|some h=>match zh ((A_ c (A3 a) 0),())with|none=>none|some (g,_)=>match(fits ((A4 b)+(A4 ([g]:List U4))))with
  |true=>some (.inl (d,e,(B6 b ([g]:List U4)),c,f,(w64 (a+1)),()))
  |false=>none
 |false=>some (.inr (.inl (d,e,b,())))
abbrev AV6:Loc×Con:=(.cell 0 4,.dat (.slice (.arr 2 U0)))
abbrev AV7:Loc×Con:=(.cell 0 2,.di)
abbrev AV8:Loc×Con:=(.cell 0 3,.di)
abbrev AEM:A0:=[(.tmp 3,.box 5),AL,AVS,AV7,AV8,AV6,(.tmp 7,.own 186 Uj),(.tmp 18,.dat Uu),AV3,(.tmp 20,.di)]
abbrev AEK:BI:=[(.ret,[(.tmp 4,.nil U3),AVU,AVe]),(.exit 0,[(.tmp 3,.box 5),AL,AVS,AV7,AV8,AV6,(.tmp 7,.own 186 Uj)])]
def Lh[Lk]:(Int×Int×Int×Int×List U7×List Int×List U4×Int×Int×Unit)->Option ((Int×Int×Int×Int×List U7×List Int×List U4×Int×Int×Unit)⊕U4⊕(Int×Int×Int×Int×List U7×List Int×Unit)⊕Unit):=fun(d,e,f,g,h,a,i,j,b,_)=>
 match(ilt b j)with
 |true=>match idx i b with|none=>none|some c=>match AOS ((c.1,(c.2.1,())),())with|none=>none|some (k,l,_)=>match(!l)with
  |true=>some (.inr (.inl (0,10,())))
  |false=>match(!(ieq c.1 c.2.1))with
  |true=>match(fits ((A4 a)+(A4 ([k]:List (Int)))))with
   |true=>some (.inl (d,e,f,g,h,(B6 a ([k]:List (Int))),i,j,(w64 (b+1)),()))
   |false=>none
  |false=>some (.inl (d,e,f,g,h,a,i,j,(w64 (b+1)),()))
 |false=>some (.inr (.inr (.inl (d,e,f,g,h,a,()))))
def S'[Lk]:(List U4×V5×Unit)->Option ((List U4×Int×Int×Unit)):=fun(b,a,_)=>
 match A9 Lh many (a.1,a.2.1,a.2.2.1.1,a.2.2.1.2.1,a.2.2.1.2.2.1,([]:List (Int)),b,(A4 b),0,())with|none=>none|some r=>match r with
 |.inl (d,e,_)=>some (([]:List U4),d,e,())
 |.inr r=>match r with
 |.inl (f,g,h,i,j,k,_)=>match bV (k,(f,(g,((h,(i,(j,()))),()))),())with|none=>none|some (c,l,m,_)=>match A9 HQ many (l,m,([]:List U4),c,(A4 c),0,())with|none=>none|some r=>match r with
  |.inl (n,o,p,_)=>some (p,n,o,())
  |.inr _=>none
 |.inr _=>none
def ba[Lk]:=lkk S'
theorem Vo v:ba v=S' v:=A1 _
abbrev AV9:Loc×Con:=(.cell 0 1,.dat Ue)
abbrev Sm:A0:=[AO,(.cap 1 0,.box 2),AL,AV9,(.tmp 1,.clo 71 [(0,0)])]
abbrev kI:A0:=[As,AL,AV9,AA]
abbrev dP:A0:=[As,AL,AV9,AO,(.tmp 1,.clo 71 [(0,0)]),AP,AQ]
abbrev dO:BI:=[(.ret,[As,AL,AV9,AR]),(.exit 0,[As,AL,AV9])]
def Fc[Lk]:(Int×List U2×List Int×Int×Int×Unit)->Option ((Int×List U2×List Int×Int×Int×Unit)⊕(Int×List U2×Int×Unit)⊕(Int×List U2×Unit)⊕Unit):=fun(a,c,d,e,b,_)=>
 match(ilt b e)with
 |true=>match idx d b with|none=>none|some f=>match(ile a f)with
  |true=>some (.inr (.inl (a,c,b,())))
  |false=>some (.inl (a,c,d,e,(w64 (b+1)),()))
 |false=>some (.inr (.inr (.inl (a,c,()))))
def Mi[Lk]:(List Int×Int×List U2×Unit)->Option ((Int×List U2×Int×Unit)):=fun(a,b,c,_)=>
 match A9 Fc many (b,c,a,(A4 a),0,())with|none=>none|some r=>match r with
 |.inl (d,e,f,_)=>some (d,e,f,())
 |.inr r=>match r with
 |.inl (g,h,_)=>some (g,h,(-1:Int),())
 |.inr _=>none
def Q1[Lk]:=lkk Mi
theorem P1 v:Q1 v=Mi v:=A1 _
abbrev AWA:Loc×Con:=(.tmp 1,.dat Uu)
abbrev R4:A0:=[AA,AWA]
abbrev ABB:A0:=[AA,(.tmp 13,.dat Uu),AVo,AVx]
def LB[Lk]:(Int×List U4×Int×Int×Unit)->Option ((Int×List U4×Int×Int×Unit)⊕Ub⊕(Unit)⊕Unit):=fun(c,d,e,b,_)=>
 match(ilt b e)with
 |true=>match idx d b with|none=>none|some a=>match(ilt (C7 a.1 a.2.1) 0)with
  |true=>some (.inr (.inl (10,())))
  |false=>match(ile c (imax a.1 a.2.1))with
  |true=>some (.inr (.inl (10,())))
  |false=>some (.inl (c,d,e,(w64 (b+1)),()))
 |false=>some (.inr (.inr (.inl ())))
def ZH[Lk]:(Int×List U4×Unit)->Option (Ub):=fun(a,b,_)=>
 match(ilt a 1)with
 |true=>some (1,())
 |false=>match(ilt 64 a)with
 |true=>some (1,())
 |false=>match A9 LB many (a,b,(A4 b),0,())with|none=>none|some r=>match r with
 |.inl (c,_)=>some (c,())
 |.inr r=>match r with
 |.inl _=>some (0,())
 |.inr _=>none
def ZI[Lk]:=lkk ZH
theorem ei v:ZI v=ZH v:=A1 _
abbrev ABG:A0:=[Au,AQ,Ac]
def LF[Lk]:Uk->Option (Uk⊕Uh⊕Unit):=fun(b,c,a,_)=>
 match(ilt a c)with
 |true=>match idx b a with|none=>none|some d=>some (.inl ((Be b (A3 a) a),c,(w64 (a+1)),()))
 |false=>some (.inr (.inl (b,())))
def ZM[Lk]:Ub->Option (Uh):=fun(a,_)=>
 match(Cq a&&Cq a&&ile a a&&true)with
 |true=>match A9 LF many ((ED (A3 a) (0:Int)),(A4 (ED (A3 a) (0:Int))),(0:Int),())with|none=>none|some r=>match r with
  |.inl (b,_)=>some (b,())
  |.inr _=>none
 |false=>none
def ZN[Lk]:=lkk ZM
theorem ep v:ZN v=ZM v:=A1 _
abbrev Ni:A0:=[AT,AF]
abbrev AWB:Loc×Con:=(.obj 0,.own 3 U0)
abbrev nU:A0:=[AWB,AA]
abbrev AA2:A0:=[AWB,Aj,AF]
abbrev AA1:BI:=[(.exit 0,[AWB,AF])]
def Tz[Lk]:Um->Option (Um⊕Um⊕Unit):=fun(a,b,_)=>
 match idx a b with|none=>none|some c=>match(!(ieq (A_ a (A3 b) 0) b))with
 |true=>match idx a b with|none=>none|some d=>match idx a (A_ a (A3 b) 0)with|none=>none|some e=>match idx a b with|none=>none|some f=>match idx (Be a (A3 b) (A_ a (A3 (A_ a (A3 b) 0)) 0)) b with|none=>none|some g=>some (.inl ((Be a (A3 b) (A_ a (A3 (A_ a (A3 b) 0)) 0)),(A_ (Be a (A3 b) (A_ a (A3 (A_ a (A3 b) 0)) 0)) (A3 b) 0),()))
 |false=>some (.inr (.inl (a,b,())))
def Y9[Lk]:Um->Option (Um):=fun(a,b,_)=>
 match A9 Tz many (a,b,())with|none=>none|some r=>match r with
 |.inl (c,d,_)=>some (c,d,())
 |.inr _=>none
def T2[Lk]:=lkk Y9
theorem ec v:T2 v=Y9 v:=A1 _
abbrev yK:A0:=[AWB,AE]
def Xu[Lk]:Uk->Option ((List Int×Bool×Unit)):=fun(d,e,f,_)=>
 match T2 (d,e,())with|none=>none|some (g,a,_)=>match T2 (g,f,())with|none=>none|some (c,b,_)=>match idx c (imax a b)with|none=>none|some h=>some ((Be c (A3 (imax a b)) (C7 a b)),(!(ieq a b)),())
def nV[Lk]:=lkk Xu
theorem Y_ v:nV v=Xu v:=A1 _
abbrev wT:A0:=[At,(.cap 1 0,.own 3 U0),(.tmp 1,.bnd 142 0)]
abbrev bQ:A0:=[AWB,AVL]
abbrev qi:A0:=[AWB,(.tmp 1,.bnd 142 0),(.tmp 5,.own 4 .bool),(.tmp 8,.dat Uu),Ac,Aa]
abbrev qh:BI:=[(.exit 0,[AWB,(.tmp 5,.own 4 .bool)])]
def Dw[Lk]:(List Int×List Bool×List U4×Int×Int×Unit)->Option ((List Int×List Bool×List U4×Int×Int×Unit)⊕(List Int×List Bool×Unit)⊕Unit):=fun(c,a,d,e,b,_)=>
 match(ilt b e)with
 |true=>match idx d b with|none=>none|some f=>match nV (c,f.1,f.2.1,())with|none=>none|some (h,g,_)=>match(fits ((A4 a)+(A4 ([g]:List (Bool)))))with
  |true=>some (.inl (h,(B6 a ([g]:List (Bool))),d,e,(w64 (b+1)),()))
  |false=>none
 |false=>some (.inr (.inl (c,a,())))
def Mw[Lk]:(List U4×List Int×Unit)->Option ((List Int×List Bool×Unit)):=fun(a,b,_)=>
 match A9 Dw many (b,([]:List (Bool)),a,(A4 a),0,())with|none=>none|some r=>match r with
 |.inl (c,d,_)=>some (c,d,())
 |.inr _=>none
def OT[Lk]:=lkk Mw
theorem OS v:OT v=Mw v:=A1 _
abbrev AGR:A0:=[AT,AWA]
def Ry[Lk]:(List Int×List U4×Unit)->Option ((List Int×List Bool×Unit)):=fun(a,b,_)=>
 match OT (b,a,())with|none=>none|some (c,d,_)=>some (c,d,())
def T4[Lk]:=lkk Ry
theorem T3 v:T4 v=Ry v:=A1 _
abbrev AWC:Loc×Con:=(.tmp 7,.own 3 U0)
abbrev nd:A0:=[AWC,(.tmp 21,.di),(.tmp 22,.di)]
abbrev nb:BI:=[(.exit 0,[AWC])]
def Hy[Lk]:Uk->Option (Uk⊕Uh⊕Unit):=fun(b,c,a,_)=>
 match(ilt a c)with
 |true=>match T2 (b,a,())with|none=>none|some (d,e,_)=>match idx d a with|none=>none|some f=>some (.inl ((Be d (A3 a) e),c,(w64 (a+1)),()))
 |false=>some (.inr (.inl (b,())))
def QQ[Lk]:(Int×List U4×Unit)->Option (Um):=fun(a,b,_)=>
 match ZI (a,b,())with|none=>none|some (c,_)=>match(!(ieq c 0))with
 |true=>some (([]:List (Int)),c,())
 |false=>match ZN (a,())with|none=>none|some (e,_)=>match T4 (e,b,())with|none=>none|some (d,g,_)=>match A9 Hy many (d,(A4 d),0,())with|none=>none|some r=>match r with
 |.inl (f,_)=>some (f,0,())
 |.inr _=>none
def R2[Lk]:=lkk QQ
theorem Wb v:R2 v=QQ v:=A1 _
def jz[Lk]:U4->Option (Ud):=fun(a,b,_)=>
 match ACd (a,())with|none=>none|some (c,_)=>match c with
 |true=>match ACd (b,())with|none=>none|some (d,_)=>match(!d)with
  |true=>some (true,())
  |false=>some ((ilt a b),())
 |false=>some ((ilt a b),())
def C9[Lk]:=lkk jz
theorem px v:C9 v=jz v:=A1 _
abbrev Jh:A0:=[AWB]
abbrev ANl:A0:=[AWB,Aj,AF,AG,AVe,AP]
abbrev ANk:BI:=[(.exit 2,[AWB,Aj,AF,AG,AVe])]
abbrev ANm:A0:=[AWB,Aj,AF,AG,AVe]
abbrev kD:BI:=[(.exit 0,[AWB])]
def AQZ[Lk]:=Qw (0:Int) C9 tId
def ARd[Lk]:=vu (0:Int) C9 tId
theorem ANn v:ARd v=AQZ v:=A1 _
abbrev KM:A0:=[AT,AF,AG,AS]
abbrev AGa:A0:=[AWB,Aj,AG,AS,AQ]
abbrev AGZ:BI:=[(.exit 0,[AWB]),(.ret,[AWB])]
def AMG[Lk]:=MJ (0:Int) C9 tId
def API[Lk]:=WX (0:Int) C9 tId
theorem AGb v:API v=AMG v:=A1 _
abbrev AJI:A0:=[AWB,Aj,AVe,AP,Aa]
abbrev AJG:BI:=[(.exit 2,[AWB])]
abbrev AJJ:A0:=[AWB,Aj,AVe,AP,AQ,Ac]
abbrev AJH:BI:=[(.exit 0,[AWB,Aj,AVe,AP,AQ])]
def AN0[Lk]:=Mn (0:Int) C9 tId
def APS[Lk]:=ar (0:Int) C9 tId
theorem AJK v:APS v=AN0 v:=A1 _
abbrev ACP:A0:=[AT,AF,AG,Al,AJ]
abbrev ACO:A0:=[AWB,Am,AJ,AA,AF]
def ACQ[Lk]:=HC (0:Int) C9 tId
def ym[Lk]:=Ig (0:Int) C9 tId
theorem vH v:ym v=ACQ v:=A1 _
abbrev ACm:A0:=[AT,AF,AG,AS,An,AJ]
abbrev fU:A0:=[AWB,Am,AJ,AA]
def ACn[Lk]:=HF (0:Int) C9 tId
def zB[Lk]:=Ii (0:Int) C9 tId
theorem vX v:zB v=ACn v:=A1 _
abbrev ACy:A0:=[AT,AF,Ao,AJ]
def ACz[Lk]:=HG (0:Int) C9 tId
def zF[Lk]:=Ij (0:Int) C9 tId
theorem vc v:zF v=ACz v:=A1 _
abbrev AHf:A0:=[AWB,AA,AF]
def AHg[Lk]:=JV (0:Int) C9 tId
def AHi[Lk]:=Qa (0:Int) C9 tId
theorem ABk v:AHi v=AHg v:=A1 _
abbrev AMW:A0:=[AWB,Aj,AVe,AP]
def APr[Lk]:=QW (0:Int) C9 tId
def ARN[Lk]:=tg (0:Int) C9 tId
theorem AMX v:ARN v=APr v:=A1 _
abbrev pD:A0:=[AWB,Aj,AF,AG,AP,AQ,Aa]
abbrev ox:BI:=[(.exit 6,[AWB,Aj,AF,AG,AP,AQ])]
abbrev pE:A0:=[AWB,Aj,AF,AG,AP,AQ,Ac]
abbrev oy:BI:=[(.exit 4,[AWB,Aj,AF,AG,AP,AQ])]
abbrev Wj:A0:=[AWB,Aj,AF,AG,AP,AQ]
abbrev oz:BI:=[(.exit 2,[AWB,Aj,AF,AG,AP,AQ])]
abbrev pC:BI:=[(.ret,[AWB,(.tmp 6,.dat .bool)]),(.exit 0,[AWB])]
def uh[Lk]:=Fu (0:Int) C9 tId
def pG[Lk]:=JY (0:Int) C9 tId
theorem pF v:pG v=uh v:=A1 _
abbrev Qf:A0:=[AWB,Aj,AF,Ac,Aa]
abbrev u5:BI:=[(.exit 4,[AWB,Aj,AF,Ac,Aa])]
abbrev u6:BI:=[(.exit 2,[AWB,Aj,AF,Ac,Aa])]
abbrev u7:BI:=[(.exit 0,[AWB,Ac])]
def AB9[Lk]:=HA (0:Int) C9 tId
def yi[Lk]:=MQ (0:Int) C9 tId
theorem u9 v:yi v=AB9 v:=A1 _
abbrev ANA:A0:=[AWB,AA,Aq]
abbrev Nz:A0:=[AWB,Aj,AF,Aa,AZ]
abbrev AIA:BI:=[(.exit 8,[AWB,Aj,AF,Aa,AZ])]
abbrev AIB:BI:=[(.exit 6,[AWB,Aj,AF,Aa,AZ])]
abbrev AIC:BI:=[(.exit 4,[AWB,Aj,AF,AZ])]
abbrev AID:BI:=[(.exit 2,[AWB,Aj,AF,Aa,AZ])]
abbrev AIE:BI:=[(.exit 0,[AWB,Aj,AF,Aa,AZ])]
def ANB[Lk]:=MP (0:Int) C9 tId
def APN[Lk]:=SH (0:Int) C9 tId
theorem AIF v:APN v=ANB v:=A1 _
abbrev AWD:Loc×Con:=(.tmp 2,.clo 38 [])
abbrev AQ0:A0:=[(.tmp 0,.dat Ue),(.tmp 1,.dat U1),AWD]
abbrev xd:A0:=[AA,Aq]
abbrev AWE:Loc×Con:=(.cell 0 3,.dat .bool)
abbrev AOo:A0:=[(.tmp 0,.dat Ue),AWD,(.tmp 4,.box 4),AL,AVS,AV7,AWE,AQ,Ac,Aa]
abbrev AOn:BI:=[(.exit 0,[(.tmp 0,.dat Ue),AWD,(.tmp 4,.box 4),AL,AVS,AV7,AWE,AQ,Ac])]
def TR[Lk]:(List U2×Int×Int×Int×Bool×Int×Int×Int×Unit)->Option ((List U2×Int×Int×Int×Bool×Int×Int×Int×Unit)⊕(List U2×Int×Int×Int×Bool×Int×Int×Unit)⊕Unit):=fun(a,b,c,d,e,h,f,i,_)=>
 match(ilt f i)with
 |true=>match shr? .u64 (IntKind.wrap .u64 (w64 (f+i))) 1 with|none=>none|some j=>match idx a (w64 j)with|none=>none|some g=>match Fb ((g.1,(g.2.1,(g.2.2.1,(g.2.2.2.1,())))),(b,(c,(d,(e,())))),())with|none=>none|some (k,_)=>match(ilt k 0)with
  |true=>some (.inl (a,b,c,d,e,h,(w64 ((w64 j)+1)),i,()))
  |false=>some (.inl (a,b,c,d,e,h,f,(w64 j),()))
 |false=>some (.inr (.inl (a,b,c,d,e,h,f,())))
def xe[Lk]:(List U2×U2×Unit)->Option ((Int×Bool×Unit)):=fun(d,a,_)=>
 match A9 TR many (d,a.1,a.2.1,a.2.2.1,a.2.2.2.1,(A4 d),0,(A4 d),())with|none=>none|some r=>match r with
 |.inl (e,f,g,h,i,j,b,_)=>match(ilt b j)with
  |true=>match idx e b with|none=>none|some c=>match Fb ((c.1,(c.2.1,(c.2.2.1,(c.2.2.2.1,())))),(f,(g,(h,(i,())))),())with|none=>none|some (k,_)=>some (b,(ieq k 0),())
  |false=>some (b,false,())
 |.inr _=>none
def AKn[Lk]:=lkk xe
theorem zt v:AKn v=xe v:=A1 _
abbrev N9:A0:=[AD,AF,AG]
def aI[Lk]:(Uc×Int×Int×Unit)->Option ((Int×Bool×Unit)):=fun(c,a,b,_)=>
 match AKn (c.2.1,((C7 a b),((imax a b),(0,(false,())))),())with|none=>none|some (d,e,_)=>some (d,e,())
def vh[Lk]:=lkk aI
theorem fX v:vh v=aI v:=A1 _
abbrev AWF:Loc×Con:=(.tmp 1,.clo 156 [(1,0)])
abbrev AWG:Loc×Con:=(.cell 1 1,.dat Uf)
abbrev OG:A0:=[AT,(.cap 1 0,.box 2),AJ,AWG,AWF]
abbrev AWH:Loc×Con:=(.obj 1,.box 2)
abbrev ai:A0:=[AWB,AWH,AJ,AWG,AA]
abbrev XY:A0:=[AWB,AWH,AJ,AWG,Aj,AWF,AP,AQ]
abbrev XX:BI:=[(.ret,[AWB,AWH,AJ,AWG,AR]),(.exit 0,[AWB,AWH,AJ,AWG])]
def Di[Lk]:Vf->Option (Vf⊕Vn⊕Vj⊕Unit):=fun(a,c,d,e,b,_)=>
 match(ilt b e)with
 |true=>match idx a b with|none=>none|some f=>match(ile c (A_ a (A3 b) 0))with
  |true=>some (.inr (.inl (a,c,d,b,())))
  |false=>some (.inl (a,c,d,e,(w64 (b+1)),()))
 |false=>some (.inr (.inr (.inl (a,c,d,()))))
def Jm[Lk]:Vj->Option (Vn):=fun(a,b,c,_)=>
 match A9 Di many (a,b,c,(A4 a),0,())with|none=>none|some r=>match r with
 |.inl (d,e,f,g,_)=>some (d,e,f,g,())
 |.inr r=>match r with
 |.inl (h,i,j,_)=>some (h,i,j,(-1:Int),())
 |.inr _=>none
def Mh[Lk]:=lkk Jm
theorem ND v:Mh v=Jm v:=A1 _
abbrev AN4:A0:=[(.tmp 0,.nil U1),AF]
abbrev AWI:Loc×Con:=(.tmp 0,.own 61 U1)
abbrev zM:A0:=[AWI]
def kR[Lk]:Ub->Option ((List U2×Unit)):=fun(a,_)=>
 match(ilt a 0)with
 |true=>none
 |false=>match(ilt 0 (w64 (a-(w64 (0-0)))))with
 |true=>match Dd ([]:List Unit) 0 0 with|none=>none|some _u0=>match(Cq (w64 (a-(w64 (0-0)))))with
  |true=>match Dd (ED (A3 (w64 (a-(w64 ((0:Int)-(0:Int)))))) ((0:Int),((0:Int),((0:Int),(false,()))))) (0:Int) (0:Int)with|none=>none|some b=>some ((DA (A3 (A4 b)) (ED (A3 (w64 (a-(w64 ((0:Int)-(0:Int)))))) ((0:Int),((0:Int),((0:Int),(false,())))))),())
  |false=>none
 |false=>some (([]:List U2),())
def zN[Lk]:=lkk kR
theorem qH v:zN v=kR v:=A1 _
abbrev AWJ:Loc×Con:=(.tmp 0,.dat (.slice Ue))
abbrev AEe:A0:=[AWJ]
abbrev xF:A0:=[(.tmp 6,.own 61 U1),(.tmp 25,.dat (.slice Ue)),AY,AX]
abbrev xD:BI:=[(.exit 2,[(.tmp 6,.own 61 U1)])]
def Jy[Lk]:(List U2×List (List U2)×Int×Int×Unit)->Option ((List U2×List (List U2)×Int×Int×Unit)⊕(List U2×Unit)⊕Unit):=fun(a,c,d,b,_)=>
 match(ilt b d)with
 |true=>match idx c b with|none=>none|some e=>match(fits ((A4 a)+(A4 e)))with
  |true=>some (.inl ((B6 a e),c,d,(w64 (b+1)),()))
  |false=>none
 |false=>some (.inr (.inl (a,())))
abbrev xG:A0:=[AWJ,AS,(.tmp 9,.dat (.slice Ue)),Aa,AZ]
abbrev xE:BI:=[(.exit 0,[AWJ,AS])]
def Jz[Lk]:(List (List U2)×Int×List (List U2)×Int×Int×Unit)->Option ((List (List U2)×Int×List (List U2)×Int×Int×Unit)⊕(List (List U2)×Int×Unit)⊕Unit):=fun(c,a,d,e,b,_)=>
 match(ilt b e)with
 |true=>match idx d b with|none=>none|some f=>match(ilt (w64 (a+(A4 f))) 0)with
  |true=>none
  |false=>some (.inl (c,(w64 (a+(A4 f))),d,e,(w64 (b+1)),()))
 |false=>some (.inr (.inl (c,a,())))
def Vu[Lk]:(List (List U2)×Unit)->Option ((List U2×Unit)):=fun(a,_)=>
 match A9 Jz many (a,0,a,(A4 a),0,())with|none=>none|some r=>match r with
 |.inl (b,c,_)=>match zN (c,())with|none=>none|some (d,_)=>match A9 Jy many (d,b,(A4 b),0,())with|none=>none|some r=>match r with
  |.inl (e,_)=>some (e,())
  |.inr _=>none
 |.inr _=>none
def TH[Lk]:=lkk Vu
theorem br v:TH v=Vu v:=A1 _
abbrev AWK:Loc×Con:=(.cell 0 0,.dat U6)
abbrev Kb:A0:=[AO,(.cap 1 0,.box 1),AWK,(.tmp 1,.clo 152 [(0,0)])]
abbrev Sl:A0:=[AB,AWK,AA]
abbrev Q0:A0:=[AB,AWK,AO,(.tmp 1,.clo 152 [(0,0)]),AP,AQ]
abbrev Qz:BI:=[(.ret,[AB,AWK,AR]),(.exit 0,[AB,AWK])]
def DW[Lk]:Vm->Option (Vm⊕Um⊕Uh⊕Unit):=fun(a,c,d,b,_)=>
 match(ilt b d)with
 |true=>match idx c b with|none=>none|some e=>match(ilt e 0)with
  |true=>some (.inr (.inl (a,b,())))
  |false=>match(ile (A4 a) e)with
  |true=>some (.inr (.inl (a,b,())))
  |false=>some (.inl (a,c,d,(w64 (b+1)),()))
 |false=>some (.inr (.inr (.inl (a,()))))
def Ga[Lk]:Vh->Option (Um):=fun(a,b,_)=>
 match A9 DW many (b,a,(A4 a),0,())with|none=>none|some r=>match r with
 |.inl (c,d,_)=>some (c,d,())
 |.inr r=>match r with
 |.inl (e,_)=>some (e,(-1:Int),())
 |.inr _=>none
def IQ[Lk]:=lkk Ga
theorem Jn v:IQ v=Ga v:=A1 _
abbrev AWL:Loc×Con:=(.cell 1 2,.di)
abbrev AKI:A0:=[AO,(.cap 1 0,.box 1),AWK,(.cap 1 1,.box 3),AJ,AVp,AWL,(.tmp 1,.clo 119 [(0,0),(1,0)])]
abbrev AKH:A0:=[AB,AWK,(.obj 1,.box 3),AJ,AVp,AWL,AA]
abbrev AEb:A0:=[AB,AWK,(.obj 1,.box 3),AJ,AVp,AWL,(.tmp 1,.clo 119 [(0,0),(1,0)]),AR,(.tmp 7,.dat U6),AQ,Ac]
abbrev AEa:BI:=[(.exit 0,[AB,AWK,(.obj 1,.box 3),AJ,AVp,AWL,AR])]
def Lm[Lk]:(List Int×Int×Int×Int×Int×List Int×Int×Int×Unit)->Option ((List Int×Int×Int×Int×Int×List Int×Int×Int×Unit)⊕(List Int×Int×Int×Int×Int×Unit)⊕Unit):=fun(a,d,b,e,f,g,h,c,_)=>
 match(ilt c h)with
 |true=>match idx g c with|none=>none|some i=>match idx a b with|none=>none|some j=>match(ieq i j)with
  |true=>some (.inl (a,d,b,e,(w64 (f+1)),g,h,(w64 (c+1)),()))
  |false=>some (.inl (a,d,b,e,f,g,h,(w64 (c+1)),()))
 |false=>some (.inr (.inl (a,d,b,e,f,())))
def bn[Lk]:(List Int×List Int×Int×Int×Int×Unit)->Option ((List Int×Int×Int×Int×Int×Unit)):=fun(a,b,c,d,e,_)=>
 match A9 Lm many (b,c,d,e,0,a,(A4 a),0,())with|none=>none|some r=>match r with
 |.inl (f,g,h,i,j,_)=>some (f,g,h,i,j,())
 |.inr _=>none
def bo[Lk]:=lkk bn
theorem gT v:bo v=bn v:=A1 _
abbrev AKF:A0:=[AO,(.tmp 1,.clo 120 [])]
abbrev AEZ:A0:=[(.tmp 1,.clo 120 []),AR,(.tmp 7,.dat U6),AQ,Ac]
abbrev AEY:BI:=[(.exit 0,[AR])]
def Ll[Lk]:(Int×List Int×Int×Int×Unit)->Option ((Int×List Int×Int×Int×Unit)⊕Ub⊕Unit):=fun(b,c,d,a,_)=>
 match(ilt a d)with
 |true=>match idx c a with|none=>none|some e=>match(ieq a e)with
  |true=>some (.inl ((w64 (b+1)),c,d,(w64 (a+1)),()))
  |false=>some (.inl (b,c,d,(w64 (a+1)),()))
 |false=>some (.inr (.inl (b,())))
def bm[Lk]:Uh->Option (Ub):=fun(a,_)=>
 match A9 Ll many (0,a,(A4 a),0,())with|none=>none|some r=>match r with
 |.inl (b,_)=>some (b,())
 |.inr _=>none
def lQ[Lk]:=lkk bm
theorem gS v:lQ v=bm v:=A1 _
abbrev AWM:Loc×Con:=(.tmp 0,.dat (.slice (.int .u8)))
abbrev AAN:A0:=[AWM,AF]
def dx[Lk]:Um->Option ((Int×Bool×Unit)):=fun(b,a,_)=>
 match(ilt a 0)with
 |true=>some (0,false,())
 |false=>match(ilt (w64 ((A4 b)-2)) a)with
 |true=>some (0,false,())
 |false=>match idx b a with|none=>none|some c=>match shl? .i64 (w64 c) 8 with|none=>none|some d=>match idx b (w64 (a+1))with|none=>none|some e=>some ((w64 ((BitVec.ofInt (IntKind.bits .i64) d ||| BitVec.ofInt (IntKind.bits .i64) (w64 e)).toNat)),true,())
def xo[Lk]:=lkk dx
theorem sP v:xo v=dx v:=A1 _
def kX[Lk]:(U2×U2×Unit)->Option (Ub):=fun(a,b,_)=>
 match Bj ((a.1,(a.2.1,())),(b.1,(b.2.1,())),())with|none=>none|some (c,_)=>some (c,())
def C_[Lk]:=lkk kX
theorem qN v:C_ v=kX v:=A1 _
abbrev AWN:Loc×Con:=(.tmp 3,.clo 83 [])
abbrev VC:A0:=[AWI,AF,AG,AWN]
abbrev AWO:Loc×Con:=(.obj 0,.own 61 U1)
abbrev Jf:A0:=[AWO]
abbrev ANd:A0:=[AWO,Aj,AF,AG,AWN,AQ,Ac]
abbrev ANc:BI:=[(.exit 2,[AWO,Aj,AF,AG,AWN,AQ])]
abbrev ANe:A0:=[AWO,Aj,AF,AG,AWN,AQ]
abbrev kB:BI:=[(.exit 0,[AWO])]
def AQV[Lk]:=Qw ((0,(0,(0,(false,())))):U2) C_ tLt
def ARb[Lk]:=vu ((0,(0,(0,(false,())))):U2) C_ tLt
theorem ANf v:ARb v=AQV v:=A1 _
abbrev AWP:Loc×Con:=(.tmp 4,.clo 83 [])
abbrev KK:A0:=[AWI,AF,AG,AS,AWP]
abbrev AGU:A0:=[AWO,Aj,AG,AS,AWP,Aa]
abbrev AGT:BI:=[(.exit 0,[AWO]),(.ret,[AWO])]
def AMC[Lk]:=MJ ((0,(0,(0,(false,())))):U2) C_ tLt
def APG[Lk]:=WX ((0,(0,(0,(false,())))):U2) C_ tLt
theorem AGV v:APG v=AMC v:=A1 _
abbrev AI8:A0:=[AWO,Aj,AWN,AQ,Ac,AM]
abbrev AI6:BI:=[(.exit 2,[AWO])]
abbrev AI9:A0:=[AWO,Aj,AWN,AQ,Ac,Aa,AZ]
abbrev AI7:BI:=[(.exit 0,[AWO,Aj,AWN,AQ,Ac,Aa])]
def ANw[Lk]:=Mn ((0,(0,(0,(false,())))):U2) C_ tLt
def APQ[Lk]:=ar ((0,(0,(0,(false,())))):U2) C_ tLt
theorem AJA v:APQ v=ANw v:=A1 _
abbrev ACG:A0:=[AWI,AF,AG,Al,AJ,AWP]
abbrev ACF:A0:=[AWO,Am,AJ,AA,AF]
def ACH[Lk]:=HC ((0,(0,(0,(false,())))):U2) C_ tLt
def yk[Lk]:=Ig ((0,(0,(0,(false,())))):U2) C_ tLt
theorem vF v:yk v=ACH v:=A1 _
abbrev ACg:A0:=[AWI,AF,AG,AS,An,AJ,(.tmp 5,.clo 83 [])]
abbrev fS:A0:=[AWO,Am,AJ,AA]
def ACh[Lk]:=HF ((0,(0,(0,(false,())))):U2) C_ tLt
def yz[Lk]:=Ii ((0,(0,(0,(false,())))):U2) C_ tLt
theorem vV v:yz v=ACh v:=A1 _
abbrev ACs:A0:=[AWI,AF,Ao,AJ,AWN]
def ACt[Lk]:=HG ((0,(0,(0,(false,())))):U2) C_ tLt
def zD[Lk]:=Ij ((0,(0,(0,(false,())))):U2) C_ tLt
theorem va v:zD v=ACt v:=A1 _
abbrev AHX:A0:=[AWO,AA,AF]
def AHY[Lk]:=JV ((0,(0,(0,(false,())))):U2) C_ tLt
def AHa[Lk]:=Qa ((0,(0,(0,(false,())))):U2) C_ tLt
theorem ABi v:AHa v=AHY v:=A1 _
abbrev AMS:A0:=[AWO,Aj,AQ,Ac]
def APn[Lk]:=QW ((0,(0,(0,(false,())))):U2) C_ tLt
def ARL[Lk]:=tg ((0,(0,(0,(false,())))):U2) C_ tLt
theorem AMT v:ARL v=APn v:=A1 _
abbrev ub:A0:=[AWO,AE]
abbrev oc:A0:=[AWO,Aj,AF,AG,AWN,Ac,Aa,AM]
abbrev oX:BI:=[(.exit 6,[AWO,Aj,AF,AG,AWN,Ac,Aa])]
abbrev od:A0:=[AWO,Aj,AF,AG,AWN,Ac,Aa,AZ]
abbrev oY:BI:=[(.exit 4,[AWO,Aj,AF,AG,AWN,Ac,Aa])]
abbrev Wh:A0:=[AWO,Aj,AF,AG,AWN,Ac,Aa]
abbrev oZ:BI:=[(.exit 2,[AWO,Aj,AF,AG,AWN,Ac,Aa])]
abbrev oa:BI:=[(.ret,[AWO,Ap]),(.exit 0,[AWO])]
def uc[Lk]:=Fu ((0,(0,(0,(false,())))):U2) C_ tLt
def og[Lk]:=JY ((0,(0,(0,(false,())))):U2) C_ tLt
theorem oe v:og v=uc v:=A1 _
abbrev AB3:A0:=[AWO,AA]
abbrev Qd:A0:=[AWO,Aj,AF,AWP,AZ,AM]
abbrev uq:BI:=[(.exit 4,[AWO,Aj,AF,AWP,AZ,AM])]
abbrev ur:BI:=[(.exit 2,[AWO,Aj,AF,AWP,AZ,AM])]
abbrev uu:BI:=[(.exit 0,[AWO,AZ])]
def AB4[Lk]:=HA ((0,(0,(0,(false,())))):U2) C_ tLt
def yg[Lk]:=MQ ((0,(0,(0,(false,())))):U2) C_ tLt
theorem uv v:yg v=AB4 v:=A1 _
abbrev AM5:A0:=[AWO,AA,Aq]
abbrev Nw:A0:=[AWO,Aj,AF,AWP,AM,AN]
abbrev AHy:BI:=[(.exit 8,[AWO,Aj,AF,AWP,AM,AN])]
abbrev AHz:BI:=[(.exit 6,[AWO,Aj,AF,AWP,AM,AN])]
abbrev AH0:BI:=[(.exit 4,[AWO,Aj,AF,AN])]
abbrev AH1:BI:=[(.exit 2,[AWO,Aj,AF,AWP,AM,AN])]
abbrev AH2:BI:=[(.exit 0,[AWO,Aj,AF,AWP,AM,AN])]
def AM6[Lk]:=MP ((0,(0,(0,(false,())))):U2) C_ tLt
def APL[Lk]:=SH ((0,(0,(0,(false,())))):U2) C_ tLt
theorem AH3 v:APL v=AM6 v:=A1 _
def kT[Lk]:(Uc×Int×Unit)->Option (Ud):=fun(a,b,_)=>
 some ((ile (w64 ((A4 a.2.1)+b)) 400),())
def zP[Lk]:=lkk kT
theorem qJ v:zP v=kT v:=A1 _
abbrev lG:A0:=[Az,Am,Ay,AVG,(.tmp 0,.win' 0)]
abbrev dX:A0:=[Az,Am,Ay,AVG,Aj,Ax,AVU,AVe]
abbrev dW:BI:=[(.exit 0,[Az,Am,Ay,AVG,Aj,AVU])]
def Hj[Lk]:(List U4×List V7×Int×Int×Unit)->Option ((List U4×List V7×Int×Int×Unit)⊕(List U4×List V7×Int×Unit)⊕Unit):=fun(a,d,c,b,_)=>
 match(ilt b (A4 a))with
 |true=>match idx a b with|none=>none|some e=>match(!(ieq ((A7 d ((A_ a (A3 b) (0,(0,()))).1,((A_ a (A3 b) (0,(0,()))).2.1,()))).getD 0) 0))with
  |true=>match idx a c with|none=>none|some f=>some (.inl ((Be a (A3 c) ((A_ a (A3 b) (0,(0,()))).1,((A_ a (A3 b) (0,(0,()))).2.1,()))),d,(w64 (c+1)),(w64 (b+1)),()))
  |false=>some (.inl (a,d,c,(w64 (b+1)),()))
 |false=>some (.inr (.inl (a,d,c,())))
def Mx[Lk]:(List U4×List V7×Unit)->Option ((List U4×List V7×Int×Unit)):=fun(g,h,_)=>
 match Q3 (g,h,())with|none=>none|some (c,e,d,_)=>match(ieq d (-1:Int))with
 |true=>some (c,e,(A4 c),())
 |false=>match A9 Hj many (c,e,d,(w64 (d+1)),())with|none=>none|some r=>match r with
 |.inl (a,i,b,_)=>match Dd a b (A4 a)with|none=>none|some f=>match Dd (Ci (A3 b) (A3 (A4 f)) (0,(0,())) a) 0 b with|none=>none|some j=>some ((Ci (A3 b) (A3 (A4 f)) (0,(0,())) a),i,(((A3 (A4 j)):Nat):Int),())
 |.inr _=>none
def My[Lk]:=lkk Mx
theorem QA v:My v=Mx v:=A1 _
def Q5[Lk]:Ub->Option (Ud):=fun(a,_)=>
 match(ile 0 a)with
 |true=>some ((ile a 1099511627776),())
 |false=>some (false,())
def OI[Lk]:=lkk Q5
theorem Ww v:OI v=Q5 v:=A1 _
def APF[Lk]:Ub->Option (Ud):=fun(a,_)=>
 match(ile 1 a)with
 |true=>some ((ile a 3),())
 |false=>some (false,())
def wb1[Lk]:=lkk APF
theorem APf v:wb1 v=APF v:=A1 _
def eS{R:Type}(slot:Nat)(H:List Ob)(fz:List Bool)(k:AV->Eff->Option R)(v:AV)(e:Eff):Option R:=
 match e.heap with
 |none=>match v with
  |.win id 0 n=>match(DH e H)[id]? with
   |some (.arr T t xs)=>match BK (Fh e fz) id&&Bd (DH e H) (Fh e fz) (slot+3)&&(e.objs.any fun p=>Nat.beq p.1 id)with
    |true=>k (.own (slot+3)) { objs:=e.objs++[(id,.dead),(slot+3,.arr T t (DA n xs))],frz:=e.frz }
    |false=>none
   |_=>none
  |_=>none
 |some _=>none
def Hv(s:Spec):Spec:=fun R args H fz slot k=>s R args H fz slot (eS slot H fz k)
section
variable {P:Program} {g:FuncId}
theorem ADi{w:World}{F:Nat->Prop}{m:Mp}{H:List Ob}{fz:List Bool}(hi:HI w F m H fz){id n slot:Nat}{T:TypeId}{t:Ty}{xs:List t.den}(i:H[id]? = some (.arr T t xs))(A:BK fz id=true)
  (o:Bd H fz slot=true) {u:Value} (e:Rep w F m H (.win id 0 n) u) :
  ∃ f,BP w F m H fz w F f ((H.set id .dead).set slot (.arr T t (DA n xs))) fz/\Rep w F f ((H.set id .dead).set slot (.arr T t (DA n xs))) (.own slot) u:=by
 have c:=hi.obj id _ i;obtain⟨B,c⟩:=c;unfold Rep at e;rw[i]at e;obtain⟨q,e⟩:=e;rw[ATE]at q;have r:slot≠id:=kf o i;have d:=BP.kill hi (DP i A);have zero:∀ a,n=0->u = .slice a 0 0->∃ f,BP w F m H fz w F f ((H.set id .dead).set slot (.arr T t (DA n xs))) fz/\Rep w F f ((H.set id .dead).set slot (.arr T t (DA n xs))) (.own slot) u:=by intro a I J;subst I;subst J;obtain⟨f,s,j⟩:=Ez (w:=w) d.2 (Md o r) T B a;exact⟨f,d.trans s,j⟩
 cases v:m id with
  |none=>rw[v]at e c;obtain⟨a,C⟩:=e;simp_all
  |some p=>
   obtain⟨b,cap⟩:=p;rw[v]at e c;obtain⟨vs,y,C,O,K,L,M,Q⟩:=c;obtain⟨a,rfl,N⟩:=e;rcases ATU cap with D|D;simp_all;have:=N D;rw[AUA]at this;subst this;have E:=fun(x:t.den) cs (h:Dat w F t x cs)=>Dat.length t h;have k:(xs.take n).length=n:=by grind
   have l:=E_ E n M;have z:=By E l;rw[k]at z;have s:=BP.move (w':=w) hi (DP i A) v o (ob:=.arr T t (DA n xs)) trivial (b':=b) (c':=cap) (.inl rfl) rfl rfl rfl (ASG _) (fun _ _ _=>rfl) (fun _=>⟨B,vs,y.take (n*t.size),C,by
    show(xs.take n).length<=cap;omega,K,L,l,by
    grind⟩)
   refine⟨_,s,?_⟩;have G:=BS (B' o).1;unfold Rep;rw[Bk (by grind),BX];show Value.slice _ n (cap-0)=Value.slice _ (xs.take n).length cap;grind
theorem nK{s:Spec}(l:BT P g s):BT P g (Hv s):=by
 intro R args H fz slot k r o;obtain⟨v,e,a,p,q,x⟩:=l R args H fz slot _ r o;unfold eS at a;split at a;rename_i f;split at a;rename_i id n;split at a;rename_i T t xs i;split at a;rename_i d;refine⟨_,_,a,fun E G => ?_,q,fun w F m b hi y => ?_⟩;unfold Hv;rw[p];simp only[eS,f,i,d];refine(x w F m b hi y).mono ?_;rintro I w' ⟨u,rfl,z,J,j,c⟩;simp only[ASB]at d;obtain⟨A,h,B⟩:=ADi j.2 i d.1.1 d.1.2 c;have C:DH { objs:=e.objs++[(id,.dead),(slot+3,.arr T t (DA n xs))],frz:=e.frz } H=((DH e H).set id .dead).set (slot+3) (.arr T t (DA n xs)):=by rw[DQ rfl,DQ f,Wa];rfl
 have D:Fh { objs:=e.objs++[(id,.dead),(slot+3,.arr T t (DA n xs))],frz:=e.frz } fz=Fh e fz:=by rw[Dj rfl,Dj f]
 refine⟨u,rfl,z,A,?_,?_⟩;rw[C,D];exact j.trans h;grind;grind;grind;grind;grind
theorem KU{np b:Nat}{a outs:A0}{rs:List RS}{f:Bf (leaves a)->Option (Bf (leaves outs))}(d:∀ x,f x=none):BT P g (Bc np b a outs rs f):=by intro R args H fz slot k r c;unfold Bc at c;grind
end
section
variable {S:List Nat} {H H':List Ob}
theorem Ha.AAj{s:Spec}(h:Ha s):Iu s:=
 fun R args H H' fz fz' slot k S c _ b=>h R args H H' fz fz' slot k ⟨fun id a=>b.heap id (c id a),b.slotH,b.slotF,b.len,fun id a=>by cases a⟩
def Wq:A0->Bool
 |[]=>true
 |(.obj _,_)::_=>false
 |_::r=>Wq r
def APv(S:List Nat)(v:AV):Prop:=∀ id∈BQ v,id∈S
def cK(S:List Nat)(bs:List Bnd):Prop:=∀ b∈bs,∀ id,b.id? = some id->id∈S
theorem cK.get{bs:List Bnd}(h:cK S bs){j:Nat}{b:Bnd}{id:Nat}(a:bs[j]? = some b)(hi:b.id? = some id):id∈S:=h b (ASJ a) id hi
theorem cK.snoc{bs:List Bnd}(h:cK S bs){b:Bnd}(c:∀ id,b.id? = some id->id∈S):cK S (bs++[b]):=by intro x a id hi;rcases ASF.1 a with a|a;exact h x a id hi;grind
theorem zH{g:List AV}{bs:List Bnd}{l:Loc}(h:∀ id∈B4 g,id∈S)(m:YR S H)(n:∀ id∈S,H[id]? = H'[id]?)(p:cK S bs)(s:∀ j,l≠.obj j):
  look (lk g) H bs l=look (lk g) H' bs l/\∀ v,look (lk g) H bs l=some v->APv S v:=by
 cases l with
  |tmp t=>refine⟨rfl,fun v e id d=>h id ?_⟩;exact Dl (ASJ e) d
  |cell j c=>
   simp only[look];cases q:bs[j]? with
    |none=>simp
    |some b=>
     cases b with
      |none=>simp
      |cut id=>simp
      |whole id=>
       have d:=p.get q (id:=id) rfl;simp only;rw[n id d];refine⟨rfl,fun v e => ?_⟩;cases r:H'[id]? with
        |none=>grind
        |some o=>
         rw[r]at e;cases o<;>simp only at e<;>first|grind|skip
         rename_i cs;intro i hi;exact m id d cs (by grind) i (Dl (ASJ e) hi)
  |cap t i=>
   refine⟨rfl,fun v e => ?_⟩;simp only[look]at e;cases k:lk g t with
    |none=>grind
    |some a=>
     rw[k]at e;cases a<;>simp only at e<;>first|grind|skip
     rename_i f cs;intro id d;refine h id (Dl (ASJ (show g[t]? = _ from k)) ?_);simp only[BQ];exact Dl (ASJ e) d;rename_i f cs;intro id d;refine h id (Dl (ASJ (show g[t]? = _ from k)) ?_);simp only[BQ];exact Dl (ASJ e) d
  |obj j=>grind
theorem MK{f:List Nat}{fz fz':List Bool}(a:fz.length=fz'.length){id:Nat}(h:fz.getD id false=fz'.getD id false):(BJ f fz).getD id false=(BJ f fz').getD id false:=by rw[Bh,Bh,h,a]
theorem AJ9{w:List AV}(I:∀ id∈B4 w,id∈S)(J:YR S H)(B:∀ id∈S,H[id]? = H'[id]?):∀ (y:A0) (fz fz':List Bool) (bs:List Bnd),Wq y=true->cK S bs->fz.length=fz'.length->(∀ id∈S,fz.getD id false=fz'.getD id false) ->
  dec (lk w) H y fz bs=dec (lk w) H' y fz' bs:=by
 intro y;induction y with
  |nil=>intro fz fz' bs _ _ _ _;rfl
  |cons p r F=>
   intro fz fz' bs E i z G;obtain⟨l,c⟩:=p;have D:(∀ j,l≠.obj j)/\Wq r=true:=by
    cases l with
     |obj j=>cases E
     |tmp t=>exact⟨fun j h=>(by cases h),E⟩
     |cell a b=>exact⟨fun j h=>(by cases h),E⟩
     |cap a b=>exact⟨fun j h=>(by cases h),E⟩
   obtain⟨m,C⟩:=zH I J B i D.1;have g:=fun bs i=>F fz fz' bs D.2 i z G;have A:∀ id∈S,BK fz id=BK fz' id:=fun id d=>by unfold BK;grind
   cases c with
    |dat t=>
     simp only[dec,<- m];cases o:look (lk w) H bs l with
      |none=>rfl
      |some v=>
       simp only;rw[XH t v fun id d=>B id (C v o id d)];cases cQ H' t v with
        |none=>rfl
        |some q=>obtain⟨x,f⟩:=q;simp only;rw[F (BJ f fz) (BJ f fz') bs D.2 i (by rw[EI,EI,z]) (fun id d=>MK z (G id d))]
    |own T e=>
     simp only[dec,<- m];cases o:look (lk w) H bs l with
      |none=>rfl
      |some v=>
       cases v with
        |nils K=>simp only;rw[g _ (i.snoc fun id h=>by cases h)]
        |own id=>have d:id∈S:=C _ o id (by simp[BQ]);simp only;rw[<- B id d,A id d,g _ (i.snoc fun s h=>by simp only[Bnd.id?,ASA]at h;grind)]
        |win id off n=>
         have d:id∈S:=C _ o id (by simp[BQ]);cases off with
          |succ off=>rfl
          |zero=>simp only;rw[<- B id d,A id d,g _ (i.snoc fun s h=>by simp only[Bnd.id?,ASA]at h;grind)]
        |_=>rfl
    |box n=>
     simp only[dec,<- m];cases o:look (lk w) H bs l with
      |none=>rfl
      |some v=>
       cases v with
        |ptr id off=>
         have d:id∈S:=C _ o id (by simp[BQ]);cases off with
          |succ off=>rfl
          |zero=>simp only;rw[<- B id d,g _ (i.snoc fun s h=>by simp only[Bnd.id?,ASA]at h;grind)]
        |_=>rfl
    |map k v=>
     simp only[dec,<- m];cases o:look (lk w) H bs l with
      |none=>rfl
      |some u=>
       cases u with
        |mp id=>have d:id∈S:=C _ o id (by simp[BQ]);simp only;rw[<- B id d,g _ (i.snoc fun s h=>by simp only[Bnd.id?,ASA]at h;grind)]
        |_=>rfl
    |rows T e t=>
     simp only[dec,<- m];cases o:look (lk w) H bs l with
      |none=>rfl
      |some u=>
       cases u with
        |own id=>have d:id∈S:=C _ o id (by simp[BQ]);simp only;rw[<- B id d,A id d,g _ (i.snoc fun s h=>by simp only[Bnd.id?,ASA]at h;grind)]
        |_=>rfl
    |mrows j e t=>
     simp only[dec,<- m];cases o:look (lk w) H bs l with
      |none=>rfl
      |some u=>
       cases u with
        |mp id=>have d:id∈S:=C _ o id (by simp[BQ]);simp only;rw[<- B id d,A id d,g _ (i.snoc fun s h=>by simp only[Bnd.id?,ASA]at h;grind)]
        |_=>rfl
    |aptr T e n=>
     simp only[dec,<- m];cases o:look (lk w) H bs l with
      |none=>rfl
      |some u=>
       cases u with
        |aptr id L=>have d:id∈S:=C _ o id (by simp[BQ]);simp only;rw[<- B id d,A id d,g _ (i.snoc fun s h=>by simp only[Bnd.id?,ASA]at h;grind)]
        |_=>rfl
    |aptr' j n=>simp only[dec,<- m,g bs i]
    |bndp f j=>simp only[dec,<- m,g bs i]
    |nilp=>simp only[dec,<- m,g bs i]
    |own' j=>simp only[dec,<- m,g bs i]
    |ptr' j off=>simp only[dec,<- m,g bs i]
    |map' j=>simp only[dec,<- m,g bs i]
    |sub' j=>simp only[dec,<- m,g bs i]
    |win' j=>
     simp only[dec,<- m];rw[g bs i];cases o:look (lk w) H bs l with
      |none=>rfl
      |some v=>
       cases v with
        |own id=>have d:id∈S:=C _ o id (by simp[BQ]);grind
        |win id off n=>grind
        |_=>simp
    |clo f M=>simp only[dec,<- m,g bs i]
    |bnd f j=>simp only[dec,<- m,g bs i]
    |prs T j=>
     simp only[dec,<- m];cases o:look (lk w) H bs l with
      |none=>rfl
      |some v=>
       cases v with
        |nils K=>simp only;rw[g _ (i.snoc fun id h=>by cases h)]
        |own id=>have d:id∈S:=C _ o id (by simp[BQ]);simp only;rw[<- B id d,g _ (i.snoc fun s h=>by simp only[Bnd.id?,ASA]at h;grind)]
        |_=>rfl
    |nil e=>simp only[dec,<- m,g bs i]
theorem Sq{fz fz':List Bool}:∀ (n:Nat) (bs:List Bnd) (slot:Nat),(∀ s,slot<=s->s<slot+n->Bd H fz s=Bd H' fz' s)->Gb H fz (Dc n bs slot) bs=Gb H' fz' (Dc n bs slot) bs:=by
 intro n;induction n with
  |zero=>intro bs slot _;cases bs<;>rfl
  |succ n a=>
   intro bs slot h;cases bs with
    |nil=>simp only[Dc,Gb,List.tail_nil];grind
    |cons b bs=>
     cases b with
      |whole id=>simp only[Dc,Gb,AT7];grind
      |none=>simp only[Dc,Gb,AT7];grind
      |cut id=>simp only[Dc,Gb,AT7];grind
theorem Ct{np i:Nat}{a outs:A0}{rs:List RS}{f:Bf (leaves a)->Option (Bf (leaves outs))}(d:Wq a=true)(j:Nat.ble (Dz outs) 4=true):Iu (Bc np i a outs rs f):=by intro R args H H' fz fz' slot k S l m c;have n:=AS9 j;have hd:dec (lk args) H a fz []=dec (lk args) H' a fz' []:=AJ9 l m c.heap a fz fz' [] d (fun b o=>by cases o) c.len c.wrF;unfold Bc;rw[hd];split;rfl;rename_i x bs e _;split;rfl;split;rfl;have h:∀ (g:List Nat) s,slot<=s->s<slot+Dz outs->Bd H (BJ g fz) s=Bd H' (BJ g fz') s:=fun g s p q=>FI c p (by omega) g;unfold J5;rw[Sq (fz:=fz) (fz':=fz') (Dz outs) (bs.take np) slot (h []),Sq (fz:=BJ e fz) (fz':=BJ e fz') (Dz outs) (bs.take np) slot (h e)]
theorem ADT:∀ (n:Nat) (bs:List Bnd) (slot i:Nat),i∈Dc n bs slot->(∃ b∈bs,b.id? = some i)\/(slot<=i/\i<slot+n):=by
 intro n;induction n with
  |zero=>intro bs slot i h;cases bs<;>cases h
  |succ n d=>
   intro bs slot i h;have next:∀ a,i∈slot::Dc n a (slot+1)->(∃ b∈a,b.id? = some i)\/(slot<=i/\i<slot+(n+1)):=by grind
   cases bs with
    |nil=>exact next [] h
    |cons b bs=>
     cases b with
      |whole id=>simp only[Dc]at h;rcases ASW.1 h with rfl|h;exact .inl ⟨.whole i,by simp,rfl⟩;grind
      |none=>rcases next bs h with⟨b,c,e⟩|h;all_goals grind
      |cut id=>rcases next bs h with⟨b,c,e⟩|h;all_goals grind
theorem AEQ{u:List AV}(B:∀ id∈B4 u,id∈S)(C:YR S H):∀ (o:A0) (fz:List Bool) (bs:List Bnd) (x:Bf (leaves o)) (q:List Bnd) (y:List Nat),Wq o=true->cK S bs ->
  dec (lk u) H o fz bs=some (x,q,y)->cK S q:=by
 intro o;induction o with
  |nil=>intro fz bs x q y _ m h;simp only[dec,ASA]at h;grind
  |cons p r g=>
   intro fz bs x q y w m h;obtain⟨l,c⟩:=p;have d:(∀ j,l≠.obj j)/\Wq r=true:=by
    cases l with
     |obj j=>cases w
     |tmp t=>exact⟨fun j h=>(by cases h),w⟩
     |cell a b=>exact⟨fun j h=>(by cases h),w⟩
     |cap a b=>exact⟨fun j h=>(by cases h),w⟩
   have s:=(zH (H':=H) B C (fun _ _=>rfl) m d.1 (l:=l)).2;have one:∀ {id:Nat} {b:Bnd},id∈S->b.id? = some id->cK S (bs++[b]):=fun D A=>m.snoc fun E F=>by grind
   cases c<;>simp only[dec]at h
   case dat t=>
    grind
   case own T e=>
    split at h
    ·split at h
     ·split at h
      ·rename_i hd;cases h;exact g _ _ _ _ _ d.2 (m.snoc fun id h=>by cases h) hd
      grind
     grind
    ·rename_i id i
     split at h
     ·split at h
      ·split at h
       ·rename_i hd;cases h;exact g _ _ _ _ _ d.2 (one (s _ i id (by simp[BQ])) rfl) hd
       grind
      grind
     grind
    ·rename_i id n i
     split at h
     ·split at h
      ·split at h
       ·rename_i hd;cases h;exact g _ _ _ _ _ d.2 (one (s _ i id (by simp[BQ])) rfl) hd
       grind
      grind
     grind
    grind
   case prs T j=>
    split at h
    ·split at h
     ·rename_i hd;cases h;exact g _ _ _ _ _ d.2 (m.snoc fun id h=>by cases h) hd
     grind
    ·rename_i id i
     split at h
     ·split at h
      ·split at h
       ·rename_i hd;cases h;exact g _ _ _ _ _ d.2 (one (s _ i id (by simp[BQ])) rfl) hd
       grind
      grind
     grind
    grind
   case box n=>
    split at h
    ·rename_i id i
     split at h
     ·split at h
      ·exact g _ _ _ _ _ d.2 (one (s _ i id (by simp[BQ])) rfl) h
      grind
     grind
    grind
   case map k v=>
    split at h
    ·rename_i id i
     split at h
     ·split at h
      ·split at h
       ·rename_i hd;cases h;exact g _ _ _ _ _ d.2 (one (s _ i id (by simp[BQ])) rfl) hd
       grind
      grind
     grind
    grind
   case rows T e t=>
    split at h
    ·rename_i id i
     split at h
     ·split at h
      ·split at h
       ·rename_i hd;cases h;exact g _ _ _ _ _ d.2 (one (s _ i id (by simp[BQ])) rfl) hd
       grind
      grind
     grind
    grind
   case mrows j e t=>
    split at h
    ·rename_i id i
     split at h
     ·split at h
      ·split at h
       ·rename_i hd;cases h;exact g _ _ _ _ _ d.2 (one (s _ i id (by simp[BQ])) rfl) hd
       grind
      grind
     grind
    grind
   case aptr T e n=>
    split at h
    ·rename_i id G i
     split at h
     ·split at h
      ·split at h
       ·rename_i hd;cases h;exact g _ _ _ _ _ d.2 (one (s _ i id (by simp[BQ])) rfl) hd
       grind
      grind
     grind
    grind
   case bndp f j=>
    split at h
    ·split at h
     ·exact g _ _ _ _ _ d.2 m h
     grind
    grind
   case nilp=>
    cases z:look (lk u) H bs l with
    |none=>grind
    |some v=>
     rw[z]at h
     cases v<;>simp only at h<;>first|exact g _ _ _ _ _ d.2 m h|cases h
   case aptr' j n=>
    split at h
    ·split at h
     ·exact g _ _ _ _ _ d.2 m h
     grind
    grind
   case own' j=>
    split at h
    ·split at h
     ·exact g _ _ _ _ _ d.2 m h
     grind
    grind
   case ptr' j off=>
    split at h
    ·split at h
     ·exact g _ _ _ _ _ d.2 m h
     grind
    grind
   case map' j=>
    split at h
    ·split at h
     ·exact g _ _ _ _ _ d.2 m h
     grind
    grind
   case win' j=>
    grind
   case sub' j=>
    grind
   case clo f ps=>
    split at h
    ·split at h
     ·exact g _ _ _ _ _ d.2 m h
     grind
    grind
   case bnd f j=>
    split at h
    ·split at h
     ·exact g _ _ _ _ _ d.2 m h
     grind
    grind
   case nil e=>
    cases z:look (lk u) H bs l with
    |none=>grind
    |some v=>
     rw[z]at h
     cases v<;>simp only at h<;>first|exact g _ _ _ _ _ d.2 m h|cases h
theorem ALv{np K:Nat}{a outs:A0}{rs:List RS}{f:Bf (leaves a)->Option (Bf (leaves outs))}(w:Wq a=true)(L:Nat.ble (Dz outs) 4=true):Iu (Hv (Bc np K a outs rs f)):=by
 intro R args H H' fz fz' slot k D G I c;have M:=AS9 L;have hd:dec (lk args) H a fz []=dec (lk args) H' a fz' []:=AJ9 G I c.heap a fz fz' [] w (fun b u=>by cases u) c.len c.wrF;have z:∀ x bs l,dec (lk args) H a fz []=some (x,bs,l)->cK D bs:=fun x bs l h=>AEQ G I a fz [] x bs l w (fun b u=>by cases u) h;unfold Hv Bc;rw[hd]at z |-;split;rfl
 ·rename_i x bs l A;have u:=z x bs l A;split;rfl
  ·split;rfl
   ·rename_i y _;have J:∀ (g:List Nat) s,slot<=s->s<slot+Dz outs->Bd H (BJ g fz) s=Bd H' (BJ g fz') s:=fun g s m B=>FI c m (by omega) g;have N:∀ (e:Eff) (v:AV),e.heap=none->(∀ p∈e.objs,p.1∈given (bs.drop np)\/p.1∈Dc (Dz outs) (bs.take np) slot)->eS slot H fz k v e=eS slot H' fz' k v e:=by
     intro e v d O;unfold eS;rw[d];simp only;have E:Bd (DH e H) (Fh e fz) (slot+3)=Bd (DH e H') (Fh e fz') (slot+3):=by rw[DQ d,DQ d,Dj d,Dj d];unfold Bd;rw[Hd e.objs H H' (c.slotH (slot+3) (by omega) (by omega)),MK c.len (c.slotF (slot+3) (by omega) (by omega))]
     cases v with
      |win id off n=>
       cases off with
        |succ off=>rfl
        |zero=>
         simp only;cases o:(e.objs.any fun p=>Nat.beq p.1 id)with
          |false=>grind
          |true=>
           rw[ATZ]at o;obtain⟨p,F,q⟩:=o;have q:=ASx q;subst q;have C:(∃ b∈bs,b.id? = some p.1)\/(slot<=p.1/\p.1<slot+Dz outs):=by rcases O p F with h|h;obtain⟨j,P⟩:=VP.1 h;exact .inl ⟨_,AUB (ASJ P),rfl⟩;·rcases ADT _ _ _ _ h with⟨b,m,B⟩|h;all_goals grind
           have m:H[p.1]? = H'[p.1]? := by
            rcases C with⟨b,r,t⟩|⟨m,B⟩
            exact c.heap _ (u b r _ t);exact c.slotH _ m (by omega)
           have B:fz.getD p.1 false=fz'.getD p.1 false:=by
            rcases C with⟨b,r,t⟩|⟨m,B⟩
            exact c.wrF _ (u b r _ t);exact c.slotF _ m (by omega)
           have Q:(DH e H)[p.1]? = (DH e H')[p.1]? := by rw[DQ d,DQ d];exact Hd e.objs H H' m
           have T:BK (Fh e fz) p.1=BK (Fh e fz') p.1:=by rw[Dj d,Dj d];unfold BK;rw[MK c.len B]
           grind
      |_=>rfl
    have mem:∀ p∈(given (bs.drop np)).map (fun i=>(i,Ob.dead))++(Dc (Dz outs) (bs.take np) slot).zip ((encode (cellsOf rs) outs y).heap.map (El (Dc (Dz outs) (bs.take np) slot))),p.1∈given (bs.drop np)\/p.1∈Dc (Dz outs) (bs.take np) slot:=by intro p F;rcases ASF.1 F with h|h;grind;exact .inr (List.of_mem_zip h).1
    unfold J5;rw[Sq (fz:=fz) (fz':=fz') (Dz outs) (bs.take np) slot (J []),Sq (fz:=BJ l fz) (fz':=BJ l fz') (Dz outs) (bs.take np) slot (J l)];split;·split;all_goals grind
    ·split;all_goals grind
end
def APV(i:Nat)(args:List AV):Option FuncId:=
 match args[i]? with
 |some (.clo f _)=>some f
 |some (.bnd f _)=>some f
 |_=>none
def Env.Xa(E:Env)(g:FuncId)(i:Nat)(c:FuncId)(s:Spec):Env where
 spec x:=match Nat.beq x g with
  |true=>fun R args H fz slot k=>match APV i args with
   |some c'=>match Nat.beq c' c with
    |true=>s R args H fz slot k
    |false=>E.spec x R args H fz slot k
   |.none=>Option.none
  |false=>E.spec x
 loc x:=match Nat.beq x g with
  |true=>false
  |false=>E.loc x
 HJ x:=match Nat.beq x g with
  |true=>E.HJ g
  |false=>E.HJ x
 pan x:=match Nat.beq x g with
  |true=>.none
  |false=>E.pan x
theorem Env.S0{P:Program}{E:Env}{g:FuncId}{i:Nat}{c:FuncId}{s:Spec}(h:Bp P E)(o:BT P g s)(f:Iu s):Bp P (E.Xa g i c s):=by
 refine⟨?_,⟨?_,?_⟩,fun x p a => ?_⟩;intro x;simp only[Env.Xa];cases a:Nat.beq x g with
  |false=>exact h.1 x
  |true=>have:=ASx a;subst this;intro R args H fz slot k r d;simp only at d;split at d;rename_i c' q;split at d;rename_i b;obtain⟨v,e,t,j,u,w⟩:=o R args H fz slot k r d;grind;rename_i b;obtain⟨v,e,t,j,u,w⟩:=h.1 x R args H fz slot k r d;grind;grind
 intro x a;simp only[Env.Xa]at a |-;cases b:Nat.beq x g with
  |true=>grind
  |false=>rw[b]at a;exact h.2.1.1 x a
 intro x a;simp only[Env.Xa]at a |-;cases b:Nat.beq x g with
  |true=>rw[b]at a;have:=ASx b;subst this;have j:=h.2.1.2 x a;intro R args H H' fz fz' slot k S l m n;simp only;split;split;exact f R args H H' fz fz' slot k S l m n;exact j R args H H' fz fz' slot k S l m n;rfl
  |false=>rw[b]at a;exact h.2.1.2 x a
 simp only[Env.Xa]at a |-;cases b:Nat.beq x g with
  |true=>grind
  |false=>rw[b]at a;exact h.2.2 x p a
def qA:List Value->Option (List (IntKind×Int))
 |[]=>some []
 |.int k n::r=>(qA r).map ((k,n) :: ·)
 |_::_=>none
def ALf:Exit->Option PV
 |.panic [⟨.iface T (.agg a),false,false⟩]=>(qA a.toList).map fun l=>(T,l)
 |_=>none
def oE(T:TypeId)(a:List IntKind)(e:Exit):Option (List Int):=
 match ALf e with
 |some (T',l)=>match decide (T'=T)&&decide (l.map (·.1)=a)with
  |true=>some (l.map (·.2))
  |false=>none
 |none=>none
def ALZ:List IntKind->List Int->List (IntKind×Int)
 |[],_=>[]
 |k::ks,ns=>(k,ns.headD 0)::ALZ ks ns.tail
def ABX(T:TypeId)(a:List IntKind)(b:List Int):PV:=(T,ALZ a b)
theorem AIx:∀ {vs:List Value} {l:List (IntKind×Int)},qA vs=some l->vs=l.map fun p=>Value.int p.1 p.2:=by
 intro vs;induction vs with
  |nil=>intro l h;simp only[qA,ASA]at h;grind
  |cons v vs b=>intro l h;unfold qA at h;split at h;grind;rename_i k n r a;cases a;simp only[ASO]at h;grind;grind
theorem xt{e:Exit}{p:PV}(h:ALf e=some p):e = .panic [C' p]:=by unfold ALf at h;split at h;rename_i T a;simp only[ASO]at h;obtain⟨l,b,rfl⟩:=h;have:=AIx b;simp only[C',Ku];rw[<- this];grind
theorem oD{T:TypeId}{a:List IntKind}{e:Exit}{b:List Int}(h:oE T a e=some b):e = .panic [C' (ABX T a b)]:=by
 unfold oE at h;split at h;rename_i g l d;split at h;rename_i c;simp only[ASB,ASC]at c;obtain⟨rfl,rfl⟩:=c;simp only[ASA]at h;subst h;rw[xt d];unfold ABX;have:∀ l:List (IntKind×Int),ALZ (l.map (·.1)) (l.map (·.2))=l:=by
  intro l;induction l with
   |nil=>rfl
   |cons p l f=>simp only[ASQ,ALZ,AUv,AT7,f]
 rw[this];grind;grind
noncomputable section
abbrev ALT(os:BI)(pits:A0):Type:=cb os⊕(List Int×Bf (leaves pits))
def UB(np f:Nat)(b:A0)(g:BI)(T:TypeId)(h:List IntKind)(a:A0)(e:Exit)(st:St):Option (Bf (leaves b)⊕ALT g a):=
 match e with
 |.normal=>match decode np f st b with
  |some d=>some (.inl d)
  |none=>none
 |.panic c=>match oE T h (.panic c)with
  |some i=>match decode np f st a with
   |some d=>some (.inr (.inr (i,d)))
   |none=>none
  |none=>none
 |e=>match Wo np f e st g with
  |some x=>some (.inr (.inl x))
  |none=>none
def v9(b:Nat){R:Type}(T:TypeId)(d:List IntKind)(a:A0)(k:Exit->St->Option R)(c:BI):ALT c a->Option R
 |.inl r=>ay b k c r
 |.inr q=>k (.panic [C' (ABX T d q.1)]) (encode b a q.2)
def MX[Lk](np c:Nat)(b:A0)(d:BI)(T:TypeId)(e:List IntKind)(a:A0)(step:Bf (leaves b)->Option (Bf (leaves b)⊕ALT d a)):cd:=fun R st k=>
 match decode np c st b with
 |none=>none
 |some v=>match A9 step many v with
  |none=>none
  |some r=>v9 c T e a k d r
def JT[Lk](P:Program)(E:Env)(h:Hints)(n np d:Nat)(c:Code)(a:A0)(e:BI)(T:TypeId)(f:List IntKind)(b:A0)(v:Bf (leaves a)):Option (Bf (leaves a)⊕ALT e b):=
 Bb P E h _ c n (encode d a v) (UB np d a e T f b)
def DU[Lk](np:Nat)(P:Program)(E:Env)(h:Hints)(fn:Func)(b outs:A0)(rs:List RS)(T:TypeId)(d:List IntKind)(a:A0)(x:Bf (leaves b)):Option (Bf (leaves outs)⊕(List Int×Bf (leaves a))):=
 match fn.body with
 |none=>none
 |some c=>Bb P E h _ c 0 (encode fn.ntmps b x) fun e st=>
  match e with
  |.normal=>match finish np P fn outs rs st with
   |some y=>some (.inl y)
   |none=>none
  |.ret=>match finish np P fn outs rs st with
   |some y=>some (.inl y)
   |none=>none
  |.panic c=>match oE T d (.panic c)with
   |some f=>match dec (lk []) st.heap a st.frz []with
    |some (z,bs,_)=>match pins np 0 bs&&(st.heap.take np).all CF with
     |true=>some (.inr (f,z))
     |false=>none
    |none=>none
   |none=>none
  |_=>none
def IW(np c:Nat)(b outs:A0)(rs:List RS)(T:TypeId)(d:List IntKind)(a:A0)(f:Bf (leaves b)->Option (Bf (leaves outs)⊕(List Int×Bf (leaves a)))):Lv:=fun R args H fz slot k kp=>
 match dec (lk args) H b fz []with
 |none=>none
 |some (x,bs,fr)=>match bs.all Bnd.xr&&decide (bs.length=Dz b)&&decide (args.length=c)&&(HD b&&HD outs&&HD a)with
  |false=>none
  |true=>match f x with
   |none=>none
   |some (.inl y)=>J5 R (given (bs.drop np)) (bs.take np) fr rs (encode (cellsOf rs) outs y) (Dc (Dz outs) (bs.take np) slot) H fz k
   |some (.inr q)=>J5 R (given (bs.drop np)) (bs.take np) fr [] (encode 0 a q.2) (Dc (Dz a) (bs.take np) slot) H fz fun _ e=>kp (ABX T d q.1) e
def Df{α β:Type}:Option (α⊕β)->Option α
 |some (.inl y)=>some y
 |_=>none
end
section
variable {P:Program} {E:Env}
theorem aJ[DfI]{U:Hints}(hE:∀ g,BT P g (E.spec g))(hL:E8 E)(hP:Gv P E){np p n:Nat}{b:Code}{o:A0}{t:BI}{T:TypeId}{H:List IntKind}{f:A0}{stp:Bf (leaves o)->Option (Bf (leaves o)⊕ALT t f)}
  (B:∀ v,stp v=JT P E U n np p b o t T H f v) (hl:Bu P np U b n):J_ P np (.loop b) (MX np p o t T H f stp):=by
 intro R st k r C;unfold MX at C;split at C;cases C;rename_i v hv;split at C;cases C;rename_i x hx;have I:∃ e st',k e st'=some r/\∀ (J:Type) (D:Exit->St->Option J),v9 p T H f D t x=D e st':=by
  cases x with
   |inl x=>exact fq t x C
   |inr q=>exact⟨_,_,C,fun _ _=>rfl⟩
 obtain⟨e,st',h1,h2⟩:=I;refine⟨e,st',h1,fun J D=>by simp only[MX,hv,hx];grind,?_⟩
 have V:∀ (i:Nat) (v:Bf (leaves o)),BD stp i v=some x->∀ (w:World) (F:Nat->Prop) (m:Mp) (a:Act) (Q:Exit->Act->World->Prop),SI w F m (encode p o v) a ->
   (∀ u w' W X,SI w' W X st' u->IU np w F m (encode p o v).heap (encode p o v).frz w' W X st'.heap st'.frz->Q e u w')->Code.rounds P b Q i a w:=by
  intro i
  induction i with
  |zero=>intro v h;simp[BD]at h
  |succ i ih=>
   intro v h w F m a Q Y S
   simp only[BD]at h
   rw[B v]at h
   cases Z:JT P E U n np p b o t T H f v with
   |none=>grind
   |some y=>
    rw[Z]at h
    unfold JT at Z
    obtain⟨A,K,s,_,g3⟩:=DV hE hL hP b n hl _ _ _ _ Z
    show b.wp P (Exit.then (Code.rounds P b Q i) Q) a w
    refine g3 w F m a _ Y fun u w' W X s1 x1 => ?_
    have fin:∀ (j:A0) (d:Bf (leaves j)),decode np p K j=some d->(∀ (J:Type) (D:Exit->St->Option J),v9 p T H f D t x=D A (encode p j d))->Q A u w':=by
     intro j d o1 o2
     obtain⟨L,M,N,O⟩:=HR s1 o1
     have e3:=(h2 (Exit×St) fun e st=>some (e,st)).symm.trans (o2 (Exit×St) fun e st=>some (e,st))
     simp only[ASA,AST]at e3
     obtain⟨rfl,rfl⟩:=e3
     exact S u w' L M N (x1.trans O)
    have other:A≠.normal->(∀ c,A≠.panic c)->Q A u w':=by
     intro hn hp
     have G:(match Wo np p A K t with
      |some x=>some (Sum.inr (Sum.inl x))
      |none=>none)=some y:=by
      cases A<;>first|grind|exact absurd rfl (hp _)|exact s
     split at G
     ·rename_i z hz
      simp only[ASA]at G;subst G
      simp only[ASA]at h;subst h
      obtain⟨j,d,o1,o2⟩:=pV t _ hz
      exact fin j d o1 o2
     grind
    cases A with
    |normal=>
     simp only[UB]at s
     split at s
     ·rename_i d hd
      simp only[ASA]at s;subst s
      obtain⟨L,M,N,O⟩:=HR s1 hd
      show Code.rounds P b Q i u w'
      exact ih d h w' L M u Q N fun a3 w3 F3 m3 s3 x3=>S a3 w3 F3 m3 s3 (x1.trans (O.trans x3))
     grind
    |panic c=>
     simp only[UB]at s
     split at s
     ·rename_i ns hns
      split at s
      ·rename_i d hd
       simp only[ASA]at s;subst s
       simp only[ASA]at h;subst h
       exact fin f d hd fun J D=>by rw[oD hns];rfl
      grind
     grind
    |exit id=>exact other (by simp) (by simp)
    |goto l=>exact other (by simp) (by simp)
    |ret=>exact other (by simp) (by simp)
    |outgrown=>exact other (by simp) (by simp)
 intro w F m a Q Y S;obtain⟨L,M,N,O⟩:=HR Y hv;exact wp_loop_rounds many (V many v (by rw[<- BR];exact hx) w L M a Q N fun a3 w3 F3 m3 s3 x3=>S a3 w3 F3 m3 s3 (O.trans x3))
variable {h:Hints} {g:FuncId} {fn:Func} {c:Code}
theorem oO(e:∀ g,BT P g (E.spec g))(f:E8 E)(i:Gv P E)(j:fn.body=some c){np:Nat}{a outs:A0}{rs:List RS}{T:TypeId}{k:List IntKind}{b:A0}(l:Bu P np h c 0)(x:Bf (leaves a)){y:Bf (leaves outs)}
  (d:DU np P E h fn a outs rs T k b x=some (.inl y)):EJ np P E h fn a outs rs x=some y:=by unfold DU at d;unfold EJ;rw[j]at d |-;simp only at d |-;obtain⟨m,st',n,o,_⟩:=DV e f i c 0 l _ _ _ _ d;grind
theorem ANa(f:∀ g,BT P g (E.spec g))(i:E8 E)(j:Gv P E)(k:fn.body=some c){np:Nat}{a outs:A0}{rs:List RS}{T:TypeId}{m:List IntKind}{d:A0}(l:Bu P np h c 0)(x:Bf (leaves a)):
  Df (DU np P E h fn a outs rs T m d x)=EJ np P E h fn a outs rs x:=by
 cases e:DU np P E h fn a outs rs T m d x with
  |some y=>
   cases y with
    |inl y=>exact(oO f i j k l x e).symm
    |inr q=>
     cases b:EJ np P E h fn a outs rs x with
      |none=>rfl
      |some y=>exfalso;unfold EJ at b;unfold DU at e;rw[k]at e b;simp only at e b;obtain⟨n,st',o,p,_⟩:=DV f i j c 0 l _ _ _ _ b;grind
  |none=>
   cases b:EJ np P E h fn a outs rs x with
    |none=>rfl
    |some y=>exfalso;unfold EJ at b;unfold DU at e;rw[k]at e b;simp only at e b;obtain⟨n,st',o,p,_⟩:=DV f i j c 0 l _ _ _ _ b;grind
theorem LO(hE:∀ g,BT P g (E.spec g))(hL:E8 E)(hP:Gv P E)(hf:P.funcs[g]? = some fn)(Z:fn.body=some c)(hc:IL P g)
  {np J:Nat} (K:J<=fn.ntmps) {l outs:A0} {rs:List RS} {T:TypeId} {L:List IntKind} {b:A0} {f:Bf (leaves l)->Option (Bf (leaves outs)⊕(List Int×Bf (leaves b)))} (C:∀ x,f x=DU np P E h fn l outs rs T L b x) (hl:Bu P np h c 0) :
  Hn P g (Bc np J l outs rs fun x=>Df (f x)) (IW np J l outs rs T L b f):=by
 intro R args H fz slot k kp r j;simp only[IW]at j;split at j;cases j;rename_i x bs fr d;split at j;cases j;rename_i t;simp only[ASB,ASC]at t;obtain⟨⟨⟨a,u⟩,n⟩,⟨o,v⟩,A⟩:=t;split at j;cases j;rename_i y p;left;obtain⟨e,M,_,_,h5,_⟩:=TT j;refine⟨_,e,M,fun R' k' N => ?_,fun R' k' => ?_⟩;simp only[IW,d,a,u,n,o,v,A,p,ASU,ATl];grind;simp only[Bc,d,a,u,n,o,v,p,Df,ASU,ATl];grind;rename_i q p;right;obtain⟨ns,z⟩:=q;simp only at j;obtain⟨e,M,O,Q,h5,S,U,V⟩:=TT j;refine⟨_,e,M,fun R' k' N => ?_,hc,fun w F m vals hi hr => ?_⟩;simp only[IW,d,a,u,n,o,v,A,p,ASU,ATl];grind;rw[C x]at p;unfold DU at p;rw[Z]at p;simp only at p;obtain⟨ex,st',B,_,g3⟩:=DV hE hL hP c 0 hl _ _ _ _ p;have D:∃ i s,ex = .panic [C' (ABX T L ns)]/\dec (lk []) st'.heap b st'.frz []=some (z,i,s)/\pins np 0 i=true:=by
  cases ex with
   |normal=>grind
   |ret=>grind
   |panic ch=>simp only at B;split at B;rename_i ns' W;split at B;rename_i z' i s hd;split at B;rename_i I;simp only[ASA,Sum.inr.injEq,AST]at B;obtain⟨rfl,rfl⟩:=B;rw[ASB]at I;exact⟨i,s,oD W,hd,I.1⟩;grind;grind;grind
   |_=>grind
 obtain⟨i,s,rfl,X,I⟩:=D;refine calls_of_wp hf Z ?_;obtain⟨F2,m2,gA,G,Y⟩:=RP hi hr n K d;refine g3 w F2 m2 _ _ Y fun a' w' F' m' s1 x1 => ?_;obtain⟨F3,m3,hg,_⟩:=cG (rs:=[]) hi gA G a o A rfl rfl O Q S U V s1.heap x1 (vs:=[]) (us:=[]) Lu rfl X I;exact⟨s1.defers,rfl,F3,m3,hg⟩
theorem LM (hE : Bp P E) (hf : P.funcs[g]? = some fn) (hb : fn.body.isSome = true) (hn : (fn.name == "runtime.NumGoroutine") = false) {np na : Nat} (hna : Nat.ble na fn.ntmps = true) {its outs : A0} {rs : List RS} {T : TypeId} {ks : List IntKind} {pits : A0}
  {f:Bf (leaves its)->Option (Bf (leaves outs)⊕(List Int×Bf (leaves pits)))} (hfun:∀ x,f x=DU np P E h fn its outs rs T ks pits x) (hl:Bu P np h (CN fn) 0):BT P g (Bc np na its outs rs fun x=>Df (f x)):=
 I_ hE hf hb hn hna (fun x=>by rw[hfun];exact ANa hE.1 hE.2.1 hE.2.2 (Gq hb) hl x) hl
def Env.kz(E:Env)(g:FuncId)(HJ:Bool)(a:Spec)(s:Lv):Env where
 spec x:=match Nat.beq x g with
  |true=>a
  |false=>E.spec x
 loc x:=match Nat.beq x g with
  |true=>false
  |false=>E.loc x
 HJ x:=match Nat.beq x g with
  |true=>HJ
  |false=>E.HJ x
 pan x:=match Nat.beq x g with
  |true=>some s
  |false=>E.pan x
theorem Env.YE{HJ:Bool}{d:Spec}{s:Lv}(h:Bp P E)(i:BT P g d)(j:Hn P g d s)(e:HJ=true->Iu d):Bp P (E.kz g HJ d s):=by
 refine⟨?_,⟨?_,?_⟩,fun x f a => ?_⟩;intro x;simp only[Env.kz];cases a:Nat.beq x g with
  |true=>simp_all
  |false=>exact h.1 x
 intro x a;simp only[Env.kz]at a |-;cases b:Nat.beq x g with
  |true=>grind
  |false=>rw[b]at a;exact h.2.1.1 x a
 intro x a;simp only[Env.kz]at a |-;cases b:Nat.beq x g with
  |true=>grind
  |false=>rw[b]at a;exact h.2.1.2 x a
 simp only[Env.kz]at a |-;cases b:Nat.beq x g with
  |true=>simp_all
  |false=>rw[b]at a;exact h.2.2 x f a
def AEl(i:Nat)(c:FuncId)(s:Lv)(a:Option Lv):Lv:=fun R args H fz slot k kp=>
 match APV i args with
 |some c'=>match Nat.beq c' c with
  |true=>s R args H fz slot k kp
  |false=>match a with
   |some a=>a R args H fz slot k kp
   |none=>none
 |none=>none
def Env.W2(E:Env)(g:FuncId)(i:Nat)(c:FuncId)(a:Spec)(s:Lv):Env:=
 { E.Xa g i c a with pan:=fun x=>match Nat.beq x g with
  |true=>some (AEl i c s (E.pan g))
  |false=>E.pan x }
theorem Env.qW{i:Nat}{c:FuncId}{j:Spec}{s:Lv}(h:Bp P E)(C:BT P g j)(D:Hn P g j s)(y:Iu j):Bp P (E.W2 g i c j s):=by
 have B:=Env.S0 (i:=i) (c:=c) h C y;refine⟨B.1,B.2.1,fun x z q => ?_⟩;simp only[Env.W2]at q;cases w:Nat.beq x g with
  |false=>
   rw[w]at q;have e:(E.W2 g i c j s).spec x=E.spec x:=by simp only[Env.W2,Env.Xa,w]
   rw[e];exact h.2.2 x z q
  |true=>
   rw[w]at q;have:=ASx w;subst this;simp only[ASA]at q;subst q;intro R args H fz slot k kp r t;unfold AEl at t;split at t;rename_i c' a;have e:∀ (b:Type) (f:AV->Eff->Option b),(E.W2 x i c j s).spec x b args H fz slot f=match Nat.beq c' c with
     |true=>j b args H fz slot f
     |false=>E.spec x b args H fz slot f:=by
    intro b f
    simp only[Env.W2,Env.Xa,Nat.beq_refl,a]<;>grind
   split at t;rename_i d;rcases D R args H fz slot k kp r t with⟨v,l,m,A,u⟩|⟨p,l,m,A,u⟩
   exact .inl ⟨v,l,m,fun b f n=>by simp only[AEl,a,d];grind,fun b f=>by grind⟩;exact .inr ⟨p,l,m,fun b f n=>by simp only[AEl,a,d];grind,u⟩;rename_i d;split at t;rename_i z o;rcases h.2.2 x z o R args H fz slot k kp r t with⟨v,l,m,A,u⟩|⟨p,l,m,A,u⟩
   exact .inl ⟨v,l,m,fun b f n=>by simp only[AEl,a,d,o];grind,fun b f=>by grind⟩;exact .inr ⟨p,l,m,fun b f n=>by simp only[AEl,a,d,o];grind,u⟩;grind;grind
end
end
end Go.Pev
end
section
namespace Go.Pev
open Go.RowKit
noncomputable section
def lJ:List Oper->Option (FuncId×List Operand×Tmp)
 |[o0,o1]=>match o0.op,o0.dst,o0.guard with
  |.makeFunc (.func g) first cs,some t,none=>match o1.op,o1.dst,o1.guard with
   |.defer c,none,none=>match c.callee with
    |.value (.tmp t')=>match Nat.beq t' t&&(c.args.isEmpty&&first.isEmpty)with
     |true=>some (g,cs.toList,t)
     |false=>none
    |_=>none
   |_,_,_=>none
  |_,_,_=>none
 |_=>none
def isRec(o:Oper):Bool:=match o.op,o.guard with
 |.call { callee:=.builtin .recover,args,.. },none=>args.isEmpty
 |_,_=>false
def UJ[Lk](P:Program)(E:Env)(h:Hints)(R:Type)(fnC:Func)(rv:AV)(caps:List AV)(H:List Ob)(fz:List Bool)(k:St->Option R):Option R:=
 match fnC.body with
 |some (.seq (.region _ ops false) rest)=>match ops.toList with
  |[]=>none
  | o :: os => match isRec o && (Nat.beq (loops rest) 0 && (fnC.results.toList.isEmpty && (Nat.ble caps.length fnC.ntmps && !(fnC.name == "runtime.NumGoroutine")))) with
   |false=>none
   |true=>GU P E R (o::os) os H.length ((({ tmps:=.of caps fnC.ntmps,heap:=H,frz:=fz }:St).pad (DC (o::os))).put o.dst rv) fun st=>Bb P E h R rest 0 st fun e st=>match e with
    |.normal=>k st
    |.ret=>k st
    |_=>none
 |_=>none
def MN[Lk](P:Program)(E:Env)(h:Hints)(R:Type):Nat->Code->St->(Exit->St->Option R)->(List Oper->Code->St->Option R)->Option R
 |0,.seq (.region _ ops false) b,st,_,kd=>kd ops.toList b st
 |m+1,.seq a b,st,ke,kd=>match Nat.beq (loops a) 0 with
  |true=>Bb P E h R a 0 st fun e st=>match e with
   |.normal=>MN P E h R m b st ke kd
   |e=>ke e st
  |false=>none
 |_,_,_,_,_=>none
def cL(H:List Ob):AV->Bool
 |.ptr i 0=>GY H i
 |_=>false
def yR(np:Nat):AV->Bool
 |.ptr i 0=>decide (i<np)
 |_=>false
def rG:Nat->Code->Code
 |0,.seq _ b=>b
 |m+1,.seq _ b=>rG m b
 |_,c=>c
def ARX(t:Tmp):Operand->Bool
 |.tmp t' => !(Nat.beq t' t)
 |_=>true
def Qb[Lk](P:Program)(E:Env)(fn:Func)(m:Nat)(j outs:A0)(rs:List RS)(n o k:Hints)(d:A0)(l:Nat)(x:Bf (leaves j)):Option (Bf (leaves outs)):=
 match fn.body with
 |none=>none
 |some c=>MN P E n _ m c (encode fn.ntmps j x)
  (fun e st=>match e with
   |.ret=>finish 0 P fn outs rs st
   |_=>none)
  fun ops b st=>match lJ ops with
   |none=>none
   |some (g,cs,t)=>match P.funcs[g]? with
    |none=>none
    |some i=>match decode 0 fn.ntmps (st.put (some t) (.clo g (cs.map (BY st.tmps)))) d with
     |none=>none
     |some v=>match(Nat.blt t fn.ntmps&&cs.all (ARX t))&&(cs.map (BY (encode fn.ntmps d v).tmps)).all fun a=>yR l a&&cL (encode fn.ntmps d v).heap a with
      |false=>none
      |true=>Bb P E o _ b 0 (encode fn.ntmps d v) fun e f=>match(cs.map (BY (encode fn.ntmps d v).tmps)).all (cL f.heap)with
       |false=>none
       |true=>match e with
        |.normal=>UJ P E k _ i (.ifc none) (cs.map (BY (encode fn.ntmps d v).tmps)) f.heap f.frz fun h=>finish 0 P fn outs rs { tmps:=f.tmps,heap:=h.heap,frz:=h.frz }
        |.ret=>UJ P E k _ i (.ifc none) (cs.map (BY (encode fn.ntmps d v).tmps)) f.heap f.frz fun h=>finish 0 P fn outs rs { tmps:=f.tmps,heap:=h.heap,frz:=h.frz }
        |.panic q=>match ALf (.panic q)with
         |some p=>UJ P E k _ i (.ifc (some p)) (cs.map (BY (encode fn.ntmps d v).tmps)) f.heap f.frz fun h=>finish 0 P fn outs rs { tmps:=f.tmps,heap:=h.heap,frz:=h.frz }
         |none=>none
        |_=>none
end
section
variable {P:Program} {E:Env} {h:Hints}
theorem uL{R:Type}{r:R}(M:∀ g,BT P g (E.spec g)){ops:Array Oper}{Q:Exit->Act->List Frame->World->Prop}{cs:List Frame}{k:St->Option R}:∀ (b c:List Oper) (slot:Nat) (st:St) (w:World) (F:Nat->Prop) (m:Mp) (a:Act),ops.toList=c++b ->
  GU P E R ops.toList b slot st k=some r->SI w F m st a->(∀ f w',APA r k w F m st.heap st.frz f w'->Q .normal f cs w')->wpOpsS P ops Q (List.range' c.length b.length) a cs w:=by
 intro b;induction b with
  |nil=>intro c slot st w F m a _ h y t;exact t a w ⟨st,F,m,h,y,Ext.refl ..⟩
  |cons o b I=>
   intro c slot st w F m a q h y t;simp only[GU]at h;have s:ops[c.length]? = some o:=by rw[<- ATQ,q];simp
   have d:ops.toList=(c++[o])++b:=by grind
   have J:(c++[o]).length=c.length+1:=by simp
   rw[ASK,AT4];simp only[wpOpsS,s];obtain⟨st',i,z,A,N⟩:=Q7 y h;rcases N with⟨B,O⟩|⟨B,S⟩
   rw[ASL B];obtain⟨v,e,T,_,U⟩:=FK M o.op R _ _ _ _ _ _ _ O;have j:o.wp P a w (fun f w'=>wpOpsS P ops Q (List.range' (c.length+1) b.length) f cs w') (fun e f w'=>Q e f cs w'):=by
    refine U w F m a o _ _ rfl rfl i.heap (fun x=>Fg i.tmps x) fun u w' V W K X => ?_;have l:=(i.go K).put X o.dst;have:=I (c++[o]) _ _ w' V W (a.put o.dst u) d T l fun f n ⟨p,C,D,G,H,Y⟩=>t f n ⟨p,C,D,G,H,by
     have L:=K.1;rw[z,A]at L;refine L.trans ?_;have:((st'.app e).put o.dst v).heap=DH e st.heap/\((st'.app e).put o.dst v).frz=Fh e st.frz:=by cases o.dst<;>simp[St.put,St.app,z,A]
     grind⟩
    grind
   unfold Oper.wp at j;generalize (execOp a.eval o).run P w=res at j |-;split;simp[Oper.upon]at j;omega;rw[ASH (by simp[B])];have l:SI w F m (st'.put o.dst CR) (a.put o.dst undef):=i.put Rx o.dst;have:=I (c++[o]) _ _ w F m (a.put o.dst undef) d S l fun f n ⟨p,C,D,G,H,Y⟩=>t f n ⟨p,C,D,G,H,by
    have:(st'.put o.dst CR).heap=st.heap/\(st'.put o.dst CR).frz=st.frz:=by cases o.dst<;>simp[St.put,z,A]
    grind⟩
   grind
theorem IU.ext{w:World}{F:Nat->Prop}{m:Mp}{H:List Ob}{fz:List Bool}{w':World}{a:Nat->Prop}{b:Mp}{H':List Ob}{fz':List Bool}(x:IU H.length w F m H fz w' a b H' fz'):Ext w F m H fz w' a b H' fz':=
 ⟨x.os,x.tape,x.output,x.size,x.keep,x.sub,x.bnd,x.own,fun i o c d=>x.comp i o (BS c) c d⟩
theorem IU.ARo{np:Nat}{w:World}{F:Nat->Prop}{m:Mp}{H:List Ob}{fz:List Bool}{w':World}{a:Nat->Prop}{b:Mp}{H':List Ob}{fz':List Bool}(x:IU np w F m H fz w' a b H' fz'):IU 0 w F m H fz w' a b H' fz':=
 ⟨x.os,x.tape,x.output,x.size,x.keep,x.sub,x.bnd,x.own,fun i o h=>absurd h (Nat.not_lt_zero _)⟩
theorem ABq(V:∀ g,BT P g (E.spec g))(hL:E8 E)(hP:Gv P E){R:Type}{r:R}{g:FuncId}{b:Func}{J:AV}{d:List AV}{H:List Ob}{fz:List Bool}{k:St->Option R}(hf:P.funcs[g]? = some b)(z:UJ P E h R b J d H fz k=some r):
  ∃ a,k a=some r/\IL P g/\∀ (w:World) (F:Nat->Prop) (m:Mp) (c:List Value) (u:FrameMode),HI w F m H fz->BE w F m H d c->((u = .returning/\J = .ifc none)\/∃ p,u = .panicking [C' p]/\J = .ifc (some p)) ->
   CallsD P g c.toArray u w fun q f w'=>(∃ v,q = .returned v)/\settle f = .returning/\∃ j l,BP w F m H fz w' j l a.heap a.frz:=by
 unfold UJ at z;split at z;rename_i id ops i hb;split at z;cases z;rename_i o s x;split at z;cases z;rename_i hc;simp only[ASB]at hc;obtain⟨L,A,hres,M,hnm⟩:=hc;have A:=ASx A;have M:=AS9 M;obtain⟨N,h1,h2⟩:=Zt V _ _ _ _ z;obtain⟨e,a,g1,_,g3⟩:=DV V hL hP (np:=N.heap.length) i 0 (M8 i 0 A) R _ _ r h1;have y:k a=some r/\(e = .normal\/e = .ret):=by grind
 refine⟨a,y.1,Cg hf (by grind) (by grind),fun w F m c u hi hr hu => ?_⟩;have O:=Ba hr;have W:SI w F m { tmps:=.of d b.ntmps,heap:=H,frz:=fz } { tmps:=c.toArray++Array.replicate (b.ntmps-c.toArray.size) undef,defers:=[] }:=by refine⟨fun t => ?_,?_,hi,rfl⟩;have:=iR hr (b.ntmps-d.length) t;simp only[ATb,O];exact this;simp[O,Tm.of];omega
 obtain⟨X,Y⟩:=W.pad (DC (o::s));refine callsD_of_wpS hf hb fun n cs S => ?_;refine wpS_seq (wpS_region ?_);have B:o.guard=none/\∃ args ts,o.op = .call { callee:=.builtin .recover,args:=args,argTypes:=ts }/\args.isEmpty=true:=by unfold isRec at L;grind
 obtain⟨hg,args,ts,B,Z⟩:=B;have C:ops.size=s.length+1:=by rw[<- ASe,x];rfl
 have h0:ops[0]? = some o:=by rw[<- ATQ,x];rfl
 rw[C,AUC,AT4];simp only[wpOpsS,h0];rw[ASL (by simp[Region.wanted,hg])];have T:(execOp (Act.eval { tmps:=c.toArray++Array.replicate (b.ntmps-c.toArray.size) undef,defers:=[] }) o).run P w = .ok .recover w:=by
  have ha:args = #[]:=by grind
  subst ha;simp[execOp,B,resolve,invoke,builtin]
 rw[T];simp only
 have go:∀ (v:Value) (K:Frame) (f:FrameMode),Rep w F m ((St.pad { tmps:=.of d b.ntmps,heap:=H,frz:=fz } (DC (o::s))).heap) J v->K = { n with mode:=f }->settle f = .returning ->
   wpOpsS P ops (Exit.thenS (i.wpS P (bodyPostS P b n cs fun q f w'=>(∃ v,q = .returned v)/\settle f = .returning/\∃ j l,BP w F m H fz w' j l a.heap a.frz)) (bodyPostS P b n cs fun q f w'=>(∃ v,q = .returned v)/\settle f = .returning/\∃ j l,BP w F m H fz w' j l a.heap a.frz))
    (List.range' 1 s.length) (Act.put { tmps:=c.toArray++Array.replicate (b.ntmps-c.toArray.size) undef,defers:=[] } o.dst v) (K::cs) w:=by
  intro v K f hrv hc1 hst
  have hs3:=X.put hrv o.dst
  have h3:GU P E St ops.toList s H.length ((St.pad { tmps:=.of d b.ntmps,heap:=H,frz:=fz } (DC (o::s))).put o.dst J) some=some N:=by
   grind
  have:=uL (cs:=K::cs) V s [o] _ _ w F m _ (by grind) h3 hs3 (Q:=(Exit.thenS (i.wpS P (bodyPostS P b n cs fun q f w'=>(∃ v,q = .returned v)/\settle f = .returning/\∃ j l,BP w F m H fz w' j l a.heap a.frz)) (bodyPostS P b n cs fun q f w'=>(∃ v,q = .returned v)/\settle f = .returning/\∃ j l,BP w F m H fz w' j l a.heap a.frz))) fun a' w' hp => ?_
  ·omega
  ·obtain⟨st',j,l,e1,s1,x1⟩:=hp
   cases e1
   show i.wpS P _ a' (K::cs) w'
   refine wpS_of_wp (g3 w' j l a' _ s1 fun a2 U F2 m2 s2 x2 => ?_)
   have hx:Ext w F m H fz U F2 m2 a.heap a.frz:=by
    have hh:=FZ (St.pad { tmps:=.of d b.ntmps,heap:=H,frz:=fz } (DC (o::s))) o.dst J
    rw[hh.1,hh.2]at x1
    exact Y.trans (x1.trans x2.ext)
   have D:b.results.toList=[]:=by grind
   obtain⟨us,r1,_⟩:=ML (P:=P) s2 (fn:=b) (vs:=[]) (by rw[D];rfl)
   have G:a2.defers=[]/\∃ f,(K::cs:List Frame) = { n with mode:=f }::cs/\∃ v,(results b a2.tmps).run P U = .ok v U/\((∃ v',Ending.returned v = .returned v')/\settle f = .returning/\∃ j l,BP w F m H fz U j l a.heap a.frz):=
    ⟨s2.defers,f,by rw[hc1],_,r1,⟨_,rfl⟩,hst,F2,m2,hx,s2.heap⟩
   rcases y.2 with rfl|rfl<;>exact G
 rcases hu with⟨rfl,rfl⟩|⟨p,rfl,rfl⟩
 have I:recoverD (n::cs)=none:=by simp[recoverD,S]
 rw[I];simp only;exact go .nilIface n .returning (by unfold Rep;rfl) (by cases n;grind) rfl;have I:recoverD (n::cs)=some (Ku (some p),{ n with mode:=.panicking [{ v:=Ku (some p),recovered:=true }] }::cs):=by simp[recoverD,S,C']
 rw[I];simp only;exact go _ _ (.panicking [{ v:=Ku (some p),recovered:=true }]) (by unfold Rep;rfl) rfl rfl;grind
theorem ABo(L:∀ g,BT P g (E.spec g))(M:E8 E)(N:Gv P E){R:Type}{r:R}{v:Exit->St->Option R}{J:List Oper->Code->St->Option R}:∀ (m:Nat) (c:Code) (st:St),MN P E h R m c st v J=some r ->
  (∃ e st',e≠.normal/\v e st'=some r/\ARm P 0 c st e st') \/
  (∃ id ops b st',J ops.toList b st'=some r/\rG m c=b/\∀ (w:World) (F:Nat->Prop) (m:Mp) (a:Act) (Q:Exit->Act->World->Prop),SI w F m st a ->
   (∀ i w' j k,SI w' j k st' i->IU 0 w F m st.heap st.frz w' j k st'.heap st'.frz->(Code.seq (.region id ops false) b).wp P Q i w')->c.wp P Q a w):=by
 intro m;induction m with
  |zero=>
   intro c st f;cases c with
    |seq a b=>cases a with
     |region id ops s=>cases s with
      |false=>
       simp only[MN]at f
       exact .inr ⟨id,ops,b,st,f,rfl,fun w F m a Q l n=>n a w F m l (IU.refl ..)⟩
      |true=>simp[MN]at f
     |_=>simp[MN]at f
    |_=>simp[MN]at f
  |succ m O=>
   intro c st f;cases c with
    |seq a b=>
     simp only[MN]at f;split at f;rename_i o;have o:=ASx o;obtain⟨e,p,S,_,x⟩:=DV L M N (np:=0) a 0 (M8 a 0 o) R _ _ r f;by_cases K:e = .normal;subst K;rcases O b p S with⟨T,q,y,z,U⟩|⟨id,ops,b',q,y,V,z⟩
     refine .inl ⟨T,q,y,z,fun w F m d Q l n=>wp_seq ?_⟩;refine x w F m d _ l fun i w' j k t u => ?_;exact U w' j k i Q t fun A B C D G H=>n A B C D G (u.trans H);refine .inr ⟨id,ops,b',q,y,V,fun w F m d Q l n=>wp_seq ?_⟩;refine x w F m d _ l fun i w' j k t u => ?_;exact z w' j k i Q t fun A B C D G H=>n A B C D G (u.trans H);have I:v e p=some r:=by grind
     refine .inl ⟨e,p,K,I,fun w F m d Q l n=>wp_seq ?_⟩;refine x w F m d _ l fun i w' j k t u => ?_;have:=n i w' j k t u;cases e<;>first|grind|exact this
     grind
    |_=>simp[MN]at f
variable {g0:FuncId} {fn:Func} {c:Code}
theorem lI{ops:List Oper}{g:FuncId}{cs:List Operand}{t:Tmp}(h:lJ ops=some (g,cs,t)):∃ a b,ops=[a,b]/\a.guard=none/\a.dst=some t/\(∃ d fst,a.op = .makeFunc (.func g) fst d/\fst.toList=[]/\d.toList=cs) /\
  b.guard=none/\b.dst=none/\∃ args ts,b.op = .defer { callee:=.value (.tmp t),args:=args,argTypes:=ts }/\args.toList=[]:=by
 unfold lJ at h;split at h;rename_i a b;split at h;rename_i i first f t' j k l
 split at h;rename_i cl m n o;split at h;rename_i p q;split at h;rename_i e;simp only[ASB]at e;simp only[ASA,AST]at h;obtain⟨rfl,rfl,rfl⟩:=h;have:=ASx e.1;subst this;obtain⟨callee,args,ts⟩:=cl;grind;grind;grind;grind;grind;grind
theorem uI{np:Nat}{H:List Ob}{v:AV}(h:(yR np v&&cL H v)=true):∃ i cs,v = .ptr i 0/\i<np/\H[i]? = some (.box cs):=by rw[ASB]at h;obtain⟨a,b⟩:=h;unfold yR at a;split at a;rename_i i;refine⟨i,?_⟩;simp only[ASC]at a;simp only[cL,GY]at b;grind;grind
theorem AEv{np:Nat}{w w':World}{F g:Nat->Prop}{m j:Mp}{H H':List Ob}{fz fz':List Bool}(x:IU np w F m H fz w' g j H' fz'):∀ {vs:List AV} {us:List Value},(vs.all fun a=>yR np a&&cL H a)=true->vs.all (cL H')=true->BE w F m H vs us->BE w' g j H' vs us:=by
 intro vs;induction vs with
  |nil=>intro us _ _ h;unfold BE at *;exact h
  |cons v vs o=>
   intro us b d h;simp only[List.all_cons]at b d;rw[ASB]at b d;unfold BE at h |-;obtain⟨u,e,rfl,k,p⟩:=h;refine⟨u,e,rfl,?_,o b.2 d.2 p⟩;obtain⟨i,cs,rfl,hi,l⟩:=uI b.1;have n:=d.1;simp only[cL,GY]at n;split at n
   ·rename_i q f;unfold Rep HZ at k |-;rw[l]at k;rw[f];rcases x.comp i _ hi l (by simp)with r|⟨_,o',r,s,t,_⟩
    all_goals grind
   grind
theorem pf(hE:∀ g,BT P g (E.spec g))(hL:E8 E)(hP:Gv P E)(hf:P.funcs[g0]? = some fn)(hb:fn.body=some c)(hc:IL P g0)
  {m:Nat} {na:Nat} (hna:na<=fn.ntmps) {s outs:A0} {rs:List RS} {hA hB hC:Hints} {j:A0} {npB:Nat} {f:Bf (leaves s)->Option (Bf (leaves outs))} (hfun:∀ x,f x=Qb P E fn m s outs rs hA hB hC j npB x)
  (hl:∀ [DfI],Bu P npB hB (rG m c) 0):BT P g0 (Bc 0 na s outs rs f):=by
 intro R args H fz slot k r K;simp only[Bc]at K;split at K;cases K;rename_i x bs fr O;split at K;cases K;rename_i Q;simp only[ASB,ASC]at Q;obtain⟨⟨⟨l,hbl⟩,hal⟩,hri,hro⟩:=Q;split at K;cases K;rename_i y hy;generalize S:Dc (Dz outs) (bs.take 0) slot=ids at K;generalize hgv:given (bs.drop 0)=gv at K;obtain⟨e,h4,he1,he2,h5,hok,hnd,hfl⟩:=TT K;refine⟨_,e,h4,fun R' k' => ?_,hc,fun w F mm vals hi hr => ?_⟩;simp only[Bc,O,l,hbl,hal,hri,hro,hy,ASU,ATl,S,hgv];grind;rw[hfun x]at hy;unfold Qb at hy;rw[hb]at hy;simp only at hy;refine calls_of_wp_defers hf hb ?_;obtain⟨F2,m2,gA,invA,hsi⟩:=RP hi hr hal hna O
 have fin:∀ (w':World) (o:Nat->Prop) (q:Mp) (st':St) (tm:Array Value),SI w' o q st' { tmps:=tm,defers:=[] }->IU 0 w F2 m2 (encode fn.ntmps s x).heap (encode fn.ntmps s x).frz w' o q st'.heap st'.frz->finish 0 P fn outs rs st'=some y ->
   Leaves P fn tm (fun en w'=>∃ u,en = .returned u/\∃ o q,BP w F mm H fz w' o q (DH e H) (Fh e fz)/\Rep w' o q (DH e H) (single (FA rs (J' ids (encode (cellsOf rs) outs y).tmps.list))) u) [] .returning w':=by
  intro w' o q st' tm hs x1 hfin
  obtain⟨vs,tm',bs',fr',hvs,htm,hd',hp⟩:=W0 hfin
  rw[ASB]at hp
  obtain⟨us,r1,r2⟩:=ML hs hvs
  exact⟨_,r1,_,rfl,cG hi gA invA l hri hro S hgv he1 he2 hok hnd hfl hs.heap x1 r2 htm hd' hp.1⟩
 rcases ABo hE hL hP m c _ hy with⟨ex,st',M,hke,A⟩|⟨id,ops,b,st',i,hcb,A⟩
 have hex:ex = .ret/\finish 0 P fn outs rs st'=some y:=by grind
 obtain⟨rfl,hke⟩:=hex;refine A w F2 m2 _ _ hsi fun d w' o q T x1 => ?_;show Leaves P fn d.tmps _ d.defers .returning w';rw[show d.defers=[]from T.defers];exact fin w' o q st' d.tmps ⟨T.tmps,T.size,T.heap,rfl⟩ x1 hke;split at i;cases i;rename_i g cs t hdf;split at i;cases i;rename_i fnC hfC;split at i;cases i;rename_i v hv;split at i;cases i;rename_i B;rw[ASB,ASB]at B;obtain⟨⟨htn,hnt⟩,hcap⟩:=B;refine A w F2 m2 _ _ hsi fun d w' o q T x1 => ?_;obtain⟨o0,o1,C,hg0,hd0,⟨a,fst,hop0,hfst,hcs⟩,hg1,hd1,U,ts1,hop1,hargs1⟩:=lI hdf;have V:ops.size=2:=by rw[<- ASe,C];rfl
 have h0:ops[0]? = some o0:=by rw[<- ATQ,C];rfl
 have h1:ops[1]? = some o1:=by rw[<- ATQ,C];rfl
 have W:fst = #[]:=by grind
 have G:U = #[]:=by grind
 subst W;subst G;subst hcs;have X:(execOp d.eval o0).run P w' = .ok (.value (.func (.func g) #[] (a.map d.eval))) w':=by simp[execOp,hop0,Instr.makeFunc]
 have hcr:BE w' o q st'.heap (a.toList.map (BY st'.tmps)) (a.map d.eval).toList:=cS (fun x=>Fg T.tmps x) a;have hrc:Rep w' o q st'.heap (.clo g (a.toList.map (BY st'.tmps))) (.func (.func g) #[] (a.map d.eval)):=by unfold Rep;grind
 have s2:=T.put hrc (some t);obtain⟨F3,m3,s3,x3⟩:=HR s2 hv;have hev:(d.put (some t) (.func (.func g) #[] (a.map d.eval))).eval (.tmp t) = .func (.func g) #[] (a.map d.eval):=by
  have h1:t<d.tmps.size:=by
   have h2:(st'.put (some t) (.clo g (a.toList.map (BY st'.tmps)))).tmps.n=fn.ntmps:=by unfold decode at hv;grind
   rw[<- T.size];rw[show st'.tmps.n=fn.ntmps from h2];simp_all
  simp[Act.eval,Act.put,h1]
 have Y:(execOp (d.put (some t) (.func (.func g) #[] (a.map d.eval))).eval o1).run P w' = .ok (.defer { target:=.fn (.func g) (a.map d.eval),args:=#[] }) w':=by simp[execOp,hop1,resolve,hev,Deferred.ofValue]
 refine wp_seq (wp_region ?_);rw[V];refine Lz h0 hg0 (C2 X ?_);rw[hd0];refine Lz h1 hg1 ?_;unfold Oper.wp;rw[Y,Oper.upon_defer,hd1];have e0:(d.put (some t) (.func (.func g) #[] (a.map d.eval))).defers=[]:=s2.defers;have s3t:=s3.tmps;have s3s:=s3.size;have s3h:=s3.heap;letI D:DfI:=⟨[{ target:=.fn (.func g) (a.map d.eval),args:=#[] }]⟩
 have s4:@SI D w' F3 m3 (encode fn.ntmps j v) { (d.put (some t) (.func (.func g) #[] (a.map d.eval)))with defers:={ target:=.fn (.func g) (a.map d.eval),args:=#[] }::(d.put (some t) (.func (.func g) #[] (a.map d.eval))).defers }:=
  @SI.mk D _ _ _ _ _ s3t s3s s3h (by rw[e0];rfl)
 obtain⟨ex,N,g1,_,g3⟩:=DV hE hL hP b 0 (hcb▸hl) _ _ _ _ i;have Z:BE w' F3 m3 (encode fn.ntmps j v).heap (a.toList.map (BY (encode fn.ntmps j v).tmps)) (a.map d.eval).toList:=by
  have h1:a.map d.eval=a.map (d.put (some t) (.func (.func g) #[] (a.map d.eval))).eval:=by
   apply Array.map_congr_left;intro z hz;rw[ASd]at hnt;have:=hnt z (by grind);cases z with
    |tmp t'=>
     have M:t≠t':=by rintro rfl;simp[ARX]at this
     simp[Act.eval,Act.put,Array.getElem?_setIfInBounds_ne M]
    |_=>rfl
  rw[h1];exact cS (fun x=>Fg s3t x) a
 refine g3 w' F3 m3 _ _ s4 fun L w2 F4 m4 s5 x5 => ?_;split at g1;cases g1;rename_i hal2
 have closing:∀ (rv:AV) (u:FrameMode),u≠.run->((u = .returning/\rv = .ifc none)\/∃ p,u = .panicking [C' p]/\rv = .ifc (some p)) ->
   UJ P E hC _ fnC rv (a.toList.map (BY (encode fn.ntmps j v).tmps)) N.heap N.frz (fun I=>finish 0 P fn outs rs { tmps:=N.tmps,heap:=I.heap,frz:=I.frz })=some y ->
   Leaves P fn L.tmps (fun en w'=>∃ u,en = .returned u/\∃ o q,BP w F mm H fz w' o q (DH e H) (Fh e fz)/\Rep w' o q (DH e H) (single (FA rs (J' ids (encode (cellsOf rs) outs y).tmps.list))) u) [{ target:=.fn (.func g) (a.map d.eval),args:=#[] }] u w2:=by
  intro rv u M hmode hclo
  obtain⟨I,k1,kc,k2⟩:=ABq hE hL hP hfC hclo
  refine leaves_cons (f:=g) (args:=a.map d.eval) M (by simp[invoke,kc _ w2]) ?_
  have J:=k2 w2 F4 m4 _ u s5.heap (AEv x5 hcap hal2 Z) hmode
  rw[AUQ]at J
  refine J.mono fun en u' w3 ⟨⟨v',hen⟩,hset,F5,m5,hgo⟩ => ?_
  subst hen
  show Leaves P fn L.tmps _ [] (settle u') w3
  rw[hset]
  refine fin w3 F5 m5 { tmps:=N.tmps,heap:=I.heap,frz:=I.frz } L.tmps (@SI.mk noDf _ _ _ _ _ (fun t=>hgo.1.rep s5.heap (s5.tmps t)) s5.size hgo.2 rfl) ?_ k1
  exact x1.trans (x3.trans (x5.ARo.trans (hgo.1.toN 0)))
 have hdf2:L.defers=[{ target:=.fn (.func g) (a.map d.eval),args:=#[] }]:=s5.defers;cases ex with
  |normal=>show Leaves P fn L.tmps _ L.defers .returning w2;grind
  |ret=>show Leaves P fn L.tmps _ L.defers .returning w2;grind
  |panic ch=>simp only at g1;split at g1;rename_i p hp;have:=xt hp;simp only[Exit.panic.injEq]at this;subst this;show Leaves P fn L.tmps _ L.defers (.panicking [C' p]) w2;grind;grind
  |_=>grind
end
theorem DO[DfI]{P:Program}{np:Nat}{h:Hints}:∀ (c:Code) (n:Nat),loops c=0->Bu P np h c n:=by
 intro c;induction c with
  |seq a b e f=>intro n d;simp only[loops]at d;exact⟨e n (by omega),f _ (by omega)⟩
  |cond c a b e f=>intro n d;simp only[loops]at d;exact⟨e n (by omega),f _ (by omega)⟩
  |block id c g=>intro n d;simp only[loops]at d;exact g n d
  |scope c g=>intro n d;simp only[loops]at d;exact g n d
  |loop c g=>intro n d;simp only[loops]at d;omega
  |_=>intro n _;trivial
def WO[DfI](P:Program)(np:Nat)(h:Hints):List (Nat×Code)->Prop
 |[]=>True
 |p::l=>J_ P np (.loop p.2) (h.loop p.1)/\WO P np h l
theorem cw[DfI]{P:Program}{np:Nat}{h:Hints}:∀ {a b:List (Nat×Code)},WO P np h (a++b)->WO P np h a/\WO P np h b:=by
 intro a;induction a with
  |nil=>exact fun h=>⟨trivial,h⟩
  |cons p a c=>intro b h;exact⟨⟨h.1,(c h.2).1⟩,(c h.2).2⟩
theorem mX[DfI]{P:Program}{np:Nat}{h:Hints}:∀ (c:Code) (n:Nat),WO P np h (Co c n)->Bu P np h c n:=by
 intro c;induction c with
  |seq a b e f=>intro n d;have:=cw d;exact⟨e n this.1,f _ this.2⟩
  |cond c a b e f=>intro n d;have:=cw d;exact⟨e n this.1,f _ this.2⟩
  |block id c g=>intro n d;exact g n d
  |scope c g=>intro n d;exact g n d
  |loop c g=>intro n d;exact d.1
  |_=>intro n _;trivial
theorem XK[DfI]{P:Program}{np:Nat}{h:Hints}{c:Code}{n:Nat}{l:List (Nat×Code)}(e:Co c n=l)(a:WO P np h l):Bu P np h c n:=mX c n (by grind)
def Sx:List (Nat×List (List Nat))->Nat->List (List Nat)
 |[],_=>[]
 |(k,x)::l,n=>match Nat.beq k n with
  |true=>x
  |false=>Sx l n
end Go.Pev
end
section
namespace Go.Pev
open Go.RowKit
noncomputable section
noncomputable def Of(n:Nat):Spec:=fun R args _ _ _ k=>
 match args with
 |[.data (.slice e) xs]=>match decide (e.size=n)with
  |true=>k (.clip e xs) {}
  |false=>none
 |_=>none
structure gz(P:Program)(fn:Func)(T e:TypeId)(n:Nat):Prop where
 body:fn.body=some (.seq (.region 0 #[CY fn 0 0] false) (.seq (.region 1 #[CY fn 1 0,CY fn 1 1,CY fn 1 2,CY fn 1 3,CY fn 1 4,CY fn 1 5,CY fn 1 6] false) .ret))
 nt:fn.ntmps=9
 res:fn.results = #[.tmp 2]
 d:(CY fn 0 0).dst=some 2/\(CY fn 1 0).dst=some 3/\(CY fn 1 1).dst=some 4/\(CY fn 1 2).dst=some 5/\(CY fn 1 3).dst=some 6/\(CY fn 1 4).dst=some 7/\(CY fn 1 5).dst=some 8/\(CY fn 1 6).dst=some 2
 g:(CY fn 0 0).guard=none/\(CY fn 1 0).guard=none/\(CY fn 1 1).guard=none/\(CY fn 1 2).guard=none/\(CY fn 1 3).guard=none/\(CY fn 1 4).guard=none/\(CY fn 1 5).guard=none/\(CY fn 1 6).guard=none
 o00:(CY fn 0 0).op = .assign (.const (.slice none 0 0))
 o10:(CY fn 1 0).op = .move (.tmp 0)
 o11:(CY fn 1 1).op = .move (.tmp 0)
 o12:(CY fn 1 2).op = .call { callee:=.builtin .len,args:=#[.tmp 4],argTypes:=#[T] }
 o13:(CY fn 1 3).op = .move (.tmp 0)
 o14:(CY fn 1 4).op = .call { callee:=.builtin .len,args:=#[.tmp 6],argTypes:=#[T] }
 o15:(CY fn 1 5).op = .slice T (.tmp 3) none (some (.tmp 5)) (some (.tmp 7))
 o16:(CY fn 1 6).op = .assign (.tmp 8)
 sl:P.underlying T=some (.slice e)
 sz:CJ P e=some n
section
variable {P:Program} {g:FuncId} {fn:Func} {T e:TypeId} {n:Nat}
theorem AOe (hs : gz P fn T e n) (hf : P.funcs[g]? = some fn) (hn : (fn.name == "runtime.NumGoroutine") = false) : BT P g (Of n) := by
 intro R args H fz slot k r hk;unfold Of at hk;split at hk;rename_i t xs;split at hk;rename_i hsz;refine⟨_,_,hk,fun R' k'=>by simp only[Of,hsz],Cg hf (by rw[hs.body];rfl) hn,fun w F m vals hi hr => ?_⟩;simp only[ASC]at hsz;obtain⟨i,hi0,hsz'⟩:=Bt hs.sz;unfold BE at hr;obtain⟨v,vs',rfl,hrv,hnil⟩:=hr;unfold BE at hnil;subst hnil;have hrv:Dat w F (.slice t) xs [v]:=hrv;obtain⟨a,cap,e1,e2,e3⟩:=hrv;simp only[ASn,AUo]at e1;subst e1;refine calls_of_wp hf hs.body ?_;obtain⟨d0,d1,d2,d3,d4,d5,d6,d7⟩:=hs.d;obtain⟨g0,g1,g2,g3,g4,g5,g6,g7⟩:=hs.g;have hres:∀ (tm:Array Value) (w0:World),(results fn tm).run P w0 = .ok (tm.getD 2 undef) w0:=fun tm w0=>by simp[results,hs.res]
 refine wp_seq (wp_region ?_);simp only[ATb,ASK,ASV,ASi,AUe,AS1];refine DF (by rfl) g0 (C2 (H_ hs.o00) ?_);refine wp_seq (wp_region ?_);simp only[ATb,ASK,ASV,ASi,AUe,AS1,ASl];refine DF (by rfl) g1 (C2 (Le hs.o10) ?_);refine DF (by rfl) g2 (C2 (Le hs.o11) ?_);refine DF (by rfl) g3 (C2 (u:=.int .i64 (List.length (α:=t.den) xs)) (w':=w) (by simp[execOp,hs.o12,resolve,invoke,builtin,Act.eval,Act.put,d0,d1,d2,hs.nt,CW hs.sl]) ?_);refine DF (by rfl) g4 (C2 (Le hs.o13) ?_);refine DF (by rfl) g5 (C2 (u:=.int .i64 (List.length (α:=t.den) xs)) (w':=w) (by simp[execOp,hs.o14,resolve,invoke,builtin,Act.eval,Act.put,d0,d1,d2,d3,d4,hs.nt,CW hs.sl]) ?_);have hrun:=No (P:=P) (w:=w) (kh:=.i64) (km:=.i64) hs.sl hi0 a (List.length (α:=t.den) xs) cap (l:=0) (h:=(List.length (α:=t.den) xs:Int)) (.inl ⟨rfl,rfl⟩) (by omega) (by omega) (by omega);refine DF (by rfl) g6 (C2 (u:=.slice a (List.length (α:=t.den) xs) (List.length (α:=t.den) xs)) (w':=w) (by simp[execOp,hs.o15,Act.eval,Act.put,d0,d1,d2,d3,d4,d5,hs.nt,hrun];intro _;cases a<;>rfl) ?_)
 refine DF (by rfl) g7 (C2 (H_ hs.o16) ?_);refine wp_ret ?_;refine⟨by simp[Act.put,d0,d1,d2,d3,d4,d5,d6,d7],_,hres _ _,?_⟩;refine⟨_,rfl,F,m,BP.refl hi,?_⟩;have:Rep w F m H (.clip t xs) (.slice a (List.length (α:=t.den) xs) (List.length (α:=t.den) xs)):=by unfold Rep;exact⟨⟨a,_,rfl,ASG _,e3⟩,a,rfl⟩
 show Rep _ _ _ H _ _;simpa [Act.put,Act.eval,d0,d1,d2,d3,d4,d5,d6,d7,hs.nt]using this;grind;grind
theorem Oe(n:Nat):Ha (Of n):=fun _ _ _ _ _ _ _ _ _=>rfl
end
abbrev Tab:=Nat->A0×BI
def Ey[Lk](P:Program)(E:Env)(np e:Nat)(d:Tab):Code->Nat->Hints->Hints
 |.seq a b,n,h=>Ey P E np e d a n (Ey P E np e d b (n+loops a) h)
 |.cond _ a b,n,h=>Ey P E np e d a n (Ey P E np e d b (n+loops a) h)
 |.block _ c,n,h=>Ey P E np e d c n h
 |.scope c,n,h=>Ey P E np e d c n h
 |.loop c,n,h=>{ fp:=h.fp,loop:=fun m=>match Nat.beq m n with
   |true=>MY np e (d n).1 (d n).2 (roundOf P E (Ey P E np e d c (n+1) h) (n+1) np e c (d n).1 (d n).2)
   |false=>(Ey P E np e d c (n+1) h).loop m }
 |_,_,h=>h
theorem aq(P:Program)(E:Env)(np j:Nat)(f:Tab):∀ (c:Code) (n:Nat) (h:Hints) (m:Nat),(m<n\/n+loops c<=m)->(Ey P E np j f c n h).loop m=h.loop m:=by
 intro c;induction c with
  |seq a b g i=>intro n h m d;simp only[Ey,loops]at *;grind
  |cond c a b g i=>intro n h m d;simp only[Ey,loops]at *;grind
  |block id c e=>intro n h m d;exact e n h m d
  |scope c e=>intro n h m d;exact e n h m d
  |loop c e=>
   intro n h m d;simp only[Ey,loops]at *;have:Nat.beq m n=false:=by
    cases k:Nat.beq m n with
     |true=>have:=ASx k;omega
     |false=>rfl
   grind
  |_=>intro n h m d;rfl
theorem QC{P:Program}{np:Nat}{h l:Hints}:∀ (c:Code) (n:Nat),(∀ m,n<=m->m<n+loops c->l.loop m=h.loop m)->Bu P np h c n->Bu P np l c n:=by
 intro c;induction c with
  |seq a b f g=>intro n d e;simp only[loops]at d;exact⟨f n (fun m i k=>d m i (by omega)) e.1,g _ (fun m i k=>d m (by omega) (by omega)) e.2⟩
  |cond c a b f g=>intro n d e;simp only[loops]at d;exact⟨f n (fun m i k=>d m i (by omega)) e.1,g _ (fun m i k=>d m (by omega) (by omega)) e.2⟩
  |block id c j=>intro n d e;exact j n d e
  |scope c j=>intro n d e;exact j n d e
  |loop c j=>intro n d e;simp only[loops]at d;unfold Bu at *;grind
  |_=>intro n d e;trivial
theorem ADV{P:Program}{E:Env}(j:Bp P E){np i:Nat}{d:Tab}:∀ (c:Code) (n:Nat) (h:Hints),Bu P np (Ey P E np i d c n h) c n:=by
 intro c;induction c with
  |seq a b e f=>intro n h;refine⟨e n _,?_⟩;refine QC b _ (fun m k l => ?_) (f (n+loops a) h);simp only[Ey];exact aq P E np i d a n _ m (by omega)
  |cond c a b e f=>intro n h;refine⟨e n _,?_⟩;refine QC b _ (fun m k l => ?_) (f (n+loops a) h);simp only[Ey];exact aq P E np i d a n _ m (by omega)
  |block id c g=>intro n h;exact g n h
  |scope c g=>intro n h;exact g n h
  |loop c g=>intro n h;unfold Bu;simp only[Ey];rw[show Nat.beq n n=true from Nat.beq_refl n];exact SY j (fun _=>rfl) (g (n+1) h)
  |_=>intro n h;trivial
structure Row where
 g:FuncId
 k:Nat:=0
 np:Nat:=0
 na:Nat:=0
 fl:Nat:=0
 clo:Option (Nat×FuncId):=none
 its:A0:=[]
 os:BI:=[]
 rs:List RS:=[]
 fp:List (Nat×List (List Nat)):=[]
 tab:List (Nat×A0×BI):=[]
def AJp{α:Type}(d:α):List (Nat×α)->Nat->α
 |[],_=>d
 |p::l,n=>match Nat.beq p.1 n with
  |true=>p.2
  |false=>AJp d l n
def Row.outs(r:Row):A0:=match r.os with
 |[]=>[]
 |o::_=>o.2
def Row.mark(r:Row)(i:Nat):Bool:=Nat.testBit r.fl i
def Row.hint[Lk](r:Row)(P:Program)(E:Env)(fn:Func):Hints:=
 Ey P E r.np fn.ntmps (AJp ([],[]) r.tab) (CN fn) 0 { fp:=AJp [] r.fp }
def Row.loc(r:Row):Bool:=bf r.its&&(Nat.ble (Dz r.outs) 4 && !r.mark 3)
def Row.HJ(r:Row):Bool:=Wq r.its&&Nat.ble (Dz r.outs) 4
def Row.call(r:Row)(f:Bf (leaves r.its)->Option (Bf (leaves r.outs))):Spec:=Bc r.np r.na r.its r.outs r.rs f
def Row.self[Lk](r:Row)(P:Program)(E:Env)(fn:Func):Bf (leaves r.its)->Option (Bf (leaves r.outs)):=
 EJ r.np P E (r.hint P E fn) fn r.its r.outs r.rs
def Row.put[Lk](r:Row)(E:Env)(s:Spec):Env:=
 match r.clo with
 |none=>E.ext r.g r.loc r.HJ (match r.mark 3 with
  |true=>Hv s
  |false=>s)
 |some (i,c)=>E.Xa r.g i c (match r.mark 3 with
  |true=>Hv s
  |false=>s)
def Row.okF(r:Row)(fn:Func):Bool:=
 fn.body.isSome && (!(fn.name == "runtime.NumGoroutine") && (Nat.ble r.na fn.ntmps && (match r.k with
  |1=>Nat.beq (loops (CN fn)) 0
  |_=>true)&&(match r.clo with
  |none=>true
  |some _=>r.HJ)))
theorem Row.AP3{P:Program}{E:Env}{r:Row}(e:Bp P E){f:Bf (leaves r.its)->Option (Bf (leaves r.outs))}(j:BT P r.g (r.call f))(k:(match r.clo with
  |none=>true
  |some _=>r.HJ)=true):Bp P (r.put E (r.call f)):=by
 have a:r.HJ=true->Iu (match r.mark 3 with
  |true=>Hv (r.call f)
  |false=>r.call f):=by
  intro h
  simp only[Row.HJ,ASB]at h
  cases r.mark 3 with
  |true=>exact ALv h.1 h.2
  |false=>exact Ct h.1 h.2
 have b:BT P r.g (match r.mark 3 with
  |true=>Hv (r.call f)
  |false=>r.call f):=by
  cases r.mark 3 with
  |true=>exact nK j
  |false=>exact j
 unfold Row.put;split;refine Env.Ce e b (fun h => ?_) a;simp only[Row.loc,ASB]at h;have l:r.mark 3=false:=by grind
 rw[l];exact MV h.1 h.2.1;rename_i i c d;rw[d]at k;exact Env.S0 e b (a k)
theorem Row.AA6 {P : Program} {E : Env} {r : Row} {fn : Func} (hE : Bp P E) (hf : P.funcs[r.g]? = some fn) (hb : fn.body.isSome = true) (hn : (fn.name == "runtime.NumGoroutine") = false) (ha : Nat.ble r.na fn.ntmps = true)
  {f:Bf (leaves r.its)->Option (Bf (leaves r.outs))} (he:∀ x,f x=r.self P E fn x):BT P r.g (r.call f):=
 I_ hE hf hb hn ha he (ADV hE _ _ _)
variable {P:Program} {E:Env} {r:Row} {fn:Func}
def Row.ev[Lk](r:Row)(E:Env):Env:={ E with keep:=r.mark 0,rows:=r.mark 1,arrs:=r.mark 2 }
def Row.ARg[Lk](r:Row)(E:Env)(f:Bf (leaves r.its)->Option (Bf (leaves r.outs))):Env:=r.put E (r.call f)
theorem Row.za(r:Row)(b:Bp P E)(c:P.funcs[r.g]? = some fn){f d:Bf (leaves r.its)->Option (Bf (leaves r.outs))}(e:∀ x,f x=d x)
  (a:r.okF fn=true:=by kernel_rfl) (hd:∀ x,d x=r.self P (r.ev E) fn x:=by intro _;kernel_rfl):Bp P (r.ARg E f):=by simp only[Row.okF,ASB,ATG]at a;obtain⟨h,i,⟨j,l⟩,k⟩:=a;exact Row.AP3 b (Row.AA6 (E:=r.ev E) b c h i j fun x=>(e x).trans (hd x)) k
structure Chn(P:Program)where
  e:[Lk]->Env
  h:Bp P e
def Chn.g{P:Program}{fn:Func}(c:Chn P)(r:Row)(f:[Lk]->Bf (leaves r.its)->Option (Bf (leaves r.outs)))(i:P.funcs[r.g]? = some fn){d:Bf (leaves r.its)->Option (Bf (leaves r.outs))}(k:∀ x,f x=d x)(a:r.okF fn=true:=by kernel_rfl)(b:∀ x,d x=r.self P (r.ev c.e) fn x:=by intro _;kernel_rfl):Chn P:=⟨r.ARg c.e f,Row.za r c.h i k a b⟩
structure Ma{α β:Type}(f:α->β)where
 d:α->β
 h:∀ v,f v=d v
end
end Go.Pev
end
section
namespace Go.Pev
open Go.Proofs
noncomputable section
abbrev ANY:Row:=⟨93,0,0,1,0,none,X9,[(.ret,BW)],A8,[],[]⟩
def z9[Lk]:Env:=Env.none.ext 93 true true (Bc 0 1 X9 BW A8 zJ)
theorem xm:Bp Tryz.prog z9:=Row.za ANY Env.ANN Tryz.func93 py
def AE8:=Chn.g ⟨z9,xm⟩ ⟨59,0,0,1,0,none,X9,[(.ret,BW)],A8,[],[]⟩ bitsLen Tryz.func59 cO
def AAD:=Chn.g AE8 ⟨192,0,1,1,0,none,AAC,[(.ret,AAB)],A8,[(3,[[],[0],[0],[],[0],[0],[],[],[0],[1]]),(2,[[],[0],[0],[],[0],[0],[],[],[0],[1]]),(1,[[],[0],[0],[],[0],[0],[],[],[0],[1]])],[]⟩ xorNext Tryz.func192 YS
def ACa:=Chn.g AAD ⟨191,0,0,1,0,none,BW,[(.ret,X9)],A8,[],[]⟩ X6 Tryz.func191 aB
def ADd:=Chn.g ACa ⟨5,0,0,2,0,none,ADc,[(.ret,BN)],A8,[],[]⟩ Su Tryz.func5 av
def AFi:=Chn.g ADd ⟨95,0,0,1,0,none,BW,[(.ret,BN)],A8,[],[]⟩ QG Tryz.func95 eM
def ARH:=Chn.g AFi ⟨160,0,0,2,0,none,Nb,[(.ret,BN)],A8,[],[]⟩ tin Tryz.func160 AF2
def APl:=Chn.g ARH ⟨129,0,0,3,0,none,AF8,[(.ret,BW)],A8,[],[]⟩ AF9 Tryz.func129 yC
def AFh:=Chn.g APl ⟨215,0,0,2,0,none,Nb,[(.ret,AFg)],Rk,[],[]⟩ iK Tryz.func215 eL
def ALo:=Chn.g AFh ⟨62,0,0,1,0,none,BW,[(.ret,ALn)],xz,[],[(0,AFv,AFu)]⟩ yA Tryz.func62 nD
def AI2:=Chn.g ALo ⟨158,0,0,2,0,none,OD,[(.ret,BW)],A8,[],[(0,ADO,HL)]⟩ VF Tryz.func158 fh
def q7:=Chn.g AI2 ⟨122,0,0,2,0,none,OD,[(.ret,BN)],A8,[],[]⟩ HS Tryz.func122 TE
def AQT:=Chn.g q7 ⟨188,0,0,1,0,none,aD,[(.ret,BW)],A8,[],[(0,ANR,yx)]⟩ AIb Tryz.func188 yy
def AN7:=Chn.g AQT ⟨165,0,0,2,0,none,AN6,[(.ret,Fj)],A8,[],[]⟩ zO Tryz.func165 qI
def PX:=Chn.g AN7 ⟨128,0,0,1,0,none,AEf,[(.ret,Fj)],A8,[],[(0,xK,xI),(1,xJ,xH)]⟩ PY Tryz.func128 bt
theorem ABT:Tryz.f213.body.isSome=true:=by kernel_rfl
theorem ABS : (Tryz.f213.name == "runtime.NumGoroutine") = false := by kernel_rfl
theorem ABR:loops (CN Tryz.f213)=0:=by kernel_rfl
def XO[Lk]:Env:=PX.e.ext 213 false false (CZ Tryz.prog PX.e {} Tryz.f213)
theorem cp:Bp Tryz.prog XO:=Env.Ce PX.h (CD PX.h Tryz.func213 ABT ABS ABR) (by simp) (by simp)
def ah:=Chn.g ⟨XO,cp⟩ ⟨68,0,0,2,0,some (1,213),OF,[(.ret,BW)],A8,[],[(0,XW,HL)]⟩ Mg Tryz.func68 NC
def AQQ:=Chn.g ah ⟨214,0,0,1,0,none,aD,[(.ret,BN)],A8,[],[(0,ANI,ANH)]⟩ once Tryz.func214 yp
def Rj:=Chn.g AQQ ⟨164,0,0,2,0,none,OD,[(.ret,Fj)],A8,[(1,[[],[],[],[],[],[],[],[0]])],[]⟩ Yh Tryz.func164 eK
theorem AAi:Tryz.f162.body.isSome=true:=by kernel_rfl
theorem AAh : (Tryz.f162.name == "runtime.NumGoroutine") = false := by kernel_rfl
theorem AAg:loops (CN Tryz.f162)=0:=by kernel_rfl
def XN[Lk]:Env:=Rj.e.ext 162 false false (CZ Tryz.prog Rj.e {} Tryz.f162)
theorem cj:Bp Tryz.prog XN:=Env.Ce Rj.h (CD Rj.h Tryz.func162 AAi AAh AAg) (by simp) (by simp)
def VJ:=Chn.g ⟨XN,cj⟩ ⟨161,0,1,2,0,some (1,162),VI,[(.ret,VH)],A8,[],[(0,Si,Sh)]⟩ Jj Tryz.func161 KZ
def Ro:=Chn.g VJ ⟨126,0,0,2,0,none,K7,[(.ret,BW)],A8,[],[]⟩ To Tryz.func126 eO
theorem AO7:Tryz.f216.body.isSome=true:=by kernel_rfl
theorem AO6 : (Tryz.f216.name == "runtime.NumGoroutine") = false := by kernel_rfl
theorem AO5:loops (CN Tryz.f216)=0:=by kernel_rfl
def gw[Lk]:Env:=Ro.e.ext 216 false false (CZ Tryz.prog Ro.e {} Tryz.f216)
theorem mh:Bp Tryz.prog gw:=Env.Ce Ro.h (CD Ro.h Tryz.func216 AO7 AO6 AO5) (by simp) (by simp)
def AQf:=Chn.g ⟨gw,mh⟩ ⟨189,0,0,2,0,none,AQe,[(.ret,BN)],A8,[(8,[[],[],[],[],[],[],[],[],[1000003],[],[],[],[],[],[],[],[],[0],[0],[0],[],[0],[0],[0],[2,26],[],[2,26],[2,26]]),(13,[[],[0],[0],[0],[2],[],[],[],[0],[0],[0],[6],[],[0],[0],[0],[4]]),(3,[[],[],[],[],[],[],[],[],[11],[],[],[],[8,10,12]])],[(0,AOD,AOC)]⟩ goes Tryz.func189 zQ
def AQS:=Chn.g AQf ⟨94,0,0,1,0,none,BW,[(.ret,BN)],A8,[],[]⟩ ACd Tryz.func94 KT
def xL:=Chn.g AQS ⟨61,0,0,2,0,none,Nb,[(.ret,BW)],A8,[],[]⟩ Eb Tryz.func61 IF
def ALa:=Chn.g xL ⟨168,0,0,2,0,none,iA,[(.ret,BW)],A8,[],[]⟩ C8 Tryz.func168 mr
def AQY:=Chn.g ALa ⟨227,0,1,4,0,some (3,168),VD,[(.ret,Jg)],Bv,[(4,[[],[],[],[],[],[],[],[0],[0],[],[],[],[0],[0]]),(6,[[],[],[],[],[],[],[],[],[0],[0],[],[],[0],[0],[0],[1],[0],[1]])],[(0,ANi,kC),(1,ANh,ANg)]⟩ ARc Tryz.func227 ANj
def AMF:=Chn.g AQY ⟨247,0,1,5,0,some (4,168),KL,[(.ret,Jg)],Bv,[(6,[[],[],[],[],[],[],[],[],[],[],[],[],[0],[0],[],[],[],[],[0],[0],[0],[1],[0],[1]]),(5,[[],[],[],[],[],[0],[0],[],[],[],[],[0],[0]]),(3,[[],[],[],[],[],[],[],[],[],[],[0],[0],[],[],[],[],[],[0],[0]])],[(0,AGX,AGW)]⟩ APH Tryz.func247 AGY
def ANz:=Chn.g AMF ⟨228,0,1,4,0,some (3,168),VD,[(.ret,Jg)],Bv,[(10,[[],[],[],[],[],[],[],[],[],[],[0],[0],[],[],[0],[0],[0],[1],[0],[1]])],[(0,AJE,AJC),(1,AJD,AJB)]⟩ APR Tryz.func228 AJF
def ACN:=Chn.g ANz ⟨256,0,2,5,0,some (4,168),ACK,[(.ret,ACJ)],BZ,[(1,[[],[],[],[0],[0],[],[],[0],[0]])],[]⟩ yl Tryz.func256 vG
def ACl:=Chn.g ACN ⟨249,0,2,6,0,some (5,168),ACj,[(.ret,fT)],A8,[],[]⟩ zA Tryz.func249 vW
def ACx:=Chn.g ACl ⟨248,0,2,4,0,some (3,168),ACv,[(.ret,fT)],A8,[],[]⟩ zE Tryz.func248 vb
def AHd:=Chn.g ACx ⟨230,0,1,4,0,some (3,168),VD,[(.ret,AHb)],BZ,[],[]⟩ AHe Tryz.func230 ABj
def APq:=Chn.g AHd ⟨231,0,1,4,0,some (3,168),VD,[(.ret,Jg)],Bv,[(3,[[],[],[],[],[],[],[0],[0],[],[],[0],[0],[0],[1],[0],[1]])],[(0,AMU,kC)]⟩ ARM Tryz.func231 AMV
def ug:=Chn.g APq ⟨232,0,1,4,0,some (3,168),VD,[(.ret,ue)],A8,[(11,[[],[],[],[],[],[],[],[],[0],[0],[],[],[0],[0],[0],[1],[0],[1]]),(5,[[],[],[],[],[],[],[],[0],[0],[],[],[],[0],[0]]),(17,[[],[],[],[],[],[],[],[],[0],[0],[],[],[0],[0],[0],[1],[0],[1]]),(16,[[],[],[],[0],[0],[],[],[],[0],[0]]),(23,[[],[],[],[],[],[],[],[],[0],[0],[],[],[0],[0],[0],[1],[0],[1]]),(22,[[],[],[],[0],[0],[],[],[],[0],[0]])],[(0,Wi,oo),(1,Wi,om),(2,ot,oi),(3,oq,oh)]⟩ ow Tryz.func232 ou
def AB8:=Chn.g ug ⟨233,0,1,5,0,some (4,168),KL,[(.ret,AB6)],A8,[(8,[[],[],[],[],[],[],[0],[0],[],[],[0],[0],[0],[1],[0],[1]]),(3,[[],[],[],[],[],[],[],[0],[0],[],[],[0],[0]]),(5,[[],[],[],[],[],[],[],[0],[0],[],[],[0],[0]]),(1,[[],[],[],[],[],[],[0],[0],[],[],[0],[0],[0],[1],[0],[1]])],[(0,Qe,uy),(1,Qe,ux),(2,Qe,uw)]⟩ yh Tryz.func233 uz
def X4:=Chn.g AB8 ⟨234,0,1,5,0,some (4,168),KL,[(.ret,AM8)],BZ,[(3,[[],[],[],[],[],[],[],[0],[0],[],[],[0],[0]]),(5,[[],[],[],[],[],[],[],[0],[0],[],[],[0],[0]]),(18,[[],[],[],[],[],[],[0],[0],[],[],[0],[0],[0],[1],[0],[1]]),(13,[[],[],[],[],[],[],[],[0],[0],[],[],[0],[0]]),(15,[[],[],[],[],[],[],[],[0],[0],[],[],[0],[0]]),(21,[[],[],[],[],[],[],[0],[0],[],[],[0],[0],[0],[1],[0],[1]]),(10,[[],[],[],[],[],[],[0],[0],[],[],[0],[0],[0],[1],[0],[1]]),(8,[[],[],[],[],[],[],[0],[0],[],[],[0],[0],[0],[1],[0],[1]]),(1,[[],[],[],[],[],[],[0],[0],[],[],[0],[0],[0],[1],[0],[1]])],[(0,Nx,AH8),(1,Nx,AH7),(2,Nx,AH6),(3,Nx,AH5),(4,Nx,AH4)]⟩ APM Tryz.func234 AH9
theorem AF6:Tryz.f159.body.isSome=true:=by kernel_rfl
theorem AF5 : (Tryz.f159.name == "runtime.NumGoroutine") = false := by kernel_rfl
theorem AF4:loops (CN Tryz.f159)=0:=by kernel_rfl
def ck[Lk]:Env:=X4.e.ext 159 false false (CZ Tryz.prog X4.e {} Tryz.f159)
theorem dq:Bp Tryz.prog ck:=Env.Ce X4.h (CD X4.h Tryz.func159 AF6 AF5 AF4) (by simp) (by simp)
def VL:=Chn.g ⟨ck,dq⟩ ⟨68,0,1,2,0,some (1,159),LZ,[(.ret,VK)],A8,[],[(0,Sk,Sj)]⟩ Jk Tryz.func68 Ka
def AQp:=Chn.g VL ⟨124,0,0,1,0,none,AQo,[(.ret,Fj)],A8,[],[(0,AON,zb)]⟩ ends Tryz.func124 zc
def ARW:=Chn.g AQp ⟨60,0,0,1,0,none,aD,[(.ret,BW)],A8,[],[(0,AQP,AQO)]⟩ orI Tryz.func60 jl
def AIf:=Chn.g ARW ⟨36,0,0,1,0,none,BW,[(.ret,BN)],A8,[],[]⟩ aH Tryz.func36 UW
def vk:=Chn.g AIf ⟨38,0,0,2,0,none,aN,[(.ret,BW)],A8,[(1,[[0],[0],[2],[2],[],[0],[0],[2],[2],[],[],[20]])],[]⟩ Fb Tryz.func38 N_
def pj:=Chn.g vk ⟨39,0,0,2,0,none,SS,[(.ret,SR)],A8,[],[(0,AC8,fW)]⟩ UU Tryz.func39 UT
theorem AKN : (Tryz.f154.name == "runtime.NumGoroutine") = false := by kernel_rfl
theorem lY:Hb Tryz.prog Tryz.f154 56 3 (.int .i64) where
 body:=by kernel_rfl
 nt:=by kernel_rfl
 res:=by kernel_rfl
 d:=⟨by kernel_rfl,by kernel_rfl,by kernel_rfl,by kernel_rfl,by kernel_rfl,by kernel_rfl,by kernel_rfl,by kernel_rfl⟩
 g:=⟨by kernel_rfl,by kernel_rfl,by kernel_rfl,by kernel_rfl,by kernel_rfl,by kernel_rfl,by kernel_rfl,by kernel_rfl⟩
 o00:=by kernel_rfl
 o10:=by kernel_rfl
 o11:=by kernel_rfl
 o20:=by kernel_rfl
 o30:=by kernel_rfl
 o31:=by kernel_rfl
 o32:=by kernel_rfl
 o33:=by kernel_rfl
 sl:=by kernel_rfl
 z:=by kernel_rfl
 by1:=by kernel_rfl
def cq[Lk]:Env:=pj.e.ext 154 true true (Eh 3 (.int .i64))
theorem XP:Bp Tryz.prog cq:=Env.Ce pj.h (Od lY Tryz.func154 AKN) (fun _=>CQ _ _) (fun _=>(CQ _ _).AAj)
theorem AOB:Tryz.f33.body.isSome=true:=by kernel_rfl
theorem AOA : (Tryz.f33.name == "runtime.NumGoroutine") = false := by kernel_rfl
theorem AN9:loops (CN Tryz.f33)=0:=by kernel_rfl
def gp[Lk]:Env:=cq.ext 33 false false (CZ Tryz.prog cq {} Tryz.f33)
theorem mb:Bp Tryz.prog gp:=Env.Ce XP (CD XP Tryz.func33 AOB AOA AN9) (by simp) (by simp)
def kM:=Chn.g ⟨gp,mb⟩ ⟨54,0,3,2,0,some (1,33),So,[(.ret,kL)],A8,[],[(0,dS,dR)]⟩ Q3 Tryz.func54 P6
def wD:=Chn.g kM ⟨84,0,0,2,0,none,wC,[(.ret,BW)],A8,[(1,[[0],[0],[2],[2],[],[0],[0],[2],[2],[],[],[20]])],[]⟩ Bj Tryz.func84 OK
def AQc:=Chn.g wD ⟨173,0,1,4,0,some (3,84),VE,[(.ret,Ji)],Bv,[(4,[[],[],[],[],[],[],[],[0],[0],[],[],[],[0],[0]]),(6,[[],[],[],[],[],[],[],[],[0],[0],[],[],[0],[0],[0],[1],[0],[1]])],[(0,ANs,kE),(1,ANr,ANq)]⟩ ARe Tryz.func173 ANt
def AMJ:=Chn.g AQc ⟨203,0,1,5,0,some (4,84),KN,[(.ret,Ji)],Bv,[(6,[[],[],[],[],[],[],[],[],[],[],[],[],[0],[0],[],[],[],[],[0],[0],[0],[1],[0],[1]]),(5,[[],[],[],[],[],[0],[0],[],[],[],[],[0],[0]]),(3,[[],[],[],[],[],[],[],[],[],[],[0],[0],[],[],[],[],[],[0],[0]])],[(0,AGe,AGd)]⟩ APJ Tryz.func203 AGf
def AN3:=Chn.g AMJ ⟨174,0,1,4,0,some (3,84),VE,[(.ret,Ji)],Bv,[(10,[[],[],[],[],[],[],[],[],[],[],[0],[0],[],[],[0],[0],[0],[1],[0],[1]])],[(0,AJP,AJN),(1,AJO,AJM)]⟩ APT Tryz.func174 AJQ
def ACV:=Chn.g AN3 ⟨238,0,2,5,0,some (4,84),ACT,[(.ret,ACS)],BZ,[(1,[[],[],[],[0],[0],[],[],[0],[0]])],[]⟩ yn Tryz.func238 vJ
def ACr:=Chn.g ACV ⟨205,0,2,6,0,some (5,84),ACp,[(.ret,fV)],A8,[],[]⟩ zC Tryz.func205 vZ
def AC3:=Chn.g ACr ⟨204,0,2,4,0,some (3,84),AC1,[(.ret,fV)],A8,[],[]⟩ zG Tryz.func204 ve
def AHl:=Chn.g AC3 ⟨176,0,1,4,0,some (3,84),VE,[(.ret,AHj)],BZ,[],[]⟩ AHm Tryz.func176 ABm
def APu:=Chn.g AHl ⟨177,0,1,4,0,some (3,84),VE,[(.ret,Ji)],Bv,[(3,[[],[],[],[],[],[],[0],[0],[],[],[0],[0],[0],[1],[0],[1]])],[(0,AMZ,kE)]⟩ ARO Tryz.func177 AMa
def um:=Chn.g APu ⟨178,0,1,4,0,some (3,84),VE,[(.ret,uj)],A8,[(11,[[],[],[],[],[],[],[],[],[0],[0],[],[],[0],[0],[0],[1],[0],[1]]),(5,[[],[],[],[],[],[],[],[0],[0],[],[],[],[0],[0]]),(17,[[],[],[],[],[],[],[],[],[0],[0],[],[],[0],[0],[0],[1],[0],[1]]),(16,[[],[],[],[0],[0],[],[],[],[0],[0]]),(23,[[],[],[],[],[],[],[],[],[0],[0],[],[],[0],[0],[0],[1],[0],[1]]),(22,[[],[],[],[0],[0],[],[],[],[0],[0]])],[(0,Wl,pL),(1,Wl,pK),(2,pN,pJ),(3,pM,pI)]⟩ pP Tryz.func178 pO
def ACD:=Chn.g um ⟨179,0,1,5,0,some (4,84),KN,[(.ret,ACB)],A8,[(8,[[],[],[],[],[],[],[0],[0],[],[],[0],[0],[0],[1],[0],[1]]),(3,[[],[],[],[],[],[],[],[0],[0],[],[],[0],[0]]),(5,[[],[],[],[],[],[],[],[0],[0],[],[],[0],[0]]),(1,[[],[],[],[],[],[],[0],[0],[],[],[0],[0],[0],[1],[0],[1]])],[(0,Qj,vD),(1,Qj,vC),(2,Qj,vB)]⟩ yj Tryz.func179 vE
def ANF:=Chn.g ACD ⟨180,0,1,5,0,some (4,84),KN,[(.ret,AND)],BZ,[(3,[[],[],[],[],[],[],[],[0],[0],[],[],[0],[0]]),(5,[[],[],[],[],[],[],[],[0],[0],[],[],[0],[0]]),(18,[[],[],[],[],[],[],[0],[0],[],[],[0],[0],[0],[1],[0],[1]]),(13,[[],[],[],[],[],[],[],[0],[0],[],[],[0],[0]]),(15,[[],[],[],[],[],[],[],[0],[0],[],[],[0],[0]]),(21,[[],[],[],[],[],[],[0],[0],[],[],[0],[0],[0],[1],[0],[1]]),(10,[[],[],[],[],[],[],[0],[0],[],[],[0],[0],[0],[1],[0],[1]]),(8,[[],[],[],[],[],[],[0],[0],[],[],[0],[0],[0],[1],[0],[1]]),(1,[[],[],[],[],[],[],[0],[0],[],[],[0],[0],[0],[1],[0],[1]])],[(0,N0,AIM),(1,N0,AIL),(2,N0,AIK),(3,N0,AIJ),(4,N0,AII)]⟩ APO Tryz.func180 AIN
def ALb:=Chn.g ANF ⟨100,0,0,1,0,none,BW,[(.ret,BN)],A8,[],[]⟩ YZ Tryz.func100 mu
def Rd:=Chn.g ALb ⟨67,0,0,1,0,none,BW,[(.ret,BN)],A8,[],[]⟩ hY Tryz.func67 dy
theorem AAJ:Tryz.f99.body.isSome=true:=by kernel_rfl
theorem AAI : (Tryz.f99.name == "runtime.NumGoroutine") = false := by kernel_rfl
theorem AAH:loops (CN Tryz.f99)=0:=by kernel_rfl
theorem AAG:Tryz.f102.body.isSome=true:=by kernel_rfl
theorem AAF : (Tryz.f102.name == "runtime.NumGoroutine") = false := by kernel_rfl
theorem AAE:loops (CN Tryz.f102)=0:=by kernel_rfl
def XM[Lk]:Env:=Rd.e.ext 99 false false (CZ Tryz.prog Rd.e {} Tryz.f99)
theorem cg:Bp Tryz.prog XM:=Env.Ce Rd.h (CD Rd.h Tryz.func99 AAJ AAI AAH) (by simp) (by simp)
def kK:=Chn.g ⟨XM,cg⟩ ⟨54,0,0,2,0,some (1,99),Sn,[(.ret,BW)],A8,[],[(0,dQ,HL)]⟩ Q2 Tryz.func54 P2
def Hm:=Chn.g kK ⟨101,0,0,2,0,some (1,99),Sn,[(.ret,BN)],A8,[],[]⟩ GJ Tryz.func101 OY
def XL[Lk]:Env:=Hm.e.ext 102 false false (CZ Tryz.prog Hm.e {} Tryz.f102)
theorem cf:Bp Tryz.prog XL:=Env.Ce Hm.h (CD Hm.h Tryz.func102 AAG AAF AAE) (by simp) (by simp)
def kN:=Chn.g ⟨XL,cf⟩ ⟨131,0,0,2,0,some (1,102),Sp,[(.ret,BW)],A8,[],[(0,dT,HL)]⟩ Q4 Tryz.func131 P7
def da:=Chn.g kN ⟨103,0,0,2,0,some (1,102),Sp,[(.ret,BN)],A8,[],[]⟩ Ki Tryz.func103 OZ
def AFV:=Chn.g da ⟨69,0,0,1,0,none,mj,[(.ret,BN)],A8,[],[]⟩ hJ Tryz.func69 dv
def AK5:=Chn.g AFV ⟨104,0,0,1,0,none,AK4,[(.ret,Fj)],A8,[],[]⟩ mU Tryz.func104 gj
def AOx:=Chn.g AK5 ⟨70,0,0,1,0,none,mj,[(.ret,Fj)],A8,[],[(0,AK1,AKz),(1,AK0,AKy)]⟩ zv Tryz.func70 rn
def AOT:=Chn.g AOx ⟨132,0,0,1,0,none,BW,[(.ret,BN)],A8,[],[]⟩ qq Tryz.func132 qp
def AQs:=Chn.g AOT ⟨105,0,0,1,0,none,AJ3,[(.ret,AQr)],BZ,[],[]⟩ AOS Tryz.func105 zg
def AOV:=Chn.g AQs ⟨107,0,0,1,0,none,lK,[(.ret,AJ3)],A8,[],[]⟩ zh Tryz.func107 qt
def AEG:=Chn.g AOV ⟨172,0,0,1,0,none,gP,[(.ret,AEF)],A8,[],[(0,wu,wq)]⟩ YL Tryz.func172 bX
def ABO:=Chn.g AEG ⟨197,0,0,1,0,none,BW,[(.ret,BW)],A8,[],[]⟩ PB Tryz.func197 QV
def AGu:=Chn.g ABO ⟨254,0,0,2,0,none,Nb,[(.ret,BN)],A8,[],[]⟩ jE Tryz.func254 ez
def AHA:=Chn.g AGu ⟨237,0,0,3,0,none,AG9,[(.ret,lK)],A8,[],[]⟩ UD Tryz.func237 fG
def AMQ:=Chn.g AHA ⟨200,0,0,2,0,none,OD,[(.ret,BN)],A8,[],[(0,AG3,AG2)]⟩ yN Tryz.func200 n6
def ARQ:=Chn.g AMQ ⟨199,0,0,4,0,none,ARP,[(.ret,Fj)],A8,[(10,[[],[],[],[0],[0],[],[],[0],[0],[],[0],[1]])],[(0,AP1,APy),(1,AP0,APx),(2,APz,APw)]⟩ rby Tryz.func199 AHC
def nG:=Chn.g ARQ ⟨181,0,0,2,0,none,Nb,[(.ret,BN)],A8,[],[]⟩ K9 Tryz.func181 Ru
def AAp:=Chn.g nG ⟨206,0,0,1,0,none,AAo,[(.ret,BN)],A8,[],[(0,sY,Yu)]⟩ Rp Tryz.func206 Yv
def AAn:=Chn.g AAp ⟨239,0,0,2,0,none,K8,[(.ret,BW)],A8,[],[]⟩ O6 Tryz.func239 Yt
def AAm:=Chn.g AAn ⟨240,0,0,1,0,none,AAl,[(.ret,BW)],A8,[],[]⟩ MB Tryz.func240 Ys
def AAq:=Chn.g AAm ⟨209,0,0,2,0,none,K8,[(.ret,BN)],A8,[(1,[[0],[],[],[],[],[0],[0],[],[],[],[],[0],[0]])],[]⟩ Rq Tryz.func209 Yx
def eR:=Chn.g AAq ⟨135,0,0,2,0,none,Nb,[(.ret,AAs)],AAr,[],[]⟩ Xq Tryz.func135 Yy
theorem AEk : (Tryz.f241.name == "runtime.NumGoroutine") = false := by kernel_rfl
theorem de:Hb Tryz.prog Tryz.f241 153 214 (.prod (.int .i64) (.prod (.int .i64) (.prod (.int .i64) (.prod (.int .i64) .unit)))) where
 body:=by kernel_rfl
 nt:=by kernel_rfl
 res:=by kernel_rfl
 d:=⟨by kernel_rfl,by kernel_rfl,by kernel_rfl,by kernel_rfl,by kernel_rfl,by kernel_rfl,by kernel_rfl,by kernel_rfl⟩
 g:=⟨by kernel_rfl,by kernel_rfl,by kernel_rfl,by kernel_rfl,by kernel_rfl,by kernel_rfl,by kernel_rfl,by kernel_rfl⟩
 o00:=by kernel_rfl
 o10:=by kernel_rfl
 o11:=by kernel_rfl
 o20:=by kernel_rfl
 o30:=by kernel_rfl
 o31:=by kernel_rfl
 o32:=by kernel_rfl
 o33:=by kernel_rfl
 sl:=by kernel_rfl
 z:=by kernel_rfl
 by1:=by kernel_rfl
def gq[Lk]:Env:=eR.e.ext 241 true true (Eh 214 (.prod (.int .i64) (.prod (.int .i64) (.prod (.int .i64) (.prod (.int .i64) .unit)))))
theorem mc:Bp Tryz.prog gq:=Env.Ce eR.h (Od de Tryz.func241 AEk) (fun _=>CQ _ _) (fun _=>(CQ _ _).AAj)
theorem AKO : (Tryz.f242.name == "runtime.NumGoroutine") = false := by kernel_rfl
theorem lZ:Hb Tryz.prog Tryz.f242 140 4 .bool where
 body:=by kernel_rfl
 nt:=by kernel_rfl
 res:=by kernel_rfl
 d:=⟨by kernel_rfl,by kernel_rfl,by kernel_rfl,by kernel_rfl,by kernel_rfl,by kernel_rfl,by kernel_rfl,by kernel_rfl⟩
 g:=⟨by kernel_rfl,by kernel_rfl,by kernel_rfl,by kernel_rfl,by kernel_rfl,by kernel_rfl,by kernel_rfl,by kernel_rfl⟩
 o00:=by kernel_rfl
 o10:=by kernel_rfl
 o11:=by kernel_rfl
 o20:=by kernel_rfl
 o30:=by kernel_rfl
 o31:=by kernel_rfl
 o32:=by kernel_rfl
 o33:=by kernel_rfl
 sl:=by kernel_rfl
 z:=by kernel_rfl
 by1:=by kernel_rfl
def sN[Lk]:Env:=gq.ext 242 true true (Eh 4 .bool)
theorem sM:Bp Tryz.prog sN:=Env.Ce mc (Od lZ Tryz.func242 AKO) (fun _=>CQ _ _) (fun _=>(CQ _ _).AAj)
theorem AKM : (Tryz.f183.name == "runtime.NumGoroutine") = false := by kernel_rfl
theorem lX:Hb Tryz.prog Tryz.f183 99 56 (.slice (.int .i64)) where
 body:=by kernel_rfl
 nt:=by kernel_rfl
 res:=by kernel_rfl
 d:=⟨by kernel_rfl,by kernel_rfl,by kernel_rfl,by kernel_rfl,by kernel_rfl,by kernel_rfl,by kernel_rfl,by kernel_rfl⟩
 g:=⟨by kernel_rfl,by kernel_rfl,by kernel_rfl,by kernel_rfl,by kernel_rfl,by kernel_rfl,by kernel_rfl,by kernel_rfl⟩
 o00:=by kernel_rfl
 o10:=by kernel_rfl
 o11:=by kernel_rfl
 o20:=by kernel_rfl
 o30:=by kernel_rfl
 o31:=by kernel_rfl
 o32:=by kernel_rfl
 o33:=by kernel_rfl
 sl:=by kernel_rfl
 z:=by kernel_rfl
 by1:=by kernel_rfl
def sL[Lk]:Env:=sN.ext 183 true true (Eh 56 (.slice (.int .i64)))
theorem sK:Bp Tryz.prog sL:=Env.Ce sM (Od lX Tryz.func183 AKM) (fun _=>CQ _ _) (fun _=>(CQ _ _).AAj)
theorem AOf : (Tryz.f211.name == "runtime.NumGoroutine") = false := by kernel_rfl
theorem rI:gz Tryz.prog Tryz.f211 56 3 1 where
 body:=by kernel_rfl
 nt:=by kernel_rfl
 res:=by kernel_rfl
 d:=⟨by kernel_rfl,by kernel_rfl,by kernel_rfl,by kernel_rfl,by kernel_rfl,by kernel_rfl,by kernel_rfl,by kernel_rfl⟩
 g:=⟨by kernel_rfl,by kernel_rfl,by kernel_rfl,by kernel_rfl,by kernel_rfl,by kernel_rfl,by kernel_rfl,by kernel_rfl⟩
 o00:=by kernel_rfl
 o10:=by kernel_rfl
 o11:=by kernel_rfl
 o12:=by kernel_rfl
 o13:=by kernel_rfl
 o14:=by kernel_rfl
 o15:=by kernel_rfl
 o16:=by kernel_rfl
 sl:=by kernel_rfl
 sz:=by kernel_rfl
def AAA[Lk]:Env:=sL.ext 211 true true (Of 1)
theorem xn:Bp Tryz.prog AAA:=Env.Ce sK (AOe rI Tryz.func211 AOf) (fun _=>Oe _) (fun _=>(Oe _).AAj)
def AFy:=Chn.g ⟨AAA,xn⟩ ⟨210,0,0,2,0,none,K8,[(.ret,AFx)],AFw,[(11,[[0],[0],[],[12],[12],[],[],[],[],[12],[12],[],[],[],[31,38],[0],[1]]),(10,[[12],[12],[12]]),(6,[[12],[],[0],[0],[],[],[12],[12]])],[]⟩ iT Tryz.func210 eQ
def sd:=Chn.g AFy ⟨243,0,1,2,0,none,sc,[(.ret,sb)],A8,[],[(0,nF,nE)]⟩ Rr Tryz.func243 WW
def APi:=Chn.g sd ⟨212,0,0,2,0,none,K8,[(.ret,APh)],AF0,[(12,[[0],[0],[0],[8],[8],[1000005,3],[7]]),(7,[[0],[0],[],[0],[0],[],[0],[1],[0],[1]]),(5,[[12],[],[0],[0],[],[],[12],[12],[],[],[],[0],[0],[12],[12]])],[(0,ALs,ALr)]⟩ ALt Tryz.func212 yB
def xY:=Chn.g APi ⟨207,0,0,1,0,none,BW,[(.ret,BN)],A8,[],[]⟩ Oj Tryz.func207 XE
def AKP:=Chn.g xY ⟨208,0,0,2,0,none,K8,[(.ret,BN)],A8,[(1,[[],[],[],[],[0],[0],[],[],[],[],[0],[0],[],[],[],[],[],[],[],[0],[],[],[],[0],[0],[0],[0]])],[]⟩ l7 Tryz.func208 gY
def AKE:=Chn.g AKP ⟨182,0,0,1,0,none,qz,[(.ret,BN)],A8,[],[(0,AEX,Yu),(1,AEW,AEV)]⟩ lP Tryz.func182 gR
def AKa:=Chn.g AKE ⟨109,0,0,3,1,none,AF8,[(.ret,AKZ)],AKY,[],[]⟩ mF Tryz.func109 gb
def AOg:=Chn.g AKa ⟨137,0,0,1,0,none,qz,[(.ret,BW)],A8,[],[(0,AKQ,rV)]⟩ zp Tryz.func137 rW
def AEh:=Chn.g AOg ⟨184,0,2,2,0,none,gW,[(.ret,gV)],A8,[],[]⟩ TJ Tryz.func184 bz
def AKV:=Chn.g AEh ⟨185,0,2,3,0,none,AKU,[(.ret,AKT)],A8,[(9,[[],[0],[0],[0],[0],[],[],[],[2],[3]]),(6,[[],[0],[0],[0],[0],[],[],[],[],[],[2],[3]]),(1,[[],[0],[0],[0],[0],[],[2],[2],[],[0],[0],[0],[0],[],[2],[2]])],[]⟩ mD Tryz.func185 ga
def ARk:=Chn.g AKV ⟨186,0,2,2,0,none,gW,[(.ret,gV)],A8,[(9,[[],[],[0],[0],[0],[0],[],[0],[0],[0],[0],[],[],[],[],[],[0],[0],[0],[1]]),(6,[[],[0],[0],[0],[0],[],[],[0],[0],[0],[0],[],[2],[2],[],[],[],[],[28],[2],[3,30]]),(3,[[],[],[0],[0],[0],[0],[],[0],[0],[0],[0],[],[],[],[],[],[],[0],[0],[0],[1]]),(1,[[],[0],[0],[0],[0],[],[0],[0],[0],[0]])],[]⟩ cgo Tryz.func186 AKR
def AOb:=Chn.g ARk ⟨136,0,0,3,0,none,AOa,[(.ret,AOZ)],AOY,[(18,[[],[14],[14],[14],[],[14],[14],[14],[3],[5]]),(14,[[],[14],[14],[14],[],[14],[14],[14],[3],[5]])],[]⟩ zk Tryz.func136 qw
def AOP:=Chn.g AOb ⟨110,0,1,3,0,none,AOO,[(.ret,ze)],A8,[(3,[[],[],[12],[],[0],[0],[0],[14],[],[3,16],[0],[0],[1],[0],[0],[1]])],[]⟩ qk Tryz.func110 qj
def AD7:=Chn.g AOP ⟨111,0,1,1,0,none,AD6,[(.ret,ze)],A8,[],[(0,wZ,wX),(1,wY,wW)]⟩ YI Tryz.func111 bS
def AJ0:=Chn.g AD7 ⟨76,0,0,4,0,none,AJz,[(.ret,AJy)],Ea,[(11,[[],[2],[2],[2],[],[2],[2],[2],[],[1]]),(14,[[],[2],[2],[2],[],[2],[2],[2],[],[1]])],[(0,AD4,AD3)]⟩ VW Tryz.func76 gL
def AEC:=Chn.g AJ0 ⟨77,0,0,2,0,none,AEB,[(.ret,AEA)],A8,[],[(0,wj,wi)]⟩ YK Tryz.func77 bW
def AJf:=Chn.g AEC ⟨75,0,0,1,0,none,AJe,[(.ret,BN)],A8,[],[]⟩ kZ Tryz.func75 fv
def AJh:=Chn.g AJf ⟨50,0,0,2,0,none,AJg,[(.ret,E0)],Ea,[],[(0,ADr,ADp),(1,ADq,ADo)]⟩ C4 Tryz.func50 PS
def AGG:=Chn.g AJh ⟨250,0,0,1,0,none,BW,[(.ret,BN)],A8,[],[]⟩ Y5 Tryz.func250 eY
def ABA:=Chn.g AGG ⟨251,0,0,2,0,none,Nb,[(.ret,BW)],A8,[],[]⟩ Xx Tryz.func251 ZF
def Xt:=Chn.g ABA ⟨253,0,0,3,0,none,ALy,[(.ret,gP)],A8,[],[]⟩ nM Tryz.func253 nL
theorem AGF:Tryz.f236.body.isSome=true:=by kernel_rfl
theorem AGE : (Tryz.f236.name == "runtime.NumGoroutine") = false := by kernel_rfl
theorem AGD:loops (CN Tryz.f236)=0:=by kernel_rfl
def cn[Lk]:Env:=Xt.e.ext 236 false false (CZ Tryz.prog Xt.e {} Tryz.f236)
theorem dt:Bp Tryz.prog cn:=Env.Ce Xt.h (CD Xt.h Tryz.func236 AGF AGE AGD) (by simp) (by simp)
def AGr:=Chn.g ⟨cn,dt⟩ ⟨252,0,0,2,0,some (1,236),AGq,[(.ret,AGp)],BZ,[],[(0,ABI,ABH)]⟩ T9 Tryz.func252 ew
def AAx:=Chn.g AGr ⟨235,0,0,4,0,some (3,236),AAw,[(.ret,eZ)],Rk,[],[(0,tB,s8),(1,tA,s7),(2,s9,sw)]⟩ Rw Tryz.func235 QL
def ALw:=Chn.g AAx ⟨198,0,0,3,0,none,yF,[(.ret,eZ)],Rk,[],[]⟩ eX Tryz.func198 Y3
def AHU:=Chn.g ALw ⟨202,0,0,2,0,none,AHT,[(.ret,AHS)],A8,[],[(0,ABd,ABc)]⟩ jT Tryz.func202 fL
def ABb:=Chn.g AHU ⟨201,0,0,3,0,none,yF,[(.ret,E0)],Ea,[],[(0,uC,uB)]⟩ X2 Tryz.func201 Zk
def AHI:=Chn.g ABb ⟨171,0,0,3,0,none,AHH,[(.ret,E0)],Ea,[(1,[[],[],[],[0],[2]])],[]⟩ jQ Tryz.func171 fH
def AMP:=Chn.g AHI ⟨169,0,0,4,0,none,AMO,[(.ret,E0)],Ea,[],[(0,AGy,AGw),(1,AGx,AGv)]⟩ fB Tryz.func169 ZT
def ABL:=Chn.g AMP ⟨170,0,0,2,0,none,ABK,[(.ret,ABJ)],BZ,[],[(0,tX,tW)]⟩ R5 Tryz.func170 ZS
def AEE:=Chn.g ABL ⟨133,0,0,2,0,none,gN,[(.ret,AED)],Rk,[(5,[[],[10],[0],[0],[0],[0],[18]])],[(0,wo,wm)]⟩ S9 Tryz.func133 RE
def AOR:=Chn.g AEE ⟨106,0,0,2,0,none,gN,[(.ret,AOQ)],Ea,[],[]⟩ bV Tryz.func106 bU
def TA:=Chn.g AOR ⟨72,0,0,2,0,none,AJ8,[(.ret,AJ7)],Ea,[],[(0,AEM,AEK),(1,AEL,AEJ)]⟩ ba Tryz.func72 Vo
theorem AFO:Tryz.f71.body.isSome=true:=by kernel_rfl
theorem AFN : (Tryz.f71.name == "runtime.NumGoroutine") = false := by kernel_rfl
theorem AFM:loops (CN Tryz.f71)=0:=by kernel_rfl
def XQ[Lk]:Env:=TA.e.ext 71 false false (CZ Tryz.prog TA.e {} Tryz.f71)
theorem ct:Bp Tryz.prog XQ:=Env.Ce TA.h (CD TA.h Tryz.func71 AFO AFN AFM) (by simp) (by simp)
def kJ:=Chn.g ⟨XQ,ct⟩ ⟨68,0,1,2,0,some (1,71),Sm,[(.ret,kI)],A8,[],[(0,dP,dO)]⟩ Q1 Tryz.func68 P1
def AGi:=Chn.g kJ ⟨139,0,0,2,0,none,R4,[(.ret,BW)],A8,[],[(0,ABB,HL)]⟩ ZI Tryz.func139 ei
def AGo:=Chn.g AGi ⟨113,0,0,1,0,none,BW,[(.ret,Fj)],A8,[],[(0,ABG,zb)]⟩ ZN Tryz.func113 ep
def AGQ:=Chn.g AGo ⟨151,0,1,2,0,none,Ni,[(.ret,nU)],A8,[],[(0,AA2,AA1)]⟩ T2 Tryz.func151 ec
def AMB:=Chn.g AGQ ⟨142,0,1,3,0,none,E0,[(.ret,yK)],A8,[],[]⟩ nV Tryz.func142 Y_
def wU:=Chn.g AMB ⟨141,0,1,2,0,some (1,142),wT,[(.ret,bQ)],A8,[],[(0,qi,qh)]⟩ OT Tryz.func141 OS
def AGS:=Chn.g wU ⟨114,0,1,2,0,none,AGR,[(.ret,bQ)],A8,[],[]⟩ T4 Tryz.func114 T3
def ZD:=Chn.g AGS ⟨116,0,0,2,0,none,R4,[(.ret,Ni)],BZ,[],[(0,nd,nb)]⟩ R2 Tryz.func116 Wb
end
end Go.Pev
end
