/- A part of the proofs of this seat: PevCall2 PevCall3 PevCall4 PevTop PevClone GTM1 GTM2 GTM3 GTM4 PevTake PevPanC PevDefer PevThin PevClip PevRaw PevRow GTP1 GTP2. -/
import Derived.Test.YtjjffiklblcdcaaGreatDoorPdc264eb6ce
import Derived.Laws.Sem
import Derived.KernelRfl
import Derived.Lib.SliceRun
import Derived.Recover
import Derived.Test.YtjjffiklblcdcaaGreatDoorProg
set_option linter.unusedVariables false
set_option linter.unusedSimpArgs false
set_option linter.unusedSectionVars false
set_option maxRecDepth 100000
section
namespace Go.Pev
open Go.RowKit
noncomputable section
theorem dM{H:List Ob}{fz:List Bool}{i:Nat}{o:Ob}(h:H[i]? = some o)(a:alive o)(b:fz.getD i false=false):owned H fz i:=by
 simp only[owned,Cs];rw[h];cases o with
  |free=>exact a.elim
  |dead=>exact a.elim
  |box cs=>trivial
  |arr T t xs=>exact b
  |map k v c=>trivial
  |prs T t d=>trivial
  |rows T e t xs ver out=>exact b
theorem xG{o:Ob}(h:alive o):o≠.free/\o≠.dead:=by constructor<;>rintro rfl<;>exact h
theorem Nj{H:List Ob}{fz:List Bool}{ids:List Nat}{i:Ix}(h:owned H (BN ids fz) i):owned H fz i:=R4 h
theorem gZ{o a:Ob}{ids:List Nat}(h:sameShape o a):sameShape o (Eo ids a):=by cases o<;>cases a<;>simp only[sameShape,Eo]at *<;>exact h
theorem Xq{i:Nat}:∀ {a:List Bnd},i∈given a↔∃ j:Nat,a[j]? = some (.whole i):=by
 intro a;induction a with
  |nil=>simp[given]
  |cons b a c=>
   have step:(∃ j:Nat,(b::a)[j]? = some (.whole i))↔b = .whole i\/∃ j:Nat,a[j]? = some (.whole i):=by constructor;grind;rintro (h|⟨j,d⟩);exact⟨0,by grind⟩;exact⟨j+1,by grind⟩
   rw[step];cases b with
    |whole id=>simp only[given,AbD,c,Bnd.whole.injEq];grind
    |none=>simp[given,c]
    |cut id=>simp[given,c]
theorem Yb(a b:List (Nat×Ob)):∀ H,Bq (a++b) H=Bq b (Bq a H):=by
 induction a with
  |nil=>intro H;rfl
  |cons p a c=>intro H;obtain⟨i,o⟩:=p;simp only[AbO,Bq];grind
def EM(a:List Nat)(H:List Ob):List Ob:=Bq (a.map fun i=>(i,.dead)) H
theorem dp{a:List Nat}{i:Nat}{H:List Ob}(h:i∉a):(EM a H)[i]? = H[i]? :=
 Cb _ _ fun p b=>by grind
theorem AI3:∀ {b:List Nat} {i:Nat} {H:List Ob},i∈b->i<H.length->(EM b H)[i]? = some .dead:=by
 intro b;induction b with
  |nil=>simp
  |cons a b d=>intro i H h e;by_cases c:i∈b;exact d (H:=H.set a .dead) c (by grind);have:(EM b (H.set a .dead))[i]? = (H.set a .dead)[i]? := dp c;rcases AbD.1 h with rfl|h;show(EM b (H.set i .dead))[i]? = _;grind;grind
theorem dq(a:List Nat)(H:List Ob):(EM a H).length=H.length:=Ya ..
section
variable {w w':World} {F F2 F3 FR:Nat->Prop} {m m3:Mp} {H H1:List Ob} {fz fz1 fzR:List Bool} {bs:List Bnd} {ids fr:List Nat} {np:Nat}
theorem AKW(hiC:HI w F m H fz)(gA:BU w F m H fz w F2 m H (BN fr fz))
  (O:∀ (j id:Nat),bs[j]? = some (.whole id)->owned H (BN fr fz) id)
  (inj:∀ (i j id:Nat),bs[i]? = some (.whole id)->bs[j]? = some (.whole id)->i=j)
  (pin:∀ (j id:Nat),(bs.take np)[j]? = some (.whole id)->∃ o d,H[id]? = some o/\alive o/\H1[j]? = some d/\sameShape o d/\m3 j=m id)
  (blk:∀ (j b c:Nat),owned H1 fz1 j->m3 j=some (b,c)->(∃ id c':Nat,(bs.take np)[j]? = some (.whole id)/\m id=some (b,c'))\/(∃ k id c':Nat,np<=k/\bs[k]? = some (.whole id)/\m id=some (b,c'))\/w.heap.size<=b)
  (os:w'.os=w.os) (tape:w'.tape=w.tape) (output:w'.output=w.output) (size:w.heap.size<=w'.heap.size)
  (keep:∀ b,b<w.heap.size->(∀ (j id:Nat) (c:Nat),bs[j]? = some (.whole id)->m id≠some (b,c))->w'.heap[b]? = w.heap[b]?)
  (sub:∀ b,F2 b->F3 b) (bnd:∀ b,F3 b->F2 b\/(∃ (j id c:Nat),bs[j]? = some (.whole id)/\m id=some (b,c))\/w.heap.size<=b)
  (hi1:HI w' F3 m3 H1 fz1) (al1:∀ (j:Nat) (o:Ob),H1[j]? = some o->alive o) (pl1:∀ (j:Nat) (o:Ob),H1[j]? = some o->CK o=true) (fr1:∀ j,fz1.getD j false=false)
  (hlen:ids.length=H1.length) (hok:Gq H fzR ids (bs.take np)=true) (hnd:Fc ids=true)
  (hR:(FR=F/\fzR=fz/\H1.all Pv=true)\/(FR=F3/\fzR=BN fr fz)) :
  BU w F m H fz w' FR (mOf ids m3 m) (Bq (ids.zip (H1.map (Eo ids))) (EM (given (bs.drop np)) H)) fzR/\xM ids H1 (Bq (ids.zip (H1.map (Eo ids))) (EM (given (bs.drop np)) H)) m3 (mOf ids m3 m):=by
 have hiR:∃ FB,HI w FB m H fzR/\(∀ b,F b->FB b)/\(∀ b,FB b->FR b)/\(∀ b,FB b->F2 b):=by
  rcases hR with⟨G,W,_⟩|⟨G,W⟩
  exact⟨F,by grind,fun _ h=>h,fun _ h=>by grind,gA.1.sub⟩;exact⟨F2,by rw[W];exact gA.2,gA.1.sub,fun b h=>by grind,fun _ h=>h⟩
 obtain⟨FB,P,X,U,hB2⟩:=hiR;have ownR:∀ {i},owned H fzR i->owned H fz i:=by
  intro i h;rcases hR with⟨_,W,_⟩|⟨_,W⟩
  grind;rw[W]at h;exact Nj h
 have pinR:∀ {id},owned H (BN fr fz) id->owned H fzR id:=by
  intro id h;rcases hR with⟨_,W,_⟩|⟨_,W⟩
  rw[W];exact Nj h;grind
 have FR3:∀ b,FR b->F3 b:=by grind
 have tk:∀ {j id:Nat},(bs.take np)[j]? = some (.whole id)->j<np/\bs[j]? = some (.whole id):=by grind
 have tk':∀ {j id:Nat},j<np->bs[j]? = some (.whole id)->(bs.take np)[j]? = some (.whole id):=by grind
 have gvI:∀ {i:Nat},i∈given (bs.drop np)->∃ k,np<=k/\bs[k]? = some (.whole i):=by intro i h;obtain⟨j,f⟩:=Xq.1 h;grind
 have gvO:∀ {i k:Nat},np<=k->bs[k]? = some (.whole i)->i∈given (bs.drop np):=by intro i k hk h;refine Xq.2 ⟨k-np,?_⟩;grind
 have S:∀ {j i:Nat},ids[j]? = some i->(∃ o,H[i]? = some o)/\((bs.take np)[j]? = some (.whole i)\/((∀ (id:Nat),(bs.take np)[j]?≠some (.whole id))/\H[i]? = some .free/\fzR.getD i false=false)):=by
  intro j i f;rcases kQ hok f with h|⟨M,N⟩
  grind;obtain⟨h3,h4⟩:=CF N;grind
 have gvN:∀ {i:Nat},i∈ids->i∉given (bs.drop np):=by
  intro i hi g;obtain⟨j,f⟩:=Acn hi;obtain⟨k,hk,u⟩:=gvI g;rcases(S f).2 with h|⟨_,h,_⟩
  grind;obtain⟨o,M,N,_⟩:=GJ (O k i u);grind
 have hunf:∀ {j i:Nat},ids[j]? = some i->∀ {d:Ob},H1[j]? = some d->∀ {T:TypeId} {t:Ty} {xs:List t.den},d = .arr T t xs->fzR.getD i false=false:=by
  intro j i f d a T t xs V;rcases(S f).2 with h|⟨_,_,h⟩
  obtain⟨o,o2,n,_,Y,hs,_⟩:=pin j i h;rw[a]at Y;cases Y;subst V;have N:=pinR (O j i (tk h).2);simp only[owned,Cs]at N;rw[n]at N;cases o<;>simp only[sameShape]at hs;exact N;omega
 have hwhole:∀ {j id:Nat},(bs.take np)[j]? = some (.whole id)->ids[j]? = some id:=by
  intro j id u;obtain⟨o,d,_,_,a,_⟩:=pin j id u;have hl:=BW a;rw[<- hlen]at hl;have g:ids[j]? = some ids[j]:=Aaz hl;rcases kQ hok g with h|⟨h,_⟩
  all_goals grind
 have hgv:∀ {i:Nat},i∈given (bs.drop np)->(EM (given (bs.drop np)) H)[i]? = some .dead:=by intro i hi;obtain⟨k,_,u⟩:=gvI hi;obtain⟨o,n,_⟩:=GJ (O k i u);exact AI3 hi (BW n)
 have y:∀ {j i:Nat} {d:Ob},ids[j]? = some i->H1[j]? = some d->(Bq (ids.zip (H1.map (Eo ids))) (EM (given (bs.drop np)) H))[i]? = some (Eo ids d):=by intro j i d f a;obtain⟨⟨o,n⟩,_⟩:=S f;exact sS ids _ _ j hnd f (by grind) (by rw[dq];grind)
 have Z:∀ {i:Nat},i∉ids->(Bq (ids.zip (H1.map (Eo ids))) (EM (given (bs.drop np)) H))[i]? = (EM (given (bs.drop np)) H)[i]? := by intro i hi;exact Cb _ _ fun p hp=>by rintro rfl;exact hi (List.of_mem_zip hp).1
 have q:∀ {i:Nat},i∉ids->i∉given (bs.drop np)->(Bq (ids.zip (H1.map (Eo ids))) (EM (given (bs.drop np)) H))[i]? = H[i]? := by intro i hi g;rw[Z hi,dp g]
 have getGv:∀ {i:Nat},i∈given (bs.drop np)->(Bq (ids.zip (H1.map (Eo ids))) (EM (given (bs.drop np)) H))[i]? = some .dead:=by grind
 have mIn:∀ {j i:Nat},ids[j]? = some i->mOf ids m3 m i=m3 j:=by intro j i f;simp only[mOf];rw[AJf hnd f]
 have A:∀ {x:Ix},x.id∉ids->mOf ids m3 m x=m x:=by
  intro x hi;cases x with
   |r i k=>rfl
   |o i=>
    simp only[mOf];cases hf:Lo ids i with
     |none=>rfl
     |some j=>exact absurd (Aay (Y1 hf)) hi
 have z:∀ i:Nat,(∃ j:Nat,ids[j]? = some i)\/i∈given (bs.drop np)\/(i∉ids/\i∉given (bs.drop np)):=by intro i;by_cases h:i∈ids;obtain⟨j,f⟩:=Acn h;grind;grind
 have notGv:∀ {i:Ix},i.id∈given (bs.drop np)->¬ owned (Bq (ids.zip (H1.map (Eo ids))) (EM (given (bs.drop np)) H)) fzR i:=by intro i g n;obtain⟨o,M,_,h3⟩:=EK n;grind
 have I:∀ {j i:Nat},ids[j]? = some i->∃ d,H1[j]? = some d:=by grind
 have plR:∀ {d:Ob},CK d=true->CK (Eo ids d)=true:=by intro d h;cases d<;>first|exact h|rfl
 have cls:∀ x:Ix,owned (Bq (ids.zip (H1.map (Eo ids))) (EM (given (bs.drop np)) H)) fzR x->(∃ i j:Nat,∃ d,x = .o i/\ids[j]? = some i/\H1[j]? = some d)\/(x.id∉ids/\x.id∉given (bs.drop np)):=by
  intro x hx;rcases z x.id with⟨j,f⟩|g|h;obtain⟨d,a⟩:=I f;cases x with
   |o i=>exact .inl ⟨i,j,d,rfl,f,a⟩
   |r i k=>exact absurd hx (GG (y f a) (plR (pl1 j d a)))
  all_goals grind
 have J:∀ {j:Nat} {d:Ob},H1[j]? = some d->owned H1 fz1 j:=fun h=>dM h (al1 _ _ h) (fr1 _);have blkNe:∀ {i b c:Nat},i∉ids->i∉given (bs.drop np)->(∃ o,H[i]? = some o/\o≠.free/\o≠.dead)->m i=some (b,c)->∀ {j id c':Nat},bs[j]? = some (.whole id)->m id≠some (b,c'):=by
  intro i b c hi g ⟨o,n,M,N⟩ K j id c' u V;have hp:=O j id u;have hne:i≠id:=by grind
  exact gA.2.ne hp V n M N K hne rfl
 have Q:DT H (Bq (ids.zip (H1.map (Eo ids))) (EM (given (bs.drop np)) H)) m (mOf ids m3 m):=by
  intro i o n hf;rcases z i with⟨j,f⟩|g|⟨hi,g⟩
  rcases(S f).2 with h|⟨_,h,_⟩
  obtain⟨o',d,ho',ha,a,hs,K⟩:=pin j i h;rw[n]at ho';cases ho';exact .inr ⟨(xG ha).2,_,y f a,gZ hs,by grind,fun _ _ _=>rfl⟩;grind;grind;rcases DT.refl H m i o n hf with h|⟨hd,o',M,N,_⟩
  grind;exact .inr ⟨hd,o',by grind,N,A (x:=.o i) hi,fun _ _ _=>rfl⟩
 have C:xM ids H1 (Bq (ids.zip (H1.map (Eo ids))) (EM (given (bs.drop np)) H)) m3 (mOf ids m3 m):=by intro j o n;grind
 have hkeepF:∀ b,FB b->w'.heap[b]? = w.heap[b]? := by intro b u;refine keep b (P.lt b u) fun j id c f V => ?_;exact gA.2.off id b c (O j id f) V (hB2 b u)
 have R:∀ k,F k->w'.heap[k]? = w.heap[k]? := fun k ha=>hkeepF _ (X _ ha);have D:∀ {i:Ix},i.id∉ids->i.id∉given (bs.drop np)->owned (Bq (ids.zip (H1.map (Eo ids))) (EM (given (bs.drop np)) H)) fzR i->owned H fzR i:=by intro i hi g h;exact(Dm (q hi g)).1 h
 have blkNe':∀ {x:Ix} {b c:Nat},x.id∉ids->x.id∉given (bs.drop np)->owned H fzR x->m x=some (b,c)->∀ {j id c':Nat},bs[j]? = some (.whole id)->m id≠some (b,c'):=by
  intro x b c hi g n K j id c' u V;cases x with
   |o i=>exact blkNe hi g (GJ n) K u V
   |r i k=>exact gA.2.neX (O j id u) V n.there K (by simp) rfl
 have bOut:∀ {x:Ix} {b c:Nat},x.id∉ids->x.id∉given (bs.drop np)->owned H fzR x->m x=some (b,c)->∀ {j:Nat} {d:Ob} {c':Nat},H1[j]? = some d->m3 j≠some (b,c'):=by intro x b c hi g n K j d c' a V;rcases blk j b c' (J a) V with⟨id,c2,u,hm2⟩|⟨k,id,c2,_,u,hm2⟩|hge;grind;grind;have:=P.KX n K;omega
 refine⟨⟨⟨os,tape,output,size,fun b u hn=>keep b u fun j id c f V => ?_,fun b h=>U b (X b h),?_,?_,Q⟩,⟨?_,?_,?_,?_,?_,?_,?_,hiC.glo.mono R (fun b h=>U b (X b h)),?_⟩⟩,C⟩;grind
 ·-- what is frozen
  intro b u;rcases hR with⟨G,_,_⟩|⟨G,_⟩
  grind;·rw[G]at u;rcases bnd b u with h|⟨j,id,c,M,N⟩|h;exact gA.1.bnd b h;all_goals grind
 intro i b c n K;rcases cls i n with⟨i,j,d,rfl,f,a⟩|⟨hi,g⟩
 rw[mIn f]at K;rcases blk j b c (J a) K with⟨id,c',M,N⟩|⟨k,id,c',_,M,N⟩|h;grind;grind;omega;grind;-- objects
 intro i o n;rcases z i with⟨j,f⟩|g|⟨hi,g⟩
 obtain⟨d,a⟩:=I f;rw[y f a]at n;cases n;rw[mIn f];have L:=hi1.obj j d a;cases d with
  |free=>trivial
  |dead=>trivial
  |box cs=>
   obtain⟨b,c,vs,T,a1,a2,a3,a4⟩:=L;refine⟨b,c,vs,T,a1,a2,BG.ren C cs ?_,a4⟩;rcases hR with⟨G,_,E⟩|⟨G,_⟩
   rw[AbK]at E;exact BG.flat cs (by simpa [Pv]using E _ (Aay a)) a3;grind
  |arr T t xs=>
   rcases hR with⟨G,_,E⟩|⟨G,_⟩
   rw[AbK]at E;have hft:t.flat=true:=by simpa [Pv]using E _ (Aay a)
   obtain⟨h0,M⟩:=L;refine⟨h0,?_⟩;cases hm3:m3 j with
    |none=>grind
    |some p=>obtain⟨b,cap⟩:=p;rw[hm3]at M;obtain⟨vs,row,a1,a2,a3,a4,a5,a6⟩:=M;exact⟨vs,row,a1,a2,a3,a4,CC (fun x _ cs hx=>hx.flat t hft) a5,a6⟩
   rw[G];exact L
  |map k v es=>
   obtain⟨b,c,ms,clock,a1,a2,a3,a4⟩:=L;refine⟨b,c,ms,clock,a1,a2,?_,a4⟩;rcases hR with⟨G,_,E⟩|⟨G,_⟩
   rw[AbK]at E;have hft:k.flat=true/\v.flat=true:=by simpa [Pv]using E _ (Aay a)
   exact AJg hft.1 hft.2 a3;grind
  |prs T tgt is=>
   simp only[Eo];cases hm3:m3 j with
    |none=>rw[hm3]at L;exact L
    |some p=>
     obtain⟨b,cap⟩:=p;rw[hm3]at L;obtain⟨vs,us,a1,a2,a3,a4,a5,a6,a7⟩:=L;refine⟨vs,us,a1,a2,a3,a4,?_,a6,a7⟩;rw[<- AM2];refine BG.ren C _ ?_;rcases hR with⟨G,_,E⟩|⟨G,_⟩
     exact BG.flat _ (AJb tgt is) a5;grind
  |rows T e t xs ver out=>exact absurd (pl1 j _ a) (by simp[CK])
 rw[getGv g]at n;cases n;trivial;rw[q hi g]at n;rw[A (x:=.o i) hi];refine ObI.mono R (fun b h=>U b (X b h)) Q (fun M N b c K hlt=>keep b hlt fun j id c' f=>blkNe hi g ⟨o,n,M,N⟩ K f) (hiC.obj i o n);-- rows
 intro i;rcases z i with⟨j,f⟩|g|⟨hi,g⟩
 obtain⟨d,a⟩:=I f;exact C7.plain (y f a) (plR (pl1 j d a));exact C7.plain (getGv g) rfl
 refine C7.mono R (fun b h=>U b (X b h)) Q (q hi g) (fun x hx=>A (by grind))
  (fun x hx hox b c K hlt=>keep b hlt fun j id c' f V => ?_) (hiC.row i)
 refine gA.2.neX (O j id f) V hox K ?_ rfl;grind;intro i T e t xs ver out B hf x hx ht b c K;rcases z i with⟨j,f⟩|g|⟨hi,g⟩
 obtain⟨d,a⟩:=I f;rw[y f a]at B;have:=plR (pl1 j d a);rw[Option.some.inj B]at this;cases this;grind;rw[A (x:=x) (by grind)]at K;have M:=q hi g;exact U b (P.rfz i T e t xs ver out (M▸B) hf x hx ((Dk (by grind)).1 ht) b c K);-- apart
 intro i j b c b' c' hoi hoj hij s hmj;rcases cls i hoi with⟨i,k,d,rfl,hk,a⟩|⟨hi,hgi⟩
 rw[mIn hk]at s;rcases cls j hoj with⟨j,l,o2,rfl,hl,Y⟩|⟨f,hgj⟩
 rw[mIn hl]at hmj;have hkl:k≠l:=by grind
 exact hi1.sep k l b c b' c' (J a) (J Y) (ATq hkl) s hmj;grind;rw[A hi]at s;rcases cls j hoj with⟨j,l,o2,rfl,hl,Y⟩|⟨f,hgj⟩
 grind;rw[A f]at hmj;exact P.sep i j b c b' c' (D hi hgi hoi) (D f hgj hoj) hij s hmj;-- none of them frozen
 intro i b c hoi s u;rcases cls i hoi with⟨i,k,d,rfl,hk,a⟩|⟨hi,g⟩
 rw[mIn hk]at s;exact hi1.off k b c (J a) s (FR3 b u);rw[A hi]at s;have n:=D hi g hoi;rcases hR with⟨G,W,_⟩|⟨G,W⟩
 rw[G]at u;exact hiC.off i b c (ownR n) s u;rw[G]at u;rcases bnd b u with h|⟨j,id,c',M,N⟩|h;rw[W]at n;exact gA.2.off i b c n s h;grind;have:=P.KX n s;omega;intro i T t xs b c B hf s;rcases z i with⟨k,hk⟩|g|⟨hi,g⟩
 obtain⟨d,a⟩:=I hk;rw[y hk a]at B;have:d = .arr T t xs:=by cases d<;>simp only[Eo,Aas]at B<;>first|exact B|cases B
 grind;grind;rw[q hi g]at B;rw[A (x:=.o i) hi]at s;exact U b (P.froz i T t xs b c B hf s);intro b u;exact hi1.lt b (FR3 b u);rw[Ya,dq];exact P.len
end
section
variable [DfI] {P:Program} {w:World} {F:Nat->Prop} {m:Mp} {st:St} {a:Act}
def nP(b:Array Value):ResultVar->Sem Value
 |.tmp t=>pure (b.getD t undef)
 |.cell x t=>do loadVar t (<- asAddr (b.getD x undef))
theorem sv(e:SI w F m st a){g:ResultVar}{v:AV}(h:T2 P st g=some v):
  ∃ u,(nP a.tmps g).run P w = .ok u w/\Rep w F m st.heap v u:=by
 cases g with
  |tmp t=>simp only[T2,Aas]at h;subst h;exact⟨_,rfl,e.tmps t⟩
  |cell x T=>
   simp only[T2]at h;split at h;rename_i id off n ag o p q;split at h;rename_i cs k;have d:=e.tmps x;have r:st.tmps.f x = .ptr id off:=o;rw[r]at d;unfold Rep H0 at d;rw[k]at d;obtain⟨b,c,s,y⟩:=d;obtain⟨b',c',vs,E,l,z,A,B⟩:=e.heap.obj id _ k;rw[s]at l;cases l;obtain⟨u,C,D⟩:=D0 (P:=P) p q h (GS A off) (ad:=⟨b,off,none⟩) (fun u i=>B u (Acl i)) (fun j u i=>by rw[Ada]at i;rw[DG];simp only[World.cell?,z];grind)
   refine⟨u,?_,D⟩;simp[nP,y,asAddr,C];grind;grind
theorem nO(d:SI w F m st a):∀ {b:List ResultVar} {vs:List AV},Ef P st b=some vs ->
  ∃ us,(b.mapM (nP a.tmps)).run P w = .ok us w/\BG w F m st.heap vs us:=by
 intro b;induction b with
  |nil=>intro vs h;simp only[Ef,Aas]at h;subst h;exact⟨[],by simp,NG⟩
  |cons i b e=>intro vs h;simp only[Ef]at h;split at h;cases h;rename_i v f;split at h;cases h;rename_i g c;simp only[Aas]at h;subst h;obtain⟨u,j,k⟩:=sv d f;obtain⟨us,l,n⟩:=e c;refine⟨u::us,?_,by unfold BG;grind⟩;simp_all
def oM(us:List Value):Value:=if h:us.toArray.size=1 then us.toArray[0]else .tuple us.toArray
theorem Nd(b:SI w F m st a){fn:Func}{vs:List AV}(h:Ef P st fn.results.toList=some vs):
  ∃ us,(results fn a.tmps).run P w = .ok (oM us) w/\BG w F m st.heap vs us:=by
 obtain⟨us,c,d⟩:=nO b h;refine⟨us,?_,d⟩
 have e:results fn a.tmps=(do
   let vs <- fn.results.mapM (nP a.tmps)
   pure (if h:vs.size=1 then vs[0]else .tuple vs)):=by
  unfold results
  congr 2
 rw[e,AdT];simp only[Sem.run_bind,map_eq_pure_bind];rw[c];rfl
theorem jY{H:List Ob}{vs:List AV}{us:List Value}(h:BG w F m H vs us):Rep w F m H (single vs) (oM us):=by
 have b:=Be h;unfold oM;match vs,us,b with
 |[],[],_=>
  simp only[single]
  unfold Rep
  simp_all
 |[v],[u],_=>
  simp only[single]
  unfold BG at h
  grind
 |v::v'::vs,u::u'::us,_=>
  simp only[single]
  unfold Rep
  simp_all
def LQ:List RS->List Value->List Value
 |.one::r,u::us=>u::LQ r us
 |.agg _::r,u::us=>u.cells.toList++LQ r us
 |_,_=>[]
theorem zU{H:List Ob}:∀ {rs:List RS} {vs:List AV} {us:List Value} {z:List AV},Gu rs vs=some z->BG w F m H vs us ->
  BG w F m H z (LQ rs us)/\(LQ rs us).length=cellsOf rs/\∀ (i:World) (j:Nat->Prop) (k:Mp) (o:List Ob) (g:List AV),BG i j k o g (LQ rs us)->BG i j k o (FG rs g) us:=by
 intro rs;induction rs with
  |nil=>
   intro vs us z h c;cases vs with
    |nil=>simp only[Gu,Aas]at h;subst h;unfold BG at c;subst c;exact⟨NG,rfl,fun _ _ _ _ _ _=>NG⟩
    |cons v vs=>simp[Gu]at h
  |cons r rs E=>
   intro vs us z h c;cases vs with
    |nil=>cases r<;>simp[Gu]at h
    |cons v vs=>
     unfold BG at c;obtain⟨u,A,rfl,f,c⟩:=c;cases r with
      |one=>
       simp only[Gu]at h;split at h;rename_i l B;simp only[Aas]at h;subst h;obtain⟨G,C,I⟩:=E B c;refine⟨by simp only[LQ];unfold BG;grind,by simp[LQ,cellsOf,RS.cells,C];omega,fun i j k o g b => ?_⟩;simp only[LQ]at b;cases g with
        |nil=>unfold BG at b;cases b
        |cons x g=>unfold BG at b;obtain⟨y,ys,e,M,N⟩:=b;cases e;simp only[FG,AdV,Acf];unfold BG;grind
       grind
      |agg n=>
       simp only[Gu]at h;split at h;rename_i cs p q;split at h;rename_i K;simp only[Aat]at K;split at h;rename_i l B;simp only[Aas]at h;subst h;obtain⟨G,C,I⟩:=E B c;have J:=cells?_ok q f;have O:=cells?_one q f;have D:=Be J;have Q:u = .agg u.cells:=by
        cases v<;>simp only[SH]at p<;>try grind
        rename_i t d;unfold Rep Cl at f;rw[Aa5 p]at f;obtain⟨x,rfl,_⟩:=f;rfl;unfold Rep at f;obtain⟨x,rfl,_⟩:=f;rfl
       refine⟨by simp only[LQ];exact Is J G,by simp[LQ,cellsOf,RS.cells,C]at D |-;omega,fun i j k o g b => ?_⟩;simp only[LQ]at b;have L:=RI b n;have hd:=GS b n;have s:u.cells.toList.length=n:=by omega
       rw[List.take_left' s]at L;rw[List.drop_left' s]at hd;simp only[FG];unfold BG;refine⟨u,A,rfl,?_,I i j k o _ hd⟩;unfold Rep;grind;grind;grind;grind
end
theorem Cj {P : Program} {g : FuncId} {fn : Func} (hf : P.funcs[g]? = some fn) (hb : fn.body.isSome = true) (hn : (fn.name == "runtime.NumGoroutine") = false) : I0 P g := by
 intro args w;obtain⟨c,hc⟩:=Ab0.1 hb;have hn' : ¬ fn.name = "runtime.NumGoroutine" := by grind
 simp[callFunc,hf,hn',hc]
theorem OH{P:Program}{np:Nat}{h:Hints}:∀ (c:Code) (n:Nat),loops c=0->Bz P np h c n:=by
 intro c;induction c with
  |seq a b e f=>intro n d;simp only[loops]at d;exact⟨e n (by omega),f _ (by omega)⟩
  |cond c a b e f=>intro n d;simp only[loops]at d;exact⟨e n (by omega),f _ (by omega)⟩
  |block id c g=>intro n d;simp only[loops]at d;exact g n d
  |scope c g=>intro n d;simp only[loops]at d;exact g n d
  |loop c g=>intro n d;simp only[loops]at d;omega
  |_=>intro n _;trivial
section
variable {P:Program} {E:Env} {h:Hints} {g:FuncId} {fn:Func} {c:Code}
theorem mV{w:World}{F:Nat->Prop}{m:Mp}{H:List Ob}{args:List AV}{a:List Value}(d:BG w F m H args a)(n:Nat)(t:Nat):
  Rep w F m H (args.getD t .DM) ((a.toArray++Array.replicate n undef).getD t undef):=by
 have j:=Be d;have e:(a.toArray++Array.replicate n undef).getD t undef=(a++List.replicate n undef).getD t undef:=by rw[AbT,AbG,<- Abw];simp
 rw[e,AbG,AbG];rcases Acs t args.length with b|b;rw[Aci (by omega)];obtain⟨v,k,f⟩:=Da d (i:=t) (c:=args[t]) (Aaz b);grind;rw[AcS b];exact(by unfold Rep;trivial:Rep w F m H .DM _)
theorem uq(I:∀ g,BS P g (E.spec g))(J:FA E)(K:G7 P E)(q:P.funcs[g]? = some fn)(s:fn.body=some c)(L:I0 P g)(M:loops c=0):
  BS P g (CJ P E h fn):=by
 intro R args H fz slot k r p;simp only[CJ,s]at p;split at p;cases p;rename_i f;simp only[Aat]at f;obtain⟨e,st',V,W,N⟩:=DD I J K (np:=H.length) c 0 (OH c 0 M) R _ _ r p;have x:∃ vs,Ef P st' fn.results.toList=some vs/\k (single vs) { heap:=some (st'.heap,st'.frz) }=some r/\(e = .normal\/e = .ret):=by grind
 obtain⟨vs,y,O,Q⟩:=x;refine⟨_,_,O,fun X Y => ?_,L,fun w F m b hi C => ?_⟩;simp only[CJ,s,f,Aa6];grind;have j:=Be C;refine calls_of_wp q s ?_;have z:SI w F m { tmps:=.of args fn.ntmps,heap:=H,frz:=fz } { tmps:=b.toArray++Array.replicate (fn.ntmps-b.toArray.size) undef,defers:=[] }:=by refine⟨fun t => ?_,?_,hi,rfl⟩;have:=mV C (fn.ntmps-args.length) t;simp only[Ab9,j];exact this;simp[j,Tm.of];omega
 refine N w F m _ _ z fun D w' l n A a => ?_;obtain⟨us,S,T⟩:=Nd A y;have B:BU w F m H fz w' l n st'.heap st'.frz:=⟨⟨a.os,a.tape,a.output,a.size,a.keep,a.sub,a.bnd,a.own,fun i o G q=>a.comp i o (BW G) G q⟩,A.heap⟩
 have d:D.defers=[]/\∃ v,(results fn D.tmps).run P w' = .ok v w'/\(fun(U:Ending) (w':World)=>∃ u,U = .returned u/\∃ l n,BU w F m H fz w' l n (C6 { heap:=some (st'.heap,st'.frz) } H) (FY { heap:=some (st'.heap,st'.frz) } fz)/\Rep w' l n (C6 { heap:=some (st'.heap,st'.frz) } H) (single vs) u) (.returned v) w':=
  ⟨A.defers,_,S,_,rfl,l,n,B,jY T⟩
 rcases Q with rfl|rfl<;>exact d
theorem lP{w:World}{F:Nat->Prop}{m:Mp}{H:List Ob}{fz:List Bool}{i:List Bnd}{s:Mp}{E:St}{val:Nat->Value}(h:Inv w F m H fz i s E val){j:Nat}{o:Ob}(l:E.heap[j]? = some o):alive o:=by
 have f:=BW l;rw[h.lenH]at f;have u:i[j]? = some i[j]:=Aaz f;have a:=h.ob j _ u;cases p:i[j]with
  |none=>rw[p]at a;simp only[CG]at a;obtain⟨_,⟨T,e,q,_⟩|⟨T,e,q⟩⟩:=a<;>(rw[l]at q;cases q;trivial)
  |whole id=>rw[p]at a;simp only[CG]at a;rcases a.2 with⟨T,t,xs,_,d,_⟩|⟨k,v,y,_,d⟩|⟨cs,x,b,c,vs,T,_,d,_⟩|⟨_,_,_,_,_,d,_⟩|⟨_,_,_,_,_,_,d,_⟩<;>(rw[l]at d;cases d;trivial)
  |cut id=>rw[p]at a;simp only[CG]at a;obtain⟨T,t,xs,n,_,_,r,_⟩:=a;rw[l]at r;cases r;trivial
theorem GF{st:St}(h:st.heap.all CK=true)(v:AV)(l:Loc):(place st v l).heap.all CK=true:=by
 cases l with
  |cell j c=>simp only[place];split;rw[AbK]at h |-;intro o a;rcases List.mem_or_eq_of_mem_set a with b|rfl;grind;rfl;omega
  |_=>exact h
theorem MR{st:St}(h:st.heap.all CK=true){o:Ob}(a:CK o=true):(E_ st o).heap.all CK=true:=by simp[E_,h,a]
theorem AG5:∀ (its:A1) (d:Bd (leaves its)) (st:St),Fe its=true->st.heap.all CK=true->(enc its d st).heap.all CK=true:=by
 intro its;induction its with
  |nil=>intro d st _ h;exact h
  |cons p r b=>
   intro d st a h;obtain⟨l,c⟩:=p;cases c with
    |rows T e t=>simp[Fe]at a
    |mrows j e t=>simp[Fe]at a
    |aptr T e n=>exact b _ _ a (GF (MR h rfl) _ _)
    |own T e=>exact b _ _ a (GF (MR h rfl) _ _)
    |box n=>exact b _ _ a (GF (MR h rfl) _ _)
    |map k v=>exact b _ _ a (GF (MR h rfl) _ _)
    |prs T j=>exact b _ _ a (GF (MR h rfl) _ _)
    |_=>exact b _ _ a (GF h _ _)
theorem Qj{its:A1}{d:Bd (leaves its)}{n:Nat}(a:Fe its=true){j:Nat}{o:Ob}(h:(encode n its d).heap[j]? = some o):CK o=true:=
 AbK.1 (AG5 its d (blank n) a rfl) o (Aay h)
theorem tD{its:A1}{d:Bd (leaves its)}{n:Nat}(b:Fe its=true){fz:List Bool}{x:Ix}(h:owned (encode n its d).heap fz x):x = .o x.id:=by
 cases x with
  |o i=>rfl
  |r i k=>obtain⟨o,a,_⟩:=EK h;exact absurd h (GG a (Qj b a))
theorem Y0{np:Nat}{outs:A1}{rs:List RS}{st:St}{y:Bd (leaves outs)}(h:finish np P fn outs rs st=some y):
  ∃ vs a b d,Ef P st fn.results.toList=some vs/\Gu rs vs=some a/\dec (lk a) st.heap outs st.frz []=some (y,b,d)/\(pins np 0 b&&(st.heap.take np).all CK)=true:=by unfold finish at h;grind
theorem Vw{R:Type}{r:R}{l:List Nat}{m:List Bnd}{n:List Nat}{rs:List RS}{X:St}{ids:List Nat}{H:List Ob}{fz:List Bool}{k:AV->Eff->Option R}(d:Hz R l m n rs X ids H fz k=some r):
  ∃ e,k (single (FG rs (K1 ids X.tmps.list))) e=some r/\e.heap=none/\e.objs=l.map (fun i=>(i,.dead))++ids.zip (X.heap.map (Eo ids)) /\
   (∀ f (j:AV->Eff->Option f),Hz f l m n rs X ids H fz j=j (single (FG rs (K1 ids X.tmps.list))) e) /\
   Gq H (BN e.frz fz) ids m=true/\Fc ids=true /\
   ((e.frz=[]/\LR X.tmps.list=true/\X.heap.all Pv=true)\/e.frz=n):=by unfold Hz at d;split at d;rename_i a;split at d;rename_i b;simp only[Aau]at b a;refine⟨_,d,rfl,rfl,fun f j=>by simp only[Hz,a.1,a.2,b.1,b.2,Aby],b.1,b.2,.inl ⟨rfl,a.1,a.2⟩⟩;grind;rename_i a;split at d;rename_i b;simp only[Aau]at b;refine⟨_,d,rfl,rfl,fun f j=>by simp only[Hz,a,b.1,b.2,Aby],b.1,b.2,.inr rfl⟩;grind
theorem TJ{w:World}{F:Nat->Prop}{m:Mp}{H:List Ob}{fz:List Bool}{args:List AV}{a:List Value}{l:Nat}{its:A1}{x:Bd (leaves its)}{j:List Bnd}{i:List Nat}(hi:HI w F m H fz)(n:BG w F m H args a)(p:args.length=l)(q:l<=fn.ntmps)(e:dec (lk args) H its fz []=some (x,j,i)):
  ∃ d f,BU w F m H fz w d m H (BN i fz)/\Inv w d m H (BN i fz) j f (encode fn.ntmps its x) (fun t=>(a.toArray++Array.replicate (fn.ntmps-a.toArray.size) undef).getD t undef) /\
   SI w d f (encode fn.ntmps its x) { tmps:=a.toArray++Array.replicate (fn.ntmps-a.toArray.size) undef,defers:=[] }:=by
 have r:=Be n
 obtain⟨d,f,o,b,_⟩:=ACU (val:=fun t=>(a.toArray++Array.replicate (fn.ntmps-a.toArray.size) undef).getD t undef) its fz [] F (fun _=>none) (blank fn.ntmps) x j i hi
  (fun t v s=>by
   have:=mV n (fn.ntmps-a.toArray.size) t
   rw[AbG,show args[t]? = some v from s]at this
   grind) (Inv.blank fn.ntmps) e
 have k:SI w d f (encode fn.ntmps its x) { tmps:=a.toArray++Array.replicate (fn.ntmps-a.toArray.size) undef,defers:=[] }:=by refine⟨b.tmps,?_,b.hi o.2,rfl⟩;rw[Pz];grind
 exact⟨d,f,o,b,k⟩
theorem fW{w:World}{F:Nat->Prop}{m:Mp}{H:List Ob}{fz:List Bool}{val:Nat->Value}{np n:Nat}{its outs:A1}{rs:List RS}{x:Bd (leaves its)}{y:Bd (leaves outs)}{l B:List Bnd}{O R:List Nat}{F2:Nat->Prop}{S:Mp}{slot:Nat}{e:Eff}{ids gv:List Nat}
  (hi:HI w F m H fz) (gA:BU w F m H fz w F2 m H (BN O fz)) (r:Inv w F2 m H (BN O fz) l S (encode n its x) val)
  (q:l.all Bnd.rm=true) (L:Fe its=true) (U:Fe outs=true) (V:DQ (Db outs) (l.take np) slot=ids) (hgv:given (l.drop np)=gv)
  (W:e.heap=none) (he2:e.objs=gv.map (fun i=>(i,.dead))++ids.zip ((encode (cellsOf rs) outs y).heap.map (Eo ids))) (hok:Gq H (BN e.frz fz) ids (l.take np)=true) (hnd:Fc ids=true)
  (hfl:(e.frz=[]/\LR (encode (cellsOf rs) outs y).tmps.list=true/\(encode (cellsOf rs) outs y).heap.all Pv=true)\/e.frz=O)
  {w':World} {M:Nat->Prop} {Q:Mp} {st':St} (s1h:HI w' M Q st'.heap st'.frz) (z:I9 np w F2 S (encode n its x).heap (encode n its x).frz w' M Q st'.heap st'.frz)
  {vs:List AV} {us:List Value} {tm:List AV} (r2:BG w' M Q st'.heap vs us) (htm:Gu rs vs=some tm) (hd':dec (lk tm) st'.heap outs st'.frz []=some (y,B,R)) (hp:pins np 0 B=true) :
  ∃ M Q,BU w F m H fz w' M Q (C6 e H) (FY e fz)/\Rep w' M Q (C6 e H) (single (FG rs (K1 ids (encode (cellsOf rs) outs y).tmps.list))) (oM us):=by
 obtain⟨q1,q2,q3⟩:=zU htm r2
 obtain⟨F3,X,gC,d,_⟩:=ACU (val:=fun t=>(LQ rs us).getD t undef) outs st'.frz [] M (fun _=>none) (blank (cellsOf rs)) y B R s1h
  (fun t v ht=>by
   obtain⟨u,hu,hru⟩:=Da q1 ht
   grind) (Inv.blank (cellsOf rs)) hd'
 have Y:∀ {j:Ix} {b c},owned (encode n its x).heap (encode n its x).frz j->S j=some (b,c)->∃ id:Nat,l[j.id]? = some (.whole id)/\owned H (BN O fz) id/\m id=some (b,c):=by
  intro j b c A C;have D:=tD L A;obtain⟨y,id,k1,k2,k3,k4⟩:=r.src A C;rw[D]at k3 k4;rw[AbK]at q;have:=q y (Aay k1);cases y with
   |none=>simp[Bnd.id?]at k2
   |whole i=>simp only[Bnd.id?,Aas]at k2;subst k2;exact⟨_,k1,k3,k4⟩
   |cut i=>simp[Bnd.rm]at this
 have Z:∀ (i j id:Nat),l[i]? = some (.whole id)->l[j]? = some (.whole id)->i=j:=fun i j id h1 h2=>r.inj i j _ _ id h1 h2 rfl rfl;have s:∀ (j id:Nat),l[j]? = some (.whole id)->S j=m id/\∃ o o0,H[id]? = some o/\alive o/\(encode n its x).heap[j]? = some o0/\sameShape o o0/\alive o0/\owned H (BN O fz) id:=by
  intro j id D;have hA:=r.ob j _ D;simp only[CG]at hA;obtain⟨eA,hA⟩:=hA;refine⟨eA,?_⟩;rcases hA with⟨T,t,xs,p,f,a3⟩|⟨k,v,es,p,f⟩|⟨cs,cs',b,cc,vs,T,p,f,_⟩|⟨_,_,_,_,p,f,_⟩|⟨_,_,_,_,_,_,f,_⟩
  exact⟨_,_,p,trivial,f,⟨rfl,rfl⟩,trivial,dM p trivial a3⟩;exact⟨_,_,p,trivial,f,trivial,trivial,by simp only[owned,Cs];grind⟩;rotate_left;exact⟨_,_,p,trivial,f,rfl,trivial,by simp only[owned,Cs];grind⟩;exact absurd (Qj L f) (by simp[CK]);exact⟨_,_,p,trivial,f,trivial,trivial,by simp only[owned,Cs];grind⟩
 have I:∀ (j id:Nat),(l.take np)[j]? = some (.whole id)->∃ o J,H[id]? = some o/\alive o/\(encode (cellsOf rs) outs y).heap[j]? = some J/\sameShape o J/\X j=m id:=by
  intro j id G;rw[AdA]at G;split at G;case isFalse=>cases G
  rename_i hjn;obtain⟨eA,o,o0,s1,s2,s3,s4,s5,s6⟩:=s j id G;have hC:=d.ob j _ (by have:=tI _ 0 B hp j hjn;rw[Abo]at this;exact this);simp only[CG]at hC;obtain⟨eC,hC⟩:=hC;have mid:=z.comp j o0 hjn s3 (xG s5).1;have fin:∃ o2 J,st'.heap[j]? = some o2/\alive o2/\(encode (cellsOf rs) outs y).heap[j]? = some J/\sameShape o2 J:=by
   rcases hC with⟨T,t,xs,p,f,a3⟩|⟨k,v,es,p,f⟩|⟨cs,cs',b,cc,vs,T,p,f,_⟩|⟨_,_,_,_,p,f,_⟩|⟨_,_,_,_,_,_,f,_⟩
   exact⟨_,_,p,trivial,f,⟨rfl,rfl⟩⟩;exact⟨_,_,p,trivial,f,trivial⟩;rotate_left;exact⟨_,_,p,trivial,f,rfl⟩;exact absurd (Qj U f) (by simp[CK]);exact⟨_,_,p,trivial,f,trivial⟩
  obtain⟨o2,J,t1,t2,t3,t4⟩:=fin;rcases mid with md|⟨_,o2',md1,md2,md3,_⟩
  grind;rw[t1]at md1;cases md1;exact⟨o,J,s1,s2,t3,(s4.trans md2).trans t4,by grind⟩
 have K:=d.hi gC.2;have hblk:∀ j b cc:Nat,owned (encode (cellsOf rs) outs y).heap (encode (cellsOf rs) outs y).frz j->X j=some (b,cc)->(∃ id c':Nat,(l.take np)[j]? = some (.whole id)/\m id=some (b,c'))\/(∃ k id c':Nat,np<=k/\l[k]? = some (.whole id)/\m id=some (b,c'))\/w.heap.size<=b:=by
  intro j b cc A C;obtain⟨_,i',k1,k2,k3,k4⟩:=d.src A C;rcases z.own i' b cc (Nj k3) k4 with⟨i,c0,l1,l2⟩|h;obtain⟨id,n1,n2,n3⟩:=Y l1 l2;have hio:=tD L l1;generalize i.id=i0 at n1 hio;subst hio;rcases Acs i0 np with hin|hin;left;have n1':(l.take np)[i0]? = some (.whole id):=by grind
  obtain⟨o,J,p1,p2,p3,p4,p5⟩:=I i0 id n1';have hoi:owned (encode (cellsOf rs) outs y).heap (encode (cellsOf rs) outs y).frz i0:=dM p3 (lP d p3) (d.frz i0);by_cases hij:j=i0;grind;exact absurd rfl (K.sep j i0 b cc b c0 A hoi (ATq hij) C (by grind));grind;omega
 have N:∀ b,b<w.heap.size->(∀ (j id:Nat) (c:Nat),l[j]? = some (.whole id)->m id≠some (b,c))->w'.heap[b]? = w.heap[b]? := by intro b hb hn;refine z.keep b hb fun i cc A C => ?_;grind
 have hbnd:∀ b,F3 b->F2 b\/(∃ (j id c:Nat),l[j]? = some (.whole id)/\m id=some (b,c))\/w.heap.size<=b:=by
  have hx:∀ {i:Ix} {b cc:Nat},owned (encode n its x).heap (encode n its x).frz i->S i=some (b,cc)->∃ (j id c:Nat),l[j]? = some (.whole id)/\m id=some (b,c):=by grind
  intro b hb;rcases gC.1.bnd b hb with h|⟨i,cc,A,C⟩|h;·rcases z.bnd b h with h|⟨i,cc,A,C⟩|h;all_goals grind
  ·rcases z.own i b cc A C with⟨i',c0,A,C⟩|h;all_goals grind
  grind
 have hidl:ids.length=(encode (cellsOf rs) outs y).heap.length:=by rw[<- V,AJE];unfold encode;rw[AQA];simp[blank]
 obtain⟨FR,hFR,hRR⟩:∃ FR,((FR=F/\BN e.frz fz=fz/\(encode (cellsOf rs) outs y).heap.all Pv=true)\/(FR=F3/\BN e.frz fz=BN O fz))/\BG w' FR X (encode (cellsOf rs) outs y).heap (encode (cellsOf rs) outs y).tmps.list (LQ rs us):=by
  have hrt:BG w' F3 X (encode (cellsOf rs) outs y).heap (encode (cellsOf rs) outs y).tmps.list (LQ rs us):=by refine EV (by rw[Tm.AOl,Pz,q2]) fun i a u ha hu => ?_;have:=d.tmps i;rw[AbG,hu]at this;rw[Tm.AOm ha];exact this
  rcases hfl with⟨f1,f2,f3⟩|f1;exact⟨F,.inl ⟨rfl,by rw[f1];rfl,f3⟩,BG.flat _ f2 hrt⟩;grind
 obtain⟨hgo,hmv⟩:=AKW (ids:=ids) (np:=np) hi gA (fun j id D=>(s j id D).2.elim fun _ h=>h.elim fun _ h=>h.2.2.2.2.2) Z I hblk z.os z.tape z.output z.size N (fun b h=>gC.1.sub b (z.sub b h)) hbnd K (fun j o D=>lP d D) (fun j o D=>Qj U D) d.frz hidl hok hnd hFR;rw[hgv]at hgo hmv;have hH:C6 e H=Bq (ids.zip ((encode (cellsOf rs) outs y).heap.map (Eo ids))) (EM gv H):=by rw[Cx W,he2,Yb];rfl
 have hZ:FY e fz=BN e.frz fz:=Dj W fz;refine⟨FR,mOf ids X m,?_,?_⟩;grind;rw[hH];exact jY (q3 _ _ _ _ _ (BG.ren hmv _ hRR))
theorem AIH(hE:∀ g,BS P g (E.spec g))(hL:FA E)(hP:G7 P E)(hf:P.funcs[g]? = some fn)(X:fn.body=some c)(hc:I0 P g)
  {np Y:Nat} (D:Y<=fn.ntmps) {its outs:A1} {rs:List RS} {f:Bd (leaves its)->Option (Bd (leaves outs))} (p:∀ x,f x=Cq np P E h fn its outs rs x) (hl:Bz P np h c 0) :
  BS P g (BT np Y its outs rs f):=by
 intro R args H fz slot k r d;simp only[BT]at d;split at d;cases d;rename_i x Z fr i;split at d;cases d;rename_i j;simp only[Aau,Aat]at j;obtain⟨⟨⟨a,G⟩,q⟩,s,t⟩:=j;split at d;cases d;rename_i y o;generalize l:DQ (Db outs) (Z.take np) slot=ids at d;generalize z:given (Z.drop np)=gv at d;obtain⟨e,h4,I,J,h5,K,L,M⟩:=Vw d;refine⟨_,e,h4,fun R' k' => ?_,hc,fun w F m vals hi hr => ?_⟩;simp only[BT,i,a,G,q,s,t,o,Aa6,Aby,l,z];grind;have hlv:=Be hr;rw[p x]at o;unfold Cq at o;rw[X]at o;simp only at o;obtain⟨ex,st',g1,_,g3⟩:=DD hE hL hP c 0 hl _ _ _ _ o;have b:finish np P fn outs rs st'=some y/\(ex = .normal\/ex = .ret):=by grind
 obtain⟨b,N⟩:=b;obtain⟨vs,tm,bs',fr',O,Q,S,C⟩:=Y0 b;rw[Aau]at C;replace C:=C.1;refine calls_of_wp hf X ?_;obtain⟨F2,m2,gA,A,T⟩:=TJ hi hr q D i;refine g3 w F2 m2 _ _ T fun a' w' U V W x1 => ?_;obtain⟨us,r1,r2⟩:=Nd W O;have B:=fW hi gA A a s t l z I J K L M W.heap x1 r2 Q S C
 have n:a'.defers=[]/\∃ v,(results fn a'.tmps).run P w' = .ok v w'/\(fun(en:Ending) (w':World)=>∃ u,en = .returned u/\∃ U V,BU w F m H fz w' U V (C6 e H) (FY e fz)/\Rep w' U V (C6 e H) (single (FG rs (K1 ids (encode (cellsOf rs) outs y).tmps.list))) u) (.returned v) w':=
  ⟨W.defers,_,r1,_,rfl,B⟩
 rcases N with rfl|rfl<;>exact n
end
def LH:Code->Nat->Option Code
 |.seq a b,n=>match LH a n with
  |some c=>some c
  |none=>LH b (n-loops a)
 |.cond _ a b,n=>match LH a n with
  |some c=>some c
  |none=>LH b (n-loops a)
 |.block _ c,n=>LH c n
 |.scope c,n=>LH c n
 |.loop c,n=>match n with
  |0=>some c
  |n+1=>LH c n
 |_,_=>none
def Bu(f:Func):Code:=match f.body with
 |some c=>c
 |none=>.skip
def B_(f:Func)(n:Nat):Code:=(LH (Bu f) n).getD .skip
def CD:Code->Nat->List (Nat×Code)
 |.seq a b,n=>CD a n++CD b (n+loops a)
 |.cond _ a b,n=>CD a n++CD b (n+loops a)
 |.block _ c,n=>CD c n
 |.scope c,n=>CD c n
 |.loop c,n=>[(n,c)]
 |_,_=>[]
def lh(P:Program)(np:Nat)(h:Hints):List (Nat×Code)->Prop
 |[]=>True
 |p::l=>Fg P np (.loop p.2) (h.loop p.1)/\lh P np h l
theorem lf{P:Program}{np:Nat}{h:Hints}:∀ {a b:List (Nat×Code)},lh P np h (a++b)->lh P np h a/\lh P np h b:=by
 intro a;induction a with
  |nil=>exact fun h=>⟨trivial,h⟩
  |cons p a c=>intro b h;exact⟨⟨h.1,(c h.2).1⟩,(c h.2).2⟩
theorem xO{P:Program}{np:Nat}{h:Hints}:∀ (c:Code) (n:Nat),lh P np h (CD c n)->Bz P np h c n:=by
 intro c;induction c with
  |seq a b e f=>intro n d;have:=lf d;exact⟨e n this.1,f _ this.2⟩
  |cond c a b e f=>intro n d;have:=lf d;exact⟨e n this.1,f _ this.2⟩
  |block id c g=>intro n d;exact g n d
  |scope c g=>intro n d;exact g n d
  |loop c g=>intro n d;exact d.1
  |_=>intro n _;trivial
theorem CU{P:Program}{np:Nat}{h:Hints}{c:Code}{n:Nat}{l:List (Nat×Code)}(e:CD c n=l)(a:lh P np h l):Bz P np h c n:=xO c n (by grind)
def BC(P:Program)(E:Env):Prop:=(∀ g,BS P g (E.spec g))/\FA E/\G7 P E
def Env.none:Env:={ spec:=fun _ _ _ _ _ _ _=>Option.none,loc:=fun _=>false,Hi:=fun _=>true }
theorem Env.ATr{P:Program}:BC P Env.none:=⟨fun g R args H fz slot k r h=>by simp[Env.none]at h,⟨fun g h=>by simp[Env.none]at h,fun g _ R args H H' fz fz' slot k S _ _ _=>rfl⟩,fun g s h=>by cases h⟩
def Env.ext(E:Env)(g:FuncId)(loc Hi:Bool)(s:Spec):Env where
 spec x:=match Nat.beq x g with
  |true=>s
  |false=>E.spec x
 loc x:=match Nat.beq x g with
  |true=>loc
  |false=>E.loc x
 Hi x:=match Nat.beq x g with
  |true=>Hi
  |false=>E.Hi x
 pan x:=match Nat.beq x g with
  |true=>.none
  |false=>E.pan x
theorem Env.B7{P:Program}{E:Env}{g:FuncId}{loc Hi:Bool}{s:Spec}(h:BC P E)(e:BS P g s)(f:loc=true->H4 s)(c:Hi=true->G8 s):BC P (E.ext g loc Hi s):=by
 refine⟨?_,⟨?_,?_⟩,fun x d a => ?_⟩;intro x;simp only[Env.ext];cases a:Nat.beq x g with
  |true=>simp_all
  |false=>exact h.1 x
 intro x a;simp only[Env.ext]at a |-;cases b:Nat.beq x g with
  |true=>grind
  |false=>rw[b]at a;exact h.2.1.1 x a
 intro x a;simp only[Env.ext]at a |-;cases b:Nat.beq x g with
  |true=>grind
  |false=>rw[b]at a;exact h.2.1.2 x a
 simp only[Env.ext]at a |-;cases b:Nat.beq x g with
  |true=>grind
  |false=>rw[b]at a;exact h.2.2 x d a
section
variable {P:Program} {E:Env} {h:Hints} {g:FuncId} {fn:Func}
theorem Fv(a:fn.body.isSome=true):fn.body=some (Bu fn):=by unfold Bu;grind
theorem En (hE : BC P E) (hf : P.funcs[g]? = some fn) (hb : fn.body.isSome = true) (hn : (fn.name == "runtime.NumGoroutine") = false)
  {np na:Nat} (hna:(Nat.ble na fn.ntmps)=true) {its outs:A1} {rs:List RS} {f:Bd (leaves its)->Option (Bd (leaves outs))} (hfun:∀ x,f x=Cq np P E h fn its outs rs x) (hl:Bz P np h (Bu fn) 0) :
  BS P g (BT np na its outs rs f):=
 AIH hE.1 hE.2.1 hE.2.2 hf (Fv hb) (Cj hf hb hn) (AbP hna) hfun hl
theorem ARD (hE : BC P E) (hf : P.funcs[g]? = some fn) (hb : fn.body.isSome = true) (hn : (fn.name == "runtime.NumGoroutine") = false)
  {np na:Nat} (hna:(Nat.ble na fn.ntmps)=true) {its:A1} {os:BJ} {rs:List RS} {f:Bd (leaves its)->Option (QK os)} (hfun:∀ x,f x=zu np P E h fn its os rs x) (hl:Bz P np h (Bu fn) 0) :
  BS P g (uu np na its os rs f):=by
 intro R args H fz slot k r hk;simp only[uu]at hk;split at hk;cases hk;rename_i x bs fr hdec;split at hk;cases hk;rename_i hchk;split at hk;cases hk;rename_i y hy
 have pick:∀ (os':BJ) (y':QK os') (R:Type) (k:AV->Eff->Option R) (r:R),IG R np bs fr rs slot H fz k os' y'=some r->∃ (o:Exit×A1) (d:Bd (leaves o.2)),Fe o.2=true /\
   (∀ R' (k':AV->Eff->Option R'),IG R' np bs fr rs slot H fz k' os' y'=Hz R' (given (bs.drop np)) (bs.take np) fr rs (encode (cellsOf rs) o.2 d) (DQ (Db o.2) (bs.take np) slot) H fz k') /\
   ∀ st,J4 np P fn rs st os'=some y'->finish np P fn o.2 rs st=some d:=by
  intro os'
  induction os' with
  |nil=>intro y' R k r h;simp[IG]at h
  |cons o os' ih=>
   intro y' R k r h
   cases y' with
   |inl d=>
    simp only[IG]at h
    split at h
    ·rename_i hno
     refine⟨o,d,hno,fun R' k'=>by simp only[IG,hno],fun st hst => ?_⟩
     simp only[J4]at hst
     grind
    grind
   |inr y'=>
    simp only[IG]at h
    obtain⟨o',d,q1,q2,q3⟩:=ih y' R k r h
    refine⟨o',d,q1,fun R' k'=>by simp only[IG];grind,fun st hst => ?_⟩
    simp only[J4]at hst
    grind
 obtain⟨o,d,hno,hback,hfin⟩:=pick os y R k r hk;have hcall:Cq np P E h fn its o.2 rs x=some d:=by rw[hfun x]at hy;unfold zu at hy;unfold Cq;rw[Fv hb]at hy |-;simp only at hy |-;obtain⟨ex,st',g1,g2,_⟩:=DD hE.1 hE.2.1 hE.2.2 (Bu fn) 0 hl _ _ _ _ hy;grind
 have hs:=En hE hf hb hn hna (its:=its) (outs:=o.2) (rs:=rs) (f:=Cq np P E h fn its o.2 rs) (fun _=>rfl) hl;simp only[Aau]at hchk;have hsame:∀ R' (k':AV->Eff->Option R'),BT np na its o.2 rs (Cq np P E h fn its o.2 rs) R' args H fz slot k'=IG R' np bs fr rs slot H fz k' os y:=by intro R' k';rw[hback R' k'];simp only[BT,hdec,hchk.1.1.1,hchk.1.1.2,hchk.1.2,hchk.2,hno,Aby,hcall]
 obtain⟨v,e,h1,h2,h3,h4⟩:=hs R args H fz slot k r (by grind);refine⟨v,e,h1,fun R' k' => ?_,h3,h4⟩;simp only[uu,hdec,hchk.1.1.1,hchk.1.1.2,hchk.1.2,hchk.2,Aby,hy];grind
theorem Br (hE : BC P E) (hf : P.funcs[g]? = some fn) (hb : fn.body.isSome = true) (hn : (fn.name == "runtime.NumGoroutine") = false) (hl : loops (Bu fn) = 0) : BS P g (CJ P E h fn) :=
 uq hE.1 hE.2.1 hE.2.2 hf (Fv hb) (Cj hf hb hn) hl
theorem IA{d:Hints}(c:BC P E){np e n:Nat}{a:Code}{its:A1}{os:BJ}{stp:Bd (leaves its)->Option (Bd (leaves its)⊕QK os)}
  (b:∀ v,stp v=roundOf P E d n np e a its os v) (f:Bz P np d a n):Fg P np (.loop a) (Gl np e its os stp):=AIv c.1 c.2.1 c.2.2 b f
def fG:A1->Bool
 |[]=>true
 |(.tmp _,.dat _)::r=>fG r
 |_::_=>false
theorem AJ3{H H':List Ob}{b:List AV}(i:∀ id∈B1 b,H[id]? = H'[id]?):∀ (its:A1) (fz fz':List Bool),fG its=true->dec (lk b) H its fz []=dec (lk b) H' its fz' []:=by
 intro its;induction its with
  |nil=>intro fz fz' _;rfl
  |cons p r j=>
   intro fz fz' hd;obtain⟨l,c⟩:=p;cases l<;>cases c<;>simp only[fG]at hd<;>try (cases hd;done)
   rename_i t ty;simp only[dec,look];cases e:lk b t with
    |none=>rfl
    |some v=>
     have d:∀ id∈BV v,H[id]? = H'[id]? := fun id f=>i id (by
      clear j hd i;unfold lk at e;induction b generalizing t with
       |nil=>grind
       |cons a b k=>
        cases t with
         |zero=>simp at e;subst e;simp[B1,f]
         |succ t=>simp only[B1,Aa7];grind)
     simp only;rw[ZE ty v d];grind
theorem AJC:∀ (n slot:Nat),DQ n [] slot=List.range' slot n:=by
 intro n;induction n with
  |zero=>intro slot;rfl
  |succ n a=>intro slot;simp only[DQ,AcW];rw[a]
theorem Yw{H H':List Ob}{fz fz':List Bool}:∀ (ids:List Nat),(∀ i∈ids,Bi H fz i=Bi H' fz' i)->Gq H fz ids []=Gq H' fz' ids []:=by
 intro ids;induction ids with
  |nil=>intro _;rfl
  |cons a ids b=>intro h;simp only[Gq,List.tail_nil];grind
theorem ACV{H:List Ob}{e:List AV}:∀ (its:A1) (fz:List Bool) (b:List Bnd) (x:Bd (leaves its)) (a:List Bnd) (d:List Nat),fG its=true->dec (lk e) H its fz b=some (x,a,d)->a=b:=by
 intro its;induction its with
  |nil=>intro fz b x a d _ h;simp only[dec,Aas]at h;grind
  |cons p r f=>
   intro fz b x a d hd h;obtain⟨l,c⟩:=p;cases l<;>cases c<;>simp only[fG]at hd<;>try (cases hd;done)
   simp only[dec]at h;grind
theorem Nm{np j:Nat}{its outs:A1}{rs:List RS}{f:Bd (leaves its)->Option (Bd (leaves outs))}(hd:fG its=true)(l:Nat.ble (Db outs) 4=true):H4 (BT np j its outs rs f):=by
 intro R args H H' fz fz' slot k d;unfold BT;rw[AJ3 d.heap its fz fz' hd];split;rfl;rename_i x m e b;have c:=ACV its fz' [] x m e hd b;subst c;split;rfl;split;rfl;rename_i y n;simp only[List.take_nil,List.drop_nil];have a:∀ (g:List Nat) (i:Nat),i∈DQ (Db outs) [] slot->Bi H (BN g fz) i=Bi H' (BN g fz') i:=by intro g i hi;rw[AJC,Adj]at hi;have:=AbP l;exact FP d hi.1 (by omega) g
 unfold Hz;rw[show Gq H fz (DQ (Db outs) [] slot) []=Gq H' fz' (DQ (Db outs) [] slot) []from Yw _ (a []),Yw _ (a e)]
end
def py{α:Type}(xs:List α):Option (List α):=match vc (A2 xs)with
 |true=>some xs
 |false=>none
def QA[Lk]{α:Type}(xs:List α):Option (List α):=Lk.f (py xs)
theorem lD{α:Type}(xs:List α):QA xs=py xs:=A0 _
noncomputable def Di[Lk](e:TypeId)(t:Ty):Spec:=fun R args H fz slot k=>
 match args with
 |[x]=>match GW H (.slice t) x with
  |some (xs,_)=>match(QA xs:Option (List t.den))with
   |none=>none
   |some y=>(match Bi H fz slot with|true=>k (.own slot) { objs:=[(slot,.arr e t y)] }|false=>none)
  |none=>none
 |_=>none
def Yp:Code->Nat->List Oper
 |.region id ops _,n=>if id=n then ops.toList else []
 |.seq a b,n=>Yp a n++Yp b n
 |.cond _ a b,n=>Yp a n++Yp b n
 |.block _ c,n=>Yp c n
 |.scope c,n=>Yp c n
 |.loop c,n=>Yp c n
 |_,_=>[]
def Ce(fn:Func)(n i:Nat):Oper:=((Yp (Bu fn) n)[i]?).getD default
structure FE(P:Program)(fn:Func)(T e:TypeId)(t:Ty):Prop where
 body:fn.body=some (.seq (.region 0 #[Ce fn 0 0] false) (.seq (.seq (.region 1 #[Ce fn 1 0,Ce fn 1 1] false) (.cond (.tmp 4) (.seq (.region 2 #[Ce fn 2 0] false) .ret) .skip)) (.seq (.region 3 #[Ce fn 3 0,Ce fn 3 1,Ce fn 3 2,Ce fn 3 3] false) .ret)))
 nt:fn.ntmps=8
 res:fn.results = #[.tmp 2]
 d:(Ce fn 0 0).dst=some 2/\(Ce fn 1 0).dst=some 3/\(Ce fn 1 1).dst=some 4/\(Ce fn 2 0).dst=some 2/\(Ce fn 3 0).dst=some 5/\(Ce fn 3 1).dst=some 6/\(Ce fn 3 2).dst=some 7/\(Ce fn 3 3).dst=some 2
 g:(Ce fn 0 0).guard=none/\(Ce fn 1 0).guard=none/\(Ce fn 1 1).guard=none/\(Ce fn 2 0).guard=none/\(Ce fn 3 0).guard=none/\(Ce fn 3 1).guard=none/\(Ce fn 3 2).guard=none/\(Ce fn 3 3).guard=none
 o00:(Ce fn 0 0).op = .assign (.const (.slice none 0 0))
 o10:(Ce fn 1 0).op = .move (.tmp 0)
 o11:(Ce fn 1 1).op = .binOp .eql T (.tmp 3) (.const (.slice none 0 0)) T
 o20:(Ce fn 2 0).op = .assign (.const (.slice none 0 0))
 o30:(Ce fn 3 0).op = .buildSlice T 0 #[]
 o31:(Ce fn 3 1).op = .move (.tmp 0)
 o32:(Ce fn 3 2).op = .call { callee:=.builtin .append,args:=#[.tmp 5,.tmp 6],argTypes:=#[T,T] }
 o33:(Ce fn 3 3).op = .assign (.tmp 7)
 sl:sliceAt P T=some (e,t)
 z:(zeroAt P e).isSome=true
 by1:(P.info? e).map (fun i=>decide (i.bytes<=1024))=some true
section
variable {P:Program} {g:FuncId}
theorem DI{ops:Array Oper}{Q:Exit->Act->World->Prop}{i:Nat}{b:List Nat}{a:Act}{w:World}{o:Oper}(c:ops[i]? = some o)(d:o.guard=none)(h:o.wp P a w (wpOps P ops Q b) Q):wpOps P ops Q (i::b) a w:=by simp only[wpOps,c];rw[Aa5 (by simp[Region.wanted,d])];grind
theorem C3{o:Oper}{a:Act}{w w':World}{next:Act->World->Prop}{Q:Exit->Act->World->Prop}{u:Value}(h:(execOp a.eval o).run P w = .ok (.value u) w')(b:next (a.put o.dst u) w'):o.wp P a w next Q:=by unfold Oper.wp;rw[h];exact b
variable {fn:Func} {T e:TypeId} {t:Ty}
theorem Ms{P:Program}{w:World}{ρ:Operand->Value}{o:Oper}{x:Operand}(h:o.op = .move x):(execOp ρ o).run P w = .ok (.value (ρ x)) w:=by simp[execOp,h]
theorem Ii{P:Program}{w:World}{ρ:Operand->Value}{o:Oper}{x:Operand}(h:o.op = .assign x):(execOp ρ o).run P w = .ok (.value (ρ x)) w:=by simp[execOp,h]
theorem Ku (hs : FE P fn T e t) (hf : P.funcs[g]? = some fn) (hn : (fn.name == "runtime.NumGoroutine") = false) : BS P g (Di e t) := by
 intro R args H fz slot k r hk;unfold Di at hk;split at hk;rename_i x;split at hk;rename_i xs fr hx;split at hk;cases hk;rename_i y hy;split at hk;rename_i hfree;refine⟨_,_,hk,fun R' k'=>by simp only[Di,hx,hy,hfree],Cj hf (by rw[hs.body];rfl) hn,fun w F m vals hi hr => ?_⟩;rw[lD]at hy;unfold py at hy;split at hy;rename_i hfit;simp only[Aas]at hy;subst hy;have hr0:=hr;unfold BG at hr;obtain⟨v,vs',rfl,hrv,hnil⟩:=hr;unfold BG at hnil;subst hnil;obtain⟨hu,hty0,hpos⟩:=Cy hs.sl;obtain⟨zz,hzz⟩:=Ab0.1 hs.z;obtain⟨t',cs'⟩:=zz;obtain⟨hty',hcs',i,z,hi0,hz0,hok,hsz,hza⟩:=Ci hzz;subst hcs';have:t'=t:=by grind
 subst this;have hzs:z.cells.size=i.size:=by have hzd:=Ca (w:=default) (F:=fun _=>False) t' _ hok;rw[hsz,<- AbH];exact Dat.length t' hzd
 have hby':i.bytes<=1024:=by simpa [hi0]using hs.by1
 obtain⟨A,c,rfl,q2,q3,news,q4,q5⟩:=E8 hi hx hrv;have hfit':xs.length<=4294967296:=by have:(xs.length:Int)<=4294967296:=(Xu _).1 hfit;omega
 refine calls_of_wp hf hs.body ?_;obtain⟨d0,d1,d2,d3,d4,d5,d6,d7⟩:=hs.d;obtain⟨g0,g1,g2,g3,g4,g5,g6,g7⟩:=hs.g;have hres:∀ (tm:Array Value) (w0:World),(results fn tm).run P w0 = .ok (tm.getD 2 undef) w0:=fun tm w0=>by simp[results,hs.res]
 refine wp_seq (wp_region ?_);simp only[Ab9,Aa1,Aa8,AbJ,AdD,AbW];refine DI (by rfl) g0 (C3 (Ii hs.o00) ?_);refine wp_seq (wp_seq (wp_region ?_));simp only[Ab9,Aa1,Aa8,AbJ,AdD,AbW,AbO];refine DI (by rfl) g1 (C3 (Ms hs.o10) ?_);refine DI (by rfl) g2 (C3 (u:=.bool A.isNone) (w':=w) (by simp[execOp,hs.o11,Act.eval,Act.put,d0,d1,hs.nt,eqGuard,Lib.run_eql_slice_nil _ _ _ _ _ _ _ _ hu]) ?_);cases A with
  |none=>
   have hxs:xs=[]:=by grind
   subst hxs;refine wp_cond_true (by simp[Act.eval,Act.put,d0,d1,d2,hs.nt]) ?_;refine wp_seq (wp_region ?_);simp only[Ab9,Aa1,Aa8,AbJ,AdD,AbW];refine DI (by rfl) g3 (C3 (Ii hs.o20) ?_);refine wp_ret ?_;refine⟨by simp[Act.put,d0,d1,d2,d3],_,hres _ _,?_⟩;obtain⟨m',hg,hrep⟩:=E4 (w:=w) hi hfree e hpos none;refine⟨_,rfl,F,m',hg,?_⟩;show Rep _ _ _ (H.set slot _) _ _;simpa [Act.put,Act.eval,d0,d1,d2,d3,hs.nt]using hrep
  |some ad=>
   refine wp_cond_false (by simp[Act.eval,Act.put,d0,d1,d2,hs.nt]) ?_;refine wp_skip ?_;refine wp_seq (wp_region ?_);simp only[Ab9,Aa1,Aa8,AbJ,AdD,AbW,AbO];refine DI (by rfl) g4 (C3 (u:=.slice (some ⟨w.heap.size,0,none⟩) 0 0) (w':=w.alloc (.cells #[] e)) (by have:=KO (P:=P) (w:=w) (len:=0) (parts:=#[]) (us:=#[]) hu hi0 hz0 hsz (by omega) (by simp[Instr.fill]);simp[execOp,hs.o30,this]) ?_)
   refine DI (by rfl) g5 (C3 (Ms hs.o31) ?_);have hga:=BU.grow (w':=w.alloc (.cells #[] e)) hi rfl rfl rfl (by simp) (fun b hb=>Below.heap_alloc w _ b hb)
   obtain⟨v,w',m',hrun,hg,hrep⟩:=G4 (P:=P) (T:=T) (ty:=(Ce fn 3 2).type) hga.2 hfree hu hi0 hz0 hzs hsz hpos hby' hfit' (some ⟨w.heap.size,0,none⟩) (A:=some ad) (c:=c) (ys:=xs) (news:=news) (fun _=>rfl)
    (CC (fun x _ cs hx=>hx.mono (fun a ha=>by simp[World.cell?,Below.heap_alloc w _ _ (hi.lt _ ha)]) (fun _ h=>h) t') q4) (fun ad' h j u hu'=>by
     have:=q5 ad' h j u hu'
     exact Lib.cell?_alloc_some _ this)
   refine DI (by rfl) g6 (C3 (u:=v) (w':=w') (by simp[execOp,hs.o32,resolve,invoke,builtin,Act.eval,Act.put,d0,d1,d2,d4,d5,hs.nt,hrun]) ?_)
   refine DI (by rfl) g7 (C3 (Ii hs.o33) ?_);refine wp_ret ?_;refine⟨by simp[Act.put,d0,d1,d2,d4,d5,d6,d7],_,hres _ _,?_⟩;refine⟨_,rfl,F,m',hga.trans hg,?_⟩;show Rep _ _ _ (H.set slot _) _ _;simpa [Act.put,Act.eval,d0,d1,d2,d4,d5,d6,d7,hs.nt]using hrep
 grind;grind;grind;grind
theorem Bw(e:TypeId)(t:Ty):H4 (Di e t):=by
 intro R args H H' fz fz' slot k b;unfold Di;cases args with
  |nil=>rfl
  |cons x r=>cases r with
   |cons y r=>rfl
   |nil=>
    simp only
    rw[Cw (.slice t) x fun id a=>b.heap id (by simpa [B1]using a)]
    have:=FP b (s:=slot) (Aax _) (by omega) []
    simp only[BN]at this
    rw[this]
end
abbrev U0:Ty:=(.int .i64)
abbrev U1:Ty:=(.prod U0 (.prod U0 (.prod U0 (.prod .bool .unit))))
abbrev U2:Ty:=(.prod U0 (.prod U0 .unit))
abbrev U3:=(Int×Int×Unit)
abbrev U4:=(Int×Int×Int×Bool×Unit)
abbrev U5:=(Int×Int×Int×Int×Unit)
abbrev U6:=(List Int)
abbrev U7:Ty:=(.slice U0)
abbrev U8:Ty:=(.prod U0 (.prod U0 U2))
abbrev U9:Ty:=(.int .u32)
abbrev Ua:=(Int×Int×Int×Unit)
abbrev Ub:=(Int×Unit)
abbrev Uc:=(Int×(List U4)×Unit)
abbrev Ud:=(Bool×Unit)
abbrev Ue:=(List U5×Int×List Bool×List U6×Bool×Int×Int×List U4×Int×Unit)
abbrev Uf:Ty:=(.slice U7)
abbrev Ug:Ty:=(.prod U0 (.prod U0 (.prod (.slice (.arr 2 U0)) .unit)))
abbrev Uh:Ty:=(.slice U1)
abbrev Ui:=(Int×Int)
abbrev Uj:=(List Int×Unit)
abbrev Uk:=(Int×Int×(List U6)×Unit)
abbrev Ul:Ty:=(.slice U2)
abbrev Um:=(List Int×Int×Int×Unit)
abbrev Un:Ty:=(.prod U0 (.prod Uh .unit))
abbrev Uo:Ty:=(.slice .bool)
abbrev Up:=(Int×(List U6)×Unit)
abbrev Uq:=(List U5×Int×List Bool×List U6×Bool×Int×Int×Int×Int×Int×Bool×Int×Unit)
abbrev Ur:=(Int×Int×Int×Int×Int×Unit)
abbrev Us:=(Int×(List U3)×(List Ua)×Unit)
abbrev Ut:=(List Int×Int×Unit)
abbrev Uu:Ty:=(.slice U8)
abbrev Uv:=(List Int×List Int×Int×Int×List Int×List Int×Int×Int×Unit)
abbrev Uw:Ty:=(.slice (.prod U0 U2))
abbrev Ux:=(Int×List U6×List Ui×Int×List U6×Int×Int×List Int×Int×Int×Bool×List Int×Bool×Bool×List Int×Int×List Int×Int×Bool×Int×List Int×Bool×Bool×List Int×Int×Int×Unit)
abbrev Uy:Ty:=(.slice U9)
abbrev Uz:=(List U3×Unit)
abbrev V0:=(Int×Int×U6×Unit)
abbrev V1:Ty:=(.prod (.prod Uu (.prod U0 (.prod Uo .unit))) (.prod Uf (.prod .bool U2)))
abbrev V2:=(List U5×Int×List Bool×List U6×Bool×Int×Int×List Ui×List U6×Int×Int×Unit)
abbrev V3:=(List Int×Int×Int×Int×List Int×Int×Int×Unit)
abbrev V4:=(U3×Int)
abbrev V5:=(List Int×Int×List Int×Int×Int×List Int×List Int×Int×Int×Unit)
abbrev V6:Ty:=(.prod U0 (.prod Uf .unit))
abbrev V7:=(Int×Int×List Int×List Ui×List (Int×(List U3))×Int×Int×Int×Bool×List U4×Int×Int×Int×Int×Bool×List Int×Int×Unit)
abbrev V8:=(List Int×List Int×List Int×Int×Int×Unit)
abbrev V9:=(Int×List U4×Int×List U4×Int×Int×Unit)
abbrev Va:=(Int×List U4×List U3×Int×Unit)
abbrev Vb:=(Int×Int×Uk×Unit)
abbrev Vc:=(Uc×Int×Int×Unit)
abbrev Vd:Ty:=(.prod U0 (.prod U0 (.prod Ug .unit)))
abbrev Ve:=(Int×List U4×Int×Int×Int×Int×Int×Int×List U6×Int×Int×Int×Int×List V0×List Us×Int×Int×Unit)
abbrev Vf:=(Int×Bool×Int×Int×List U5×Int×List Bool×List U6×Bool×Int×Int×List U4×List U6×Int×Int×Unit)
abbrev Vg:=(List U5×Int×List Bool×List U6×Bool×Int×Int×List Ui×List U6×Int×Int×List Int×Int×Int×Unit)
abbrev Vh:=(Int×(List U3))
abbrev Vi:=(List U3×List V4×Int×Int×Unit)
abbrev Vj:=(List Int×Int×List Int×Int×Int×List Int×Int×List Int×Int×Int×List Int×Int×Int×Unit)
abbrev Vk:=(Int×List U3×List Ua×Int×Unit)
abbrev Vl:=(Int×List U4×Int×Int×Int×Int×Int×Unit)
abbrev Vm:Ty:=(.int .u64)
abbrev Vn:=(List Int×Int×Int×Int×Unit)
def I4:List Int:=[0,1,2,2,3,3,3,3,4,4,4,4,4,4,4,4,5,5,5,5,5,5,5,5,5,5,5,5,5,5,5,5,6,6,6,6,6,6,6,6,6,6,6,6,6,6,6,6,6,6,6,6,6,6,6,6,6,6,6,6,6,6,6,6,7,7,7,7,7,7,7,7,7,7,7,7,7,7,7,7,7,7,7,7,7,7,7,7,7,7,7,7,7,7,7,7,7,7,7,7,7,7,7,7,7,7,7,7,7,7,7,7,7,7,7,7,7,7,7,7,7,7,7,7,7,7,7,7,8,8,8,8,8,8,8,8,8,8,8,8,8,8,8,8,8,8,8,8,8,8,8,8,8,8,8,8,8,8,8,8,8,8,8,8,8,8,8,8,8,8,8,8,8,8,8,8,8,8,8,8,8,8,8,8,8,8,8,8,8,8,8,8,8,8,8,8,8,8,8,8,8,8,8,8,8,8,8,8,8,8,8,8,8,8,8,8,8,8,8,8,8,8,8,8,8,8,8,8,8,8,8,8,8,8,8,8,8,8,8,8,8,8,8,8,8,8,8,8,8,8,8,8,8,8,8,8]
abbrev Z':A1:=[(.tmp 0,.dat Vm)]
abbrev AA:Loc×Con:=(.tmp 0,.di)
abbrev Bg:A1:=[AA]
abbrev A8:List RS:=[.one]
def oK[Lk]:Ub->Option (Ub):=fun(a,_)=>
 match(ile 4294967296 a)with
 |true=>match shr? .u64 a 32 with|none=>none|some b=>match(ile 65536 b)with
  |true=>match shr? .u64 b 16 with|none=>none|some c=>match(ile 256 c)with
   |true=>match shr? .u64 c 8 with|none=>none|some e=>match idx I4 (IntKind.wrap .u8 e)with|none=>none|some f=>some ((w64 ((w64 ((w64 (32+16))+8))+(w64 f))),())
   |false=>match idx I4 (IntKind.wrap .u8 c)with|none=>none|some g=>some ((w64 ((w64 (32+16))+(w64 g))),())
  |false=>match(ile 256 b)with
  |true=>match shr? .u64 b 8 with|none=>none|some h=>match idx I4 (IntKind.wrap .u8 h)with|none=>none|some i=>some ((w64 ((w64 (32+8))+(w64 i))),())
  |false=>match idx I4 (IntKind.wrap .u8 b)with|none=>none|some j=>some ((w64 (32+(w64 j))),())
 |false=>match(ile 65536 a)with
 |true=>match shr? .u64 a 16 with|none=>none|some d=>match(ile 256 d)with
  |true=>match shr? .u64 d 8 with|none=>none|some k=>match idx I4 (IntKind.wrap .u8 k)with|none=>none|some l=>some ((w64 ((w64 ((w64 (0+16))+8))+(w64 l))),())
  |false=>match idx I4 (IntKind.wrap .u8 d)with|none=>none|some m=>some ((w64 ((w64 (0+16))+(w64 m))),())
 |false=>match(ile 256 a)with
 |true=>match shr? .u64 a 8 with|none=>none|some n=>match idx I4 (IntKind.wrap .u8 n)with|none=>none|some o=>some ((w64 ((w64 (0+8))+(w64 o))),())
 |false=>match idx I4 (IntKind.wrap .u8 a)with|none=>none|some p=>some ((w64 (0+(w64 p))),())
def AEl[Lk]:=lkk oK
theorem vC v:AEl v=oK v:=A0 _
def YE[Lk]:Ub->Option (Ub):=fun(a,_)=>
 match AEl (a,())with|none=>none|some (b,_)=>some (b,())
def bitsLen[Lk]:=lkk YE
theorem fa v:bitsLen v=YE v:=A0 _
abbrev AFX:A1:=[(.tmp 0,.box 1),(.cell 0 0,.dat Vm)]
abbrev AB:Loc×Con:=(.obj 0,.box 1)
abbrev AFW:A1:=[AB,(.cell 0 0,.dat Vm),(.tmp 0,.dat Vm)]
def Ws[Lk]:Ub->Option (U3):=fun(a,_)=>
 match shl? .u64 a 13 with|none=>none|some b=>match shr? .u64 (IntKind.wrap .u64 ((BitVec.ofInt (IntKind.bits .u64) a ^^^ BitVec.ofInt (IntKind.bits .u64) b).toNat)) 7 with|none=>none|some c=>match shl? .u64 (IntKind.wrap .u64 ((BitVec.ofInt (IntKind.bits .u64) (IntKind.wrap .u64 ((BitVec.ofInt (IntKind.bits .u64) a ^^^ BitVec.ofInt (IntKind.bits .u64) b).toNat)) ^^^ BitVec.ofInt (IntKind.bits .u64) c).toNat)) 17 with|none=>none|some d=>some ((IntKind.wrap .u64 ((BitVec.ofInt (IntKind.bits .u64) (IntKind.wrap .u64 ((BitVec.ofInt (IntKind.bits .u64) (IntKind.wrap .u64 ((BitVec.ofInt (IntKind.bits .u64) a ^^^ BitVec.ofInt (IntKind.bits .u64) b).toNat)) ^^^ BitVec.ofInt (IntKind.bits .u64) c).toNat)) ^^^ BitVec.ofInt (IntKind.bits .u64) d).toNat)),(IntKind.wrap .u64 ((BitVec.ofInt (IntKind.bits .u64) (IntKind.wrap .u64 ((BitVec.ofInt (IntKind.bits .u64) (IntKind.wrap .u64 ((BitVec.ofInt (IntKind.bits .u64) a ^^^ BitVec.ofInt (IntKind.bits .u64) b).toNat)) ^^^ BitVec.ofInt (IntKind.bits .u64) c).toNat)) ^^^ BitVec.ofInt (IntKind.bits .u64) d).toNat)),())
def xorNext[Lk]:=lkk Ws
theorem ay v:xorNext v=Ws v:=A0 _
def XU[Lk]:Ub->Option (Ub):=fun(a,_)=>
 match bitsLen ((IntKind.wrap .u64 a),())with|none=>none|some (b,_)=>match shl? .u64 1 b with|none=>none|some c=>some (c,())
def Z7[Lk]:=lkk XU
theorem dU v:Z7 v=XU v:=A0 _
abbrev AD:Loc×Con:=(.tmp 0,.dat .bool)
abbrev BX:A1:=[AD]
def bS[Lk]:Ub->Option (Ud):=fun(a,_)=>
 match(ile 1 a)with
 |true=>some ((ile a 64),())
 |false=>some (false,())
def SO[Lk]:=lkk bS
theorem jI v:SO v=bS v:=A0 _
abbrev AE:Loc×Con:=(.tmp 1,.di)
abbrev R0:A1:=[AA,AE]
def ALn[Lk]:U3->Option (Ud):=fun(a,b,_)=>
 match SO (a,())with|none=>none|some (c,_)=>match c with
 |true=>match(ile 0 b)with
  |true=>some ((ilt b a),())
  |false=>some (false,())
 |false=>some (false,())
def tin[Lk]:=lkk ALn
theorem ALm v:tin v=ALn v:=A0 _
abbrev AF:Loc×Con:=(.tmp 2,.di)
abbrev ALs:A1:=[AA,AE,AF]
def yZ[Lk]:Ua->Option (Ub):=fun(a,b,c,_)=>
 match(ieq b c)with
 |true=>some ((-1:Int),())
 |false=>match tin (a,b,())with|none=>none|some (d,_)=>match(!d)with
 |true=>some ((-1:Int),())
 |false=>match tin (a,c,())with|none=>none|some (e,_)=>match(!e)with
 |true=>some ((-1:Int),())
 |false=>some ((w64 ((w64 (a*(w64 (b+1))))+c)),())
def ALt[Lk]:=lkk yZ
theorem ADY v:ALt v=yZ v:=A0 _
abbrev AG:Loc×Con:=(.tmp 3,.dat .bool)
abbrev AH:Loc×Con:=(.tmp 2,.dat .bool)
abbrev ALM:A1:=[AA,AE,AH,AG]
abbrev TY:List RS:=[.one,.one,.one,.one]
def bR[Lk]:U3->Option ((Int×Int×Bool×Bool×Unit)):=fun(a,b,_)=>
 match SO (a,())with|none=>none|some (e,_)=>match(!e)with
 |true=>some (0,0,false,false,())
 |false=>match(ilt b 0)with
 |true=>some (0,0,false,false,())
 |false=>match(ile (w64 (a*(w64 (a+1)))) b)with
 |true=>some (0,0,false,false,())
 |false=>match(ilt b a)with
 |true=>some (b,0,false,true,())
 |false=>match quo? .i64 b a with|none=>none|some c=>match rem? b a with|none=>none|some d=>match(ieq (w64 (c-1)) d)with
 |true=>some (0,0,false,false,())
 |false=>some ((w64 (c-1)),d,true,true,())
def mR[Lk]:=lkk bR
theorem jH v:mR v=bR v:=A0 _
abbrev ARn:A1:=[AA,(.tmp 1,.own 40 U7),AF]
abbrev ADT:List RS:=[.agg 2,.one]
abbrev AI:Loc×Con:=(.cell 0 0,.di)
abbrev AJ:Loc×Con:=(.tmp 2,.box 2)
abbrev AK:Loc×Con:=(.cell 1 0,.di)
abbrev AL:Loc×Con:=(.tmp 4,.box 2)
abbrev AM:Loc×Con:=(.tmp 13,.di)
abbrev AN:Loc×Con:=(.tmp 12,.di)
abbrev ALc:A1:=[AJ,AI,(.cell 0 1,.nil U7),AL,AK,(.cell 1 1,.own 40 U7),AN,AM]
abbrev ALb:BJ:=[(.exit 0,[AJ,AI,(.cell 0 1,.nil U7),AL,AK,(.cell 1 1,.own 40 U7)])]
def O4[Lk]:(Int×Int×List U6×Int×Int×Unit)->Option ((Int×Int×List U6×Int×Int×Unit)⊕(Int×Int×List U6×Unit)⊕Unit):=fun(c,d,b,e,a,_)=>
 match(ilt a e)with
 |true=>match(fits ((A2 b)+(A2 ([([a]:List (Int))]:List U6))))with
  |true=>some (.inl (c,d,(B2 b ([([a]:List (Int))]:List U6)),e,(w64 (a+1)),()))
  |false=>none
 |false=>some (.inr (.inl (c,d,b,())))
def mW[Lk]:Ub->Option ((Int×List U6×Int×Unit)):=fun(a,_)=>
 match SO (a,())with|none=>none|some (b,_)=>match(!b)with
 |true=>some (0,([]:List U6),1,())
 |false=>match A' O4 many (0,a,([]:List U6),a,0,())with|none=>none|some r=>match r with
 |.inl (e,c,d,_)=>some (c,d,0,())
 |.inr _=>none
def ADU[Lk]:=lkk mW
theorem ry v:ADU v=mW v:=A0 _
abbrev AO:Loc×Con:=(.tmp 0,.dat U7)
abbrev Pm:A1:=[AO,AE]
abbrev AP:Loc×Con:=(.tmp 8,.di)
abbrev AQ:Loc×Con:=(.tmp 7,.di)
abbrev AI8:A1:=[AO,AE,AQ,AP]
abbrev AR:Loc×Con:=(.tmp 4,.di)
abbrev J1:BJ:=[(.ret,[AR]),(.exit 0,[])]
def Ml[Lk]:Vn->Option (Vn⊕Ub⊕(Unit)⊕Unit):=fun(b,c,d,a,_)=>
 match(ilt a d)with
 |true=>match idx b a with|none=>none|some e=>match(ieq c e)with
  |true=>some (.inr (.inl (a,())))
  |false=>some (.inl (b,c,d,(w64 (a+1)),()))
 |false=>some (.inr (.inr (.inl ())))
def dz[Lk]:Ut->Option (Ub):=fun(a,b,_)=>
 match A' Ml many (a,b,(A2 a),0,())with|none=>none|some r=>match r with
 |.inl (c,_)=>some (c,())
 |.inr r=>match r with
 |.inl _=>some ((-1:Int),())
 |.inr _=>none
def Xj[Lk]:=lkk dz
theorem kP v:Xj v=dz v:=A0 _
def P5[Lk]:Ut->Option (Ud):=fun(a,b,_)=>
 match Xj (a,b,())with|none=>none|some (c,_)=>some ((ile 0 c),())
def J9[Lk]:=lkk P5
theorem VV v:J9 v=P5 v:=A0 _
abbrev dW:A1:=[AO]
abbrev AS:Loc×Con:=(.tmp 3,.di)
abbrev ATx:A1:=[AO,AS,AR]
abbrev AEX:BJ:=[(.exit 0,[AS])]
def UC[Lk]:Um->Option (Um⊕Ub⊕Unit):=fun(a,c,b,_)=>
 match(ilt b (A2 a))with
 |true=>match idx a b with|none=>none|some d=>some (.inl (a,(C8 c d),(w64 (b+1)),()))
 |false=>some (.inr (.inl (c,())))
def AA4[Lk]:Uj->Option (Ub):=fun(a,_)=>
 match(ilt (A2 a) 1)with
 |true=>none
 |false=>match idx a 0 with|none=>none|some b=>match A' UC many (a,b,1,())with|none=>none|some r=>match r with
 |.inl (c,_)=>some (c,())
 |.inr _=>none
def AOd[Lk]:=lkk AA4
theorem AEY v:AOd v=AA4 v:=A0 _
abbrev AUn:A1:=[(.tmp 0,.nil U0),AE]
abbrev AT:Loc×Con:=(.tmp 0,.own 3 U0)
abbrev Gr:A1:=[AT]
def ou[Lk]:Ub->Option (Uj):=fun(a,_)=>
 match(ilt a 0)with
 |true=>none
 |false=>match(ilt 0 (w64 (a-(w64 (0-0)))))with
 |true=>match EX ([]:List Unit) 0 0 with|none=>none|some _u0=>match(CY (w64 (a-(w64 (0-0)))))with
  |true=>match EX (Df (A4 (w64 (a-(w64 ((0:Int)-(0:Int)))))) (0:Int)) (0:Int) (0:Int)with|none=>none|some b=>some ((C5 (A4 (A2 b)) (Df (A4 (w64 (a-(w64 ((0:Int)-(0:Int)))))) (0:Int))),())
  |false=>none
 |false=>some (([]:List (Int)),())
def AEn[Lk]:=lkk ou
theorem vT v:AEn v=ou v:=A0 _
abbrev AU:Loc×Con:=(.tmp 0,.dat Uf)
abbrev AKF:A1:=[AU]
abbrev AW:Loc×Con:=(.tmp 6,.own 3 U0)
abbrev AX:Loc×Con:=(.tmp 27,.di)
abbrev AY:Loc×Con:=(.tmp 26,.di)
abbrev ACe:A1:=[AW,(.tmp 25,.dat Uf),AY,AX]
abbrev ACc:BJ:=[(.exit 2,[AW])]
def Ks[Lk]:(List Int×List U6×Int×Int×Unit)->Option ((List Int×List U6×Int×Int×Unit)⊕Uj⊕Unit):=fun(a,c,d,b,_)=>
 match(ilt b d)with
 |true=>match idx c b with|none=>none|some e=>match(fits ((A2 a)+(A2 e)))with
  |true=>some (.inl ((B2 a e),c,d,(w64 (b+1)),()))
  |false=>none
 |false=>some (.inr (.inl (a,())))
abbrev AZ:Loc×Con:=(.tmp 10,.di)
abbrev Aa:Loc×Con:=(.tmp 11,.di)
abbrev ACf:A1:=[AU,AS,(.tmp 9,.dat Uf),AZ,Aa]
abbrev ACd:BJ:=[(.exit 0,[AU,AS])]
def Kt[Lk]:(List U6×Int×List U6×Int×Int×Unit)->Option ((List U6×Int×List U6×Int×Int×Unit)⊕(List U6×Int×Unit)⊕Unit):=fun(c,a,d,e,b,_)=>
 match(ilt b e)with
 |true=>match idx d b with|none=>none|some f=>match(ilt (w64 (a+(A2 f))) 0)with
  |true=>none
  |false=>some (.inl (c,(w64 (a+(A2 f))),d,e,(w64 (b+1)),()))
 |false=>some (.inr (.inl (c,a,())))
def X8[Lk]:(List U6×Unit)->Option (Uj):=fun(a,_)=>
 match A' Kt many (a,0,a,(A2 a),0,())with|none=>none|some r=>match r with
 |.inl (b,c,_)=>match AEn (c,())with|none=>none|some (d,_)=>match A' Ks many (d,b,(A2 b),0,())with|none=>none|some r=>match r with
  |.inl (e,_)=>some (e,())
  |.inr _=>none
 |.inr _=>none
def RB[Lk]:=lkk X8
theorem fK v:RB v=X8 v:=A0 _
abbrev Po:A1:=[AO,(.tmp 1,.clo 212 [])]
abbrev ZW:A1:=[AO,(.tmp 1,.clo 212 []),AQ,AP]
def Ea[Lk]:Um->Option (Um⊕Ub⊕(Unit)⊕Unit):=fun(b,c,a,_)=>
 match(ilt a c)with
 |true=>match idx b a with|none=>none|some d=>match(ilt d 0)with
  |true=>some (.inr (.inl (a,())))
  |false=>match(ilt 10000 d)with
  |true=>some (.inr (.inl (a,())))
  |false=>some (.inl (b,c,(w64 (a+1)),()))
 |false=>some (.inr (.inr (.inl ())))
def Kh[Lk]:Uj->Option (Ub):=fun(a,_)=>
 match A' Ea many (a,(A2 a),0,())with|none=>none|some r=>match r with
 |.inl (b,_)=>some (b,())
 |.inr r=>match r with
 |.inl _=>some ((-1:Int),())
 |.inr _=>none
def Nx[Lk]:=lkk Kh
theorem Oe v:Nx v=Kh v:=A0 _
abbrev Ab:Loc×Con:=(.tmp 3,.map U0 U0)
abbrev Ac:Loc×Con:=(.tmp 9,.di)
abbrev ATo:A1:=[AO,Ab,(.tmp 7,.dat U7),AP,Ac]
abbrev ATn:BJ:=[(.exit 0,[AO,Ab])]
def T_[Lk]:(List Int×List Ui×List Int×Int×Int×Unit)->Option ((List Int×List Ui×List Int×Int×Int×Unit)⊕(List Int×List Ui×Unit)⊕Unit):=fun(c,a,d,e,b,_)=>
 match(ilt b e)with
 |true=>match idx d b with|none=>none|some f=>some (.inl (c,(BH a f (w64 (((A_ a f).getD 0)+1))),d,e,(w64 (b+1)),()))
 |false=>some (.inr (.inl (c,a,())))
def AAz[Lk]:Uj->Option (Ud):=fun(a,_)=>
 match A' T_ many (a,([]:List Ui),a,(A2 a),0,())with|none=>none|some r=>match r with
 |.inl (b,c,_)=>some ((ieq (A2 c) (A2 b)),())
 |.inr _=>none
def once[Lk]:=lkk AAz
theorem AER v:once v=AAz v:=A0 _
def bP[Lk]:Ut->Option (Uj):=fun(a,b,_)=>
 match EX a b (A2 a)with|none=>none|some c=>match EX a 0 b with|none=>none|some d=>match RB (([c,d]:List U6),())with|none=>none|some (e,_)=>some (e,())
def bQ[Lk]:=lkk bP
theorem jG v:bQ v=bP v:=A0 _
abbrev Xl:A1:=[AU,(.cap 1 0,.box 1),AI,(.tmp 1,.clo 259 [(0,0)])]
abbrev Xk:A1:=[AB,AI,AA]
abbrev US:A1:=[AB,AI,AU,(.tmp 1,.clo 259 [(0,0)]),AQ,AP]
abbrev UR:BJ:=[(.ret,[AB,AI,AR]),(.exit 0,[AB,AI])]
def Dp[Lk]:(Int×List U6×Int×Int×Unit)->Option ((Int×List U6×Int×Int×Unit)⊕U3⊕Ub⊕Unit):=fun(a,c,d,b,_)=>
 match(ilt b d)with
 |true=>match idx c b with|none=>none|some e=>match J9 (e,a,())with|none=>none|some (f,_)=>match f with
  |true=>some (.inr (.inl (a,b,())))
  |false=>some (.inl (a,c,d,(w64 (b+1)),()))
 |false=>some (.inr (.inr (.inl (a,()))))
def Hl[Lk]:(List U6×Int×Unit)->Option (U3):=fun(a,b,_)=>
 match A' Dp many (b,a,(A2 a),0,())with|none=>none|some r=>match r with
 |.inl (c,d,_)=>some (c,d,())
 |.inr r=>match r with
 |.inl (e,_)=>some (e,(-1:Int),())
 |.inr _=>none
def Kf[Lk]:=lkk Hl
theorem LN v:Kf v=Hl v:=A0 _
abbrev Ad:Loc×Con:=(.tmp 0,.dat V6)
abbrev O3:A1:=[Ad,AE]
def bY[Lk]:(Up×Int×Unit)->Option (Ub):=fun(a,b,_)=>
 match Kf (a.2.1,b,())with|none=>none|some (d,c,_)=>some (c,())
def Wz[Lk]:=lkk bY
theorem jK v:Wz v=bY v:=A0 _
abbrev Ae:Loc×Con:=(.tmp 1,.dat U7)
abbrev AYq:A1:=[AA,Ae]
abbrev Af:Loc×Con:=(.cell 0 2,.map U0 U0)
abbrev Ag:Loc×Con:=(.tmp 5,.box 3)
abbrev Ah:Loc×Con:=(.tmp 32,.di)
abbrev AUu:A1:=[AA,Ag,(.cell 0 0,.own 3 U0),(.cell 0 1,.map U0 U0),Af,(.tmp 30,.dat U7),(.tmp 31,.di),Ah]
abbrev Ai:Loc×Con:=(.tmp 4,.dat .bool)
abbrev AUt:BJ:=[(.ret,[Ai]),(.exit 0,[Ag,(.cell 0 0,.own 3 U0),(.cell 0 1,.map U0 U0),Af])]
def Q0[Lk]:(Int×List Int×List Ui×List Ui×List Int×Int×Int×Unit)->Option ((Int×List Int×List Ui×List Ui×List Int×Int×Int×Unit)⊕Ud⊕(List Int×List Ui×List Ui×Unit)⊕Unit):=fun(g,a,c,d,h,i,f,_)=>
 match(ilt f i)with
 |true=>match idx h f with|none=>none|some l=>match mR (g,l,())with|none=>none|some (e,b,j,m,_)=>match(!m)with
  |true=>some (.inr (.inl (false,())))
  |false=>match j with
  |true=>match idx a (w64 ((A2 a)-1))with|none=>none|some n=>match(!(ieq (A9 a (A4 (w64 ((A2 a)-1))) 0) e))with
   |true=>some (.inr (.inl (false,())))
   |false=>match(ilt 0 (w64 ((A2 a)-1)))with
   |true=>match idx a (w64 ((w64 ((A2 a)-1))-1))with|none=>none|some o=>match(ieq (A9 a (A4 (w64 ((w64 ((A2 a)-1))-1))) 0) b)with
    |true=>match EX a 0 (w64 ((A2 a)-1))with|none=>none|some k=>match(!j)with
     |true=>match idx (Iq 0 (A4 (A2 k)) a) (w64 ((((A4 (A2 k)):Nat):Int)-1))with|none=>none|some p=>match(!(ieq (A9 a (0+(A4 (w64 ((((A4 (A2 k)):Nat):Int)-1)))) 0) e))with
      |true=>some (.inr (.inl (false,())))
      |false=>match(!j)with
      |true=>some (.inl (g,(C5 (A4 (A2 k)) a),c,(BH d e (w64 (((A_ d e).getD 0)+1))),h,i,(w64 (f+1)),()))
      |false=>some (.inl (g,(C5 (A4 (A2 k)) a),c,d,h,i,(w64 (f+1)),()))
     |false=>match(!j)with
     |true=>some (.inl (g,(C5 (A4 (A2 k)) a),c,(BH d e (w64 (((A_ d e).getD 0)+1))),h,i,(w64 (f+1)),()))
     |false=>some (.inl (g,(C5 (A4 (A2 k)) a),c,d,h,i,(w64 (f+1)),()))
    |false=>match(ilt 0 ((A_ c b).getD 0))with
    |true=>some (.inr (.inl (false,())))
    |false=>match(fits ((A2 a)+(A2 ([b]:List (Int)))))with
    |true=>match(!j)with
     |true=>match idx (B2 a ([b]:List (Int))) (w64 ((A2 (B2 a ([b]:List (Int))))-1))with|none=>none|some q=>match(!(ieq (A9 (B2 a ([b]:List (Int))) (A4 (w64 ((A2 (B2 a ([b]:List (Int))))-1))) 0) e))with
      |true=>some (.inr (.inl (false,())))
      |false=>match(!j)with
      |true=>some (.inl (g,(B2 a ([b]:List (Int))),(BH c b (w64 (((A_ c b).getD 0)+1))),(BH d e (w64 (((A_ d e).getD 0)+1))),h,i,(w64 (f+1)),()))
      |false=>some (.inl (g,(B2 a ([b]:List (Int))),(BH c b (w64 (((A_ c b).getD 0)+1))),d,h,i,(w64 (f+1)),()))
     |false=>match(!j)with
     |true=>some (.inl (g,(B2 a ([b]:List (Int))),(BH c b (w64 (((A_ c b).getD 0)+1))),(BH d e (w64 (((A_ d e).getD 0)+1))),h,i,(w64 (f+1)),()))
     |false=>some (.inl (g,(B2 a ([b]:List (Int))),(BH c b (w64 (((A_ c b).getD 0)+1))),d,h,i,(w64 (f+1)),()))
    |false=>none
   |false=>match(ilt 0 ((A_ c b).getD 0))with
   |true=>some (.inr (.inl (false,())))
   |false=>match(fits ((A2 a)+(A2 ([b]:List (Int)))))with
   |true=>match(!j)with
    |true=>match idx (B2 a ([b]:List (Int))) (w64 ((A2 (B2 a ([b]:List (Int))))-1))with|none=>none|some r=>match(!(ieq (A9 (B2 a ([b]:List (Int))) (A4 (w64 ((A2 (B2 a ([b]:List (Int))))-1))) 0) e))with
     |true=>some (.inr (.inl (false,())))
     |false=>match(!j)with
     |true=>some (.inl (g,(B2 a ([b]:List (Int))),(BH c b (w64 (((A_ c b).getD 0)+1))),(BH d e (w64 (((A_ d e).getD 0)+1))),h,i,(w64 (f+1)),()))
     |false=>some (.inl (g,(B2 a ([b]:List (Int))),(BH c b (w64 (((A_ c b).getD 0)+1))),d,h,i,(w64 (f+1)),()))
    |false=>match(!j)with
    |true=>some (.inl (g,(B2 a ([b]:List (Int))),(BH c b (w64 (((A_ c b).getD 0)+1))),(BH d e (w64 (((A_ d e).getD 0)+1))),h,i,(w64 (f+1)),()))
    |false=>some (.inl (g,(B2 a ([b]:List (Int))),(BH c b (w64 (((A_ c b).getD 0)+1))),d,h,i,(w64 (f+1)),()))
   |false=>none
  |false=>match(!j)with
  |true=>match idx a (w64 ((A2 a)-1))with|none=>none|some s=>match(!(ieq (A9 a (A4 (w64 ((A2 a)-1))) 0) e))with
   |true=>some (.inr (.inl (false,())))
   |false=>match(!j)with
   |true=>some (.inl (g,a,c,(BH d e (w64 (((A_ d e).getD 0)+1))),h,i,(w64 (f+1)),()))
   |false=>some (.inl (g,a,c,d,h,i,(w64 (f+1)),()))
  |false=>match(!j)with
  |true=>some (.inl (g,a,c,(BH d e (w64 (((A_ d e).getD 0)+1))),h,i,(w64 (f+1)),()))
  |false=>some (.inl (g,a,c,d,h,i,(w64 (f+1)),()))
 |false=>some (.inr (.inr (.inl (a,c,d,()))))
def ABl[Lk]:(Int×List Int×Unit)->Option (Ud):=fun(b,a,_)=>
 match idx a 0 with|none=>none|some c=>match tin (b,c,())with|none=>none|some (d,_)=>match(!d)with
 |true=>some (false,())
 |false=>match idx a 0 with|none=>none|some e=>match idx a 0 with|none=>none|some f=>match A' Q0 many (b,([e]:List (Int)),(BH ([]:List Ui) f 1),([]:List Ui),a,(A2 a),0,())with|none=>none|some r=>match r with
 |.inl (g,_)=>some (g,())
 |.inr r=>match r with
 |.inl (h,i,j,_)=>match(ieq (A2 h) 1)with
  |true=>some ((ieq (A2 j) (A2 i)),())
  |false=>some (false,())
 |.inr _=>none
def goes[Lk]:=lkk ABl
theorem AEo v:goes v=ABl v:=A0 _
def Nk[Lk]:Ub->Option (Ud):=fun(a,_)=>
 some ((!(ieq a a)),())
def AIF[Lk]:=lkk Nk
theorem LI v:AIF v=Nk v:=A0 _
def Hu[Lk]:U3->Option (Ub):=fun(a,b,_)=>
 match AIF (a,())with|none=>none|some (d,_)=>match AIF (b,())with|none=>none|some (c,_)=>match d with
 |true=>match c with
  |true=>some (0,())
  |false=>some ((-1:Int),())
 |false=>match c with
 |true=>some (1,())
 |false=>match(ilt a b)with
 |true=>some ((-1:Int),())
 |false=>match(ilt b a)with
 |true=>some (1,())
 |false=>some (0,())
def Ed[Lk]:=lkk Hu
theorem Ir v:Ed v=Hu v:=A0 _
abbrev ADO:A1:=[AO,Ae]
def lq[Lk]:(List Int×List Int×Unit)->Option (Ub):=fun(a,b,_)=>
 match idx a 0 with|none=>none|some c=>match idx b 0 with|none=>none|some d=>match Ed (c,d,())with|none=>none|some (e,_)=>some (e,())
def C9[Lk]:=lkk lq
theorem ra v:C9 v=lq v:=A0 _
abbrev tLt[Lk](y:Int):Bool:=ilt y (0:Int)
abbrev tId[Lk](y:Bool):Bool:=y
def aE[Lk]{α β:Type}(z:α)(c:α×α×Unit->Option (β×Unit))(t:β->Bool):(List α×Int×Int×Int×Int×Unit)->Option ((List α×Int×Int×Int×Int×Unit)⊕(List α×Int×Int×Int×Unit)⊕Unit):=fun(b,d,e,f,a,_)=>
 match(ilt d a)with
 |true=>match idx b a with|none=>none|some h=>match idx b (w64 (a-1))with|none=>none|some i=>match c ((A9 b (A4 a) z),(A9 b (A4 (w64 (a-1))) z),())with|none=>none|some (g,_)=>match(t g)with
  |true=>match idx b (w64 (a-1))with|none=>none|some j=>match idx b a with|none=>none|some k=>match idx b a with|none=>none|some l=>match idx (Bl b (A4 a) (A9 b (A4 (w64 (a-1))) z)) (w64 (a-1))with|none=>none|some m=>some (.inl ((Bl (Bl b (A4 a) (A9 b (A4 (w64 (a-1))) z)) (A4 (w64 (a-1))) (A9 b (A4 a) z)),d,e,f,(w64 (a-1)),()))
  |false=>some (.inr (.inl (b,d,e,f,())))
 |false=>some (.inr (.inl (b,d,e,f,())))
def aF[Lk]{α β:Type}(z:α)(c:α×α×Unit->Option (β×Unit))(t:β->Bool):(List α×Int×Int×Int×Unit)->Option ((List α×Int×Int×Int×Unit)⊕(List α×Unit)⊕Unit):=fun(b,e,d,a,_)=>
 match(ilt a d)with
 |true=>match A' (aE z c t) many (b,e,d,a,a,())with|none=>none|some r=>match r with
  |.inl (f,g,h,i,_)=>some (.inl (f,g,h,(w64 (i+1)),()))
  |.inr _=>none
 |false=>some (.inr (.inl (b,())))
def Nw[Lk]{α β:Type}(z:α)(c:α×α×Unit->Option (β×Unit))(t:β->Bool):(List α×Int×Int×Unit)->Option ((List α×Unit)):=fun(b,a,d,_)=>
 match A' (aF z c t) many (b,a,d,(w64 (a+1)),())with|none=>none|some r=>match r with
 |.inl (e,_)=>some (e,())
 |.inr _=>none
def oU[Lk]{α β:Type}(z:α)(c:α×α×Unit->Option (β×Unit))(t:β->Bool)(v:(List α×Int×Int×Unit)):Option ((List α×Unit)):=Lk.f ((Nw z c t) v)
theorem AUS{α β:Type}(z:α)(c:α×α×Unit->Option (β×Unit))(t:β->Bool)(v:(List α×Int×Int×Unit)):(oU z c t) v=(Nw z c t) v:=A0 _
def Tq[Lk]{α β:Type}(z:α)(c:α×α×Unit->Option (β×Unit))(t:β->Bool):(List α×Int×Int×Int×Unit)->Option ((List α×Int×Int×Int×Unit)⊕(List α×Unit)⊕(List α×Unit)⊕Unit):=fun(d,e,b,a,_)=>
 match(ile e (w64 ((w64 (2*a))+1)))with
 |true=>some (.inr (.inl (d,())))
 |false=>match(ilt (w64 ((w64 ((w64 (2*a))+1))+1)) e)with
 |true=>match idx d (w64 (b+(w64 ((w64 (2*a))+1))))with|none=>none|some j=>match idx d (w64 ((w64 (b+(w64 ((w64 (2*a))+1))))+1))with|none=>none|some k=>match c ((A9 d (A4 (w64 (b+(w64 ((w64 (2*a))+1))))) z),(A9 d (A4 (w64 ((w64 (b+(w64 ((w64 (2*a))+1))))+1))) z),())with|none=>none|some (f,_)=>match(t f)with
  |true=>match idx d (w64 (b+a))with|none=>none|some l=>match idx d (w64 (b+(w64 ((w64 ((w64 (2*a))+1))+1))))with|none=>none|some m=>match c ((A9 d (A4 (w64 (b+a))) z),(A9 d (A4 (w64 (b+(w64 ((w64 ((w64 (2*a))+1))+1))))) z),())with|none=>none|some (g,_)=>match(!(t g))with
   |true=>some (.inr (.inr (.inl (d,()))))
   |false=>match idx d (w64 (b+(w64 ((w64 ((w64 (2*a))+1))+1))))with|none=>none|some n=>match idx d (w64 (b+a))with|none=>none|some o=>match idx d (w64 (b+a))with|none=>none|some p=>match idx (Bl d (A4 (w64 (b+a))) (A9 d (A4 (w64 (b+(w64 ((w64 ((w64 (2*a))+1))+1))))) z)) (w64 (b+(w64 ((w64 ((w64 (2*a))+1))+1))))with|none=>none|some q=>some (.inl ((Bl (Bl d (A4 (w64 (b+a))) (A9 d (A4 (w64 (b+(w64 ((w64 ((w64 (2*a))+1))+1))))) z)) (A4 (w64 (b+(w64 ((w64 ((w64 (2*a))+1))+1))))) (A9 d (A4 (w64 (b+a))) z)),e,b,(w64 ((w64 ((w64 (2*a))+1))+1)),()))
  |false=>match idx d (w64 (b+a))with|none=>none|some r=>match idx d (w64 (b+(w64 ((w64 (2*a))+1))))with|none=>none|some s=>match c ((A9 d (A4 (w64 (b+a))) z),(A9 d (A4 (w64 (b+(w64 ((w64 (2*a))+1))))) z),())with|none=>none|some (h,_)=>match(!(t h))with
  |true=>some (.inr (.inr (.inl (d,()))))
  |false=>match idx d (w64 (b+(w64 ((w64 (2*a))+1))))with|none=>none|some u=>match idx d (w64 (b+a))with|none=>none|some v=>match idx d (w64 (b+a))with|none=>none|some w=>match idx (Bl d (A4 (w64 (b+a))) (A9 d (A4 (w64 (b+(w64 ((w64 (2*a))+1))))) z)) (w64 (b+(w64 ((w64 (2*a))+1))))with|none=>none|some x=>some (.inl ((Bl (Bl d (A4 (w64 (b+a))) (A9 d (A4 (w64 (b+(w64 ((w64 (2*a))+1))))) z)) (A4 (w64 (b+(w64 ((w64 (2*a))+1))))) (A9 d (A4 (w64 (b+a))) z)),e,b,(w64 ((w64 (2*a))+1)),()))
 |false=>match idx d (w64 (b+a))with|none=>none|some y=>match idx d (w64 (b+(w64 ((w64 (2*a))+1))))with|none=>none|some A=>match c ((A9 d (A4 (w64 (b+a))) z),(A9 d (A4 (w64 (b+(w64 ((w64 (2*a))+1))))) z),())with|none=>none|some (i,_)=>match(!(t i))with
 |true=>some (.inr (.inr (.inl (d,()))))
 |false=>match idx d (w64 (b+(w64 ((w64 (2*a))+1))))with|none=>none|some B=>match idx d (w64 (b+a))with|none=>none|some C=>match idx d (w64 (b+a))with|none=>none|some D=>match idx (Bl d (A4 (w64 (b+a))) (A9 d (A4 (w64 (b+(w64 ((w64 (2*a))+1))))) z)) (w64 (b+(w64 ((w64 (2*a))+1))))with|none=>none|some E=>some (.inl ((Bl (Bl d (A4 (w64 (b+a))) (A9 d (A4 (w64 (b+(w64 ((w64 (2*a))+1))))) z)) (A4 (w64 (b+(w64 ((w64 (2*a))+1))))) (A9 d (A4 (w64 (b+a))) z)),e,b,(w64 ((w64 (2*a))+1)),()))
def JE[Lk]{α β:Type}(z:α)(c:α×α×Unit->Option (β×Unit))(t:β->Bool):(List α×Int×Int×Int×Unit)->Option ((List α×Unit)):=fun(a,b,d,e,_)=>
 match A' (Tq z c t) many (a,d,e,b,())with|none=>none|some r=>match r with
 |.inl (f,_)=>some (f,())
 |.inr r=>match r with
 |.inl (g,_)=>some (g,())
 |.inr _=>none
def R2[Lk]{α β:Type}(z:α)(c:α×α×Unit->Option (β×Unit))(t:β->Bool)(v:(List α×Int×Int×Int×Unit)):Option ((List α×Unit)):=Lk.f ((JE z c t) v)
theorem AMX{α β:Type}(z:α)(c:α×α×Unit->Option (β×Unit))(t:β->Bool)(v:(List α×Int×Int×Int×Unit)):(R2 z c t) v=(JE z c t) v:=A0 _
def U'[Lk]{α β:Type}(z:α)(c:α×α×Unit->Option (β×Unit))(t:β->Bool):(List α×Int×Int×Int×Unit)->Option ((List α×Int×Int×Int×Unit)⊕(List α×Unit)⊕Unit):=fun(b,a,e,d,_)=>
 match(ile 0 d)with
 |true=>match idx b (w64 (a+d))with|none=>none|some g=>match idx b a with|none=>none|some h=>match idx b a with|none=>none|some i=>match idx (Bl b (A4 a) (A9 b (A4 (w64 (a+d))) z)) (w64 (a+d))with|none=>none|some j=>match(R2 z c t) ((Bl (Bl b (A4 a) (A9 b (A4 (w64 (a+d))) z)) (A4 (w64 (a+d))) (A9 b (A4 a) z)),e,d,a,())with|none=>none|some (f,_)=>some (.inl (f,a,e,(w64 (d-1)),()))
 |false=>some (.inr (.inl (b,())))
def VA[Lk]{α β:Type}(z:α)(c:α×α×Unit->Option (β×Unit))(t:β->Bool):(List α×Int×Int×Int×Int×Unit)->Option ((List α×Int×Int×Int×Int×Unit)⊕(List α×Int×Int×Int×Unit)⊕Unit):=fun(e,a,f,b,d,_)=>
 match(ile 0 d)with
 |true=>match(R2 z c t) (e,d,b,a,())with|none=>none|some (g,_)=>some (.inl (g,a,f,b,(w64 (d-1)),()))
 |false=>some (.inr (.inl (e,a,f,b,())))
def JN[Lk]{α β:Type}(z:α)(c:α×α×Unit->Option (β×Unit))(t:β->Bool):(List α×Int×Int×Unit)->Option ((List α×Unit)):=fun(d,a,b,_)=>
 match quo? .i64 (w64 ((w64 (b-a))-1)) 2 with|none=>none|some e=>match A' (VA z c t) many (d,a,0,(w64 (b-a)),e,())with|none=>none|some r=>match r with
 |.inl (f,g,h,i,_)=>match A' (U' z c t) many (f,g,h,(w64 (i-1)),())with|none=>none|some r=>match r with
  |.inl (j,_)=>some (j,())
  |.inr _=>none
 |.inr _=>none
def VB[Lk]{α β:Type}(z:α)(c:α×α×Unit->Option (β×Unit))(t:β->Bool)(v:(List α×Int×Int×Unit)):Option ((List α×Unit)):=Lk.f ((JN z c t) v)
theorem APW{α β:Type}(z:α)(c:α×α×Unit->Option (β×Unit))(t:β->Bool)(v:(List α×Int×Int×Unit)):(VB z c t) v=(JN z c t) v:=A0 _
def M_[Lk]{α β:Type}(z:α)(c:α×α×Unit->Option (β×Unit))(t:β->Bool):(List α×Int×Int×Int×Int×Int×Unit)->Option ((List α×Int×Int×Int×Int×Int×Unit)⊕(List α×Unit)⊕Unit):=fun(a,b,g,i,d,e,_)=>
 match quo? .i64 g 4 with|none=>none|some j=>match(ile e (w64 ((w64 (b+(w64 (j*2))))+1)))with
 |true=>match xorNext (i,())with|none=>none|some (h,f,_)=>match(ile g (w64 (IntKind.wrap .u64 ((BitVec.ofInt (IntKind.bits .u64) f &&& BitVec.ofInt (IntKind.bits .u64) (IntKind.wrap .u64 (d-1))).toNat))))with
  |true=>match idx a (w64 (b+(w64 ((w64 (IntKind.wrap .u64 ((BitVec.ofInt (IntKind.bits .u64) f &&& BitVec.ofInt (IntKind.bits .u64) (IntKind.wrap .u64 (d-1))).toNat)))-g))))with|none=>none|some k=>match idx a e with|none=>none|some l=>match idx a e with|none=>none|some m=>match idx (Bl a (A4 e) (A9 a (A4 (w64 (b+(w64 ((w64 (IntKind.wrap .u64 ((BitVec.ofInt (IntKind.bits .u64) f &&& BitVec.ofInt (IntKind.bits .u64) (IntKind.wrap .u64 (d-1))).toNat)))-g))))) z)) (w64 (b+(w64 ((w64 (IntKind.wrap .u64 ((BitVec.ofInt (IntKind.bits .u64) f &&& BitVec.ofInt (IntKind.bits .u64) (IntKind.wrap .u64 (d-1))).toNat)))-g))))with|none=>none|some n=>some (.inl ((Bl (Bl a (A4 e) (A9 a (A4 (w64 (b+(w64 ((w64 (IntKind.wrap .u64 ((BitVec.ofInt (IntKind.bits .u64) f &&& BitVec.ofInt (IntKind.bits .u64) (IntKind.wrap .u64 (d-1))).toNat)))-g))))) z)) (A4 (w64 (b+(w64 ((w64 (IntKind.wrap .u64 ((BitVec.ofInt (IntKind.bits .u64) f &&& BitVec.ofInt (IntKind.bits .u64) (IntKind.wrap .u64 (d-1))).toNat)))-g))))) (A9 a (A4 e) z)),b,g,h,d,(w64 (e+1)),()))
  |false=>match idx a (w64 (b+(w64 (IntKind.wrap .u64 ((BitVec.ofInt (IntKind.bits .u64) f &&& BitVec.ofInt (IntKind.bits .u64) (IntKind.wrap .u64 (d-1))).toNat)))))with|none=>none|some o=>match idx a e with|none=>none|some p=>match idx a e with|none=>none|some q=>match idx (Bl a (A4 e) (A9 a (A4 (w64 (b+(w64 (IntKind.wrap .u64 ((BitVec.ofInt (IntKind.bits .u64) f &&& BitVec.ofInt (IntKind.bits .u64) (IntKind.wrap .u64 (d-1))).toNat)))))) z)) (w64 (b+(w64 (IntKind.wrap .u64 ((BitVec.ofInt (IntKind.bits .u64) f &&& BitVec.ofInt (IntKind.bits .u64) (IntKind.wrap .u64 (d-1))).toNat)))))with|none=>none|some r=>some (.inl ((Bl (Bl a (A4 e) (A9 a (A4 (w64 (b+(w64 (IntKind.wrap .u64 ((BitVec.ofInt (IntKind.bits .u64) f &&& BitVec.ofInt (IntKind.bits .u64) (IntKind.wrap .u64 (d-1))).toNat)))))) z)) (A4 (w64 (b+(w64 (IntKind.wrap .u64 ((BitVec.ofInt (IntKind.bits .u64) f &&& BitVec.ofInt (IntKind.bits .u64) (IntKind.wrap .u64 (d-1))).toNat)))))) (A9 a (A4 e) z)),b,g,h,d,(w64 (e+1)),()))
 |false=>some (.inr (.inl (a,())))
def G3[Lk]{α β:Type}(z:α)(c:α×α×Unit->Option (β×Unit))(t:β->Bool):(List α×Int×Int×Unit)->Option ((List α×Unit)):=fun(d,a,b,_)=>
 match(ile 8 (w64 (b-a)))with
 |true=>match Z7 ((w64 (b-a)),())with|none=>none|some (e,_)=>match quo? .i64 (w64 (b-a)) 4 with|none=>none|some f=>match A' (M_ z c t) many (d,a,(w64 (b-a)),(IntKind.wrap .u64 (w64 (b-a))),e,(w64 ((w64 (a+(w64 (f*2))))-1)),())with|none=>none|some r=>match r with
  |.inl (g,_)=>some (g,())
  |.inr _=>none
 |false=>some (d,())
def OE[Lk]{α β:Type}(z:α)(c:α×α×Unit->Option (β×Unit))(t:β->Bool)(v:(List α×Int×Int×Unit)):Option ((List α×Unit)):=Lk.f ((G3 z c t) v)
theorem AKg{α β:Type}(z:α)(c:α×α×Unit->Option (β×Unit))(t:β->Bool)(v:(List α×Int×Int×Unit)):(OE z c t) v=(G3 z c t) v:=A0 _
def FJ[Lk]{α β:Type}(z:α)(c:α×α×Unit->Option (β×Unit))(t:β->Bool):(List α×Int×Int×Int×Unit)->Option ((List α×Int×Int×Int×Unit)):=fun(a,b,d,e,_)=>
 match idx a d with|none=>none|some g=>match idx a b with|none=>none|some h=>match c ((A9 a (A4 d) z),(A9 a (A4 b) z),())with|none=>none|some (f,_)=>match(t f)with
 |true=>some (a,(w64 (e+1)),d,b,())
 |false=>some (a,e,b,d,())
def Gh[Lk]{α β:Type}(z:α)(c:α×α×Unit->Option (β×Unit))(t:β->Bool)(v:(List α×Int×Int×Int×Unit)):Option ((List α×Int×Int×Int×Unit)):=Lk.f ((FJ z c t) v)
theorem AAu{α β:Type}(z:α)(c:α×α×Unit->Option (β×Unit))(t:β->Bool)(v:(List α×Int×Int×Int×Unit)):(Gh z c t) v=(FJ z c t) v:=A0 _
def FK[Lk]{α β:Type}(z:α)(c:α×α×Unit->Option (β×Unit))(t:β->Bool):(List α×Int×Int×Int×Int×Unit)->Option ((List α×Int×Int×Unit)):=fun(a,b,d,e,f,_)=>
 match(Gh z c t) (a,b,d,f,())with|none=>none|some (g,h,i,j,_)=>match(Gh z c t) (g,j,e,h,())with|none=>none|some (k,l,m,q,_)=>match(Gh z c t) (k,i,m,l,())with|none=>none|some (n,o,r,p,_)=>some (n,o,p,())
def Gj[Lk]{α β:Type}(z:α)(c:α×α×Unit->Option (β×Unit))(t:β->Bool)(v:(List α×Int×Int×Int×Int×Unit)):Option ((List α×Int×Int×Unit)):=Lk.f ((FK z c t) v)
theorem ABD{α β:Type}(z:α)(c:α×α×Unit->Option (β×Unit))(t:β->Bool)(v:(List α×Int×Int×Int×Int×Unit)):(Gj z c t) v=(FK z c t) v:=A0 _
def FL[Lk]{α β:Type}(z:α)(c:α×α×Unit->Option (β×Unit))(t:β->Bool):(List α×Int×Int×Unit)->Option ((List α×Int×Int×Unit)):=fun(b,a,d,_)=>
 match(Gj z c t) (b,(w64 (a-1)),a,(w64 (a+1)),d,())with|none=>none|some (e,f,g,_)=>some (e,f,g,())
def Gk[Lk]{α β:Type}(z:α)(c:α×α×Unit->Option (β×Unit))(t:β->Bool)(v:(List α×Int×Int×Unit)):Option ((List α×Int×Int×Unit)):=Lk.f ((FL z c t) v)
theorem ABM{α β:Type}(z:α)(c:α×α×Unit->Option (β×Unit))(t:β->Bool)(v:(List α×Int×Int×Unit)):(Gk z c t) v=(FL z c t) v:=A0 _
def Ge[Lk]{α β:Type}(z:α)(c:α×α×Unit->Option (β×Unit))(t:β->Bool):(List α×Int×Int×Unit)->Option ((List α×Int×Int×Unit)):=fun(b,a,d,_)=>
 match quo? .i64 (w64 (d-a)) 4 with|none=>none|some j=>match quo? .i64 (w64 (d-a)) 4 with|none=>none|some e=>match quo? .i64 (w64 (d-a)) 4 with|none=>none|some k=>match(ile 8 (w64 (d-a)))with
 |true=>match(ile 50 (w64 (d-a)))with
  |true=>match(Gk z c t) (b,(w64 (a+(w64 (j*1)))),0,())with|none=>none|some (n,o,p,_)=>match(Gk z c t) (n,(w64 (a+(w64 (e*2)))),o,())with|none=>none|some (q,r,s,_)=>match(Gk z c t) (q,(w64 (a+(w64 (k*3)))),r,())with|none=>none|some (u,v,w,_)=>match(Gj z c t) (u,p,s,w,v,())with|none=>none|some (f,l,g,_)=>match(ieq l 0)with
   |true=>some (f,g,1,())
   |false=>match(ieq l 12)with
   |true=>some (f,g,2,())
   |false=>some (f,g,0,())
  |false=>match(Gj z c t) (b,(w64 (a+(w64 (j*1)))),(w64 (a+(w64 (e*2)))),(w64 (a+(w64 (k*3)))),0,())with|none=>none|some (h,m,i,_)=>match(ieq m 0)with
  |true=>some (h,i,1,())
  |false=>match(ieq m 12)with
  |true=>some (h,i,2,())
  |false=>some (h,i,0,())
 |false=>match(ieq 0 0)with
 |true=>some (b,(w64 (a+(w64 (e*2)))),1,())
 |false=>match(ieq 0 12)with
 |true=>some (b,(w64 (a+(w64 (e*2)))),2,())
 |false=>some (b,(w64 (a+(w64 (e*2)))),0,())
def Nf[Lk]{α β:Type}(z:α)(c:α×α×Unit->Option (β×Unit))(t:β->Bool)(v:(List α×Int×Int×Unit)):Option ((List α×Int×Int×Unit)):=Lk.f ((Ge z c t) v)
theorem AHE{α β:Type}(z:α)(c:α×α×Unit->Option (β×Unit))(t:β->Bool)(v:(List α×Int×Int×Unit)):(Nf z c t) v=(Ge z c t) v:=A0 _
def nM[Lk]{α β:Type}(z:α)(c:α×α×Unit->Option (β×Unit))(t:β->Bool):(List α×Int×Int×Unit)->Option ((List α×Int×Int×Unit)⊕(List α×Unit)⊕Unit):=fun(a,b,d,_)=>
 match(ilt b d)with
 |true=>match idx a d with|none=>none|some e=>match idx a b with|none=>none|some f=>match idx a b with|none=>none|some g=>match idx (Bl a (A4 b) (A9 a (A4 d) z)) d with|none=>none|some h=>some (.inl ((Bl (Bl a (A4 b) (A9 a (A4 d) z)) (A4 d) (A9 a (A4 b) z)),(w64 (b+1)),(w64 (d-1)),()))
 |false=>some (.inr (.inl (a,())))
def Nc[Lk]{α β:Type}(z:α)(c:α×α×Unit->Option (β×Unit))(t:β->Bool):(List α×Int×Int×Unit)->Option ((List α×Unit)):=fun(a,b,d,_)=>
 match A' (nM z c t) many (a,b,(w64 (d-1)),())with|none=>none|some r=>match r with
 |.inl (e,_)=>some (e,())
 |.inr _=>none
def nN[Lk]{α β:Type}(z:α)(c:α×α×Unit->Option (β×Unit))(t:β->Bool)(v:(List α×Int×Int×Unit)):Option ((List α×Unit)):=Lk.f ((Nc z c t) v)
theorem ASy{α β:Type}(z:α)(c:α×α×Unit->Option (β×Unit))(t:β->Bool)(v:(List α×Int×Int×Unit)):(nN z c t) v=(Nc z c t) v:=A0 _
def LF[Lk]{α β:Type}(z:α)(c:α×α×Unit->Option (β×Unit))(t:β->Bool):(List α×Int×Int×Int×Int×Int×Unit)->Option ((List α×Int×Int×Int×Int×Int×Unit)⊕(List α×Int×Int×Int×Int×Unit)⊕Unit):=fun(b,e,d,f,g,a,_)=>
 match(ilt a d)with
 |true=>match idx b a with|none=>none|some i=>match idx b (w64 (a-1))with|none=>none|some j=>match c ((A9 b (A4 a) z),(A9 b (A4 (w64 (a-1))) z),())with|none=>none|some (h,_)=>match(!(t h))with
  |true=>some (.inr (.inl (b,e,d,f,g,())))
  |false=>match idx b (w64 (a-1))with|none=>none|some k=>match idx b a with|none=>none|some l=>match idx b a with|none=>none|some m=>match idx (Bl b (A4 a) (A9 b (A4 (w64 (a-1))) z)) (w64 (a-1))with|none=>none|some n=>some (.inl ((Bl (Bl b (A4 a) (A9 b (A4 (w64 (a-1))) z)) (A4 (w64 (a-1))) (A9 b (A4 a) z)),e,d,f,g,(w64 (a+1)),()))
 |false=>some (.inr (.inl (b,e,d,f,g,())))
def LG[Lk]{α β:Type}(z:α)(c:α×α×Unit->Option (β×Unit))(t:β->Bool):(List α×Int×Int×Int×Int×Int×Unit)->Option ((List α×Int×Int×Int×Int×Int×Unit)⊕(List α×Int×Int×Int×Int×Unit)⊕Unit):=fun(b,d,e,f,g,a,_)=>
 match(ile 1 a)with
 |true=>match idx b a with|none=>none|some i=>match idx b (w64 (a-1))with|none=>none|some j=>match c ((A9 b (A4 a) z),(A9 b (A4 (w64 (a-1))) z),())with|none=>none|some (h,_)=>match(!(t h))with
  |true=>some (.inr (.inl (b,d,e,f,g,())))
  |false=>match idx b (w64 (a-1))with|none=>none|some k=>match idx b a with|none=>none|some l=>match idx b a with|none=>none|some m=>match idx (Bl b (A4 a) (A9 b (A4 (w64 (a-1))) z)) (w64 (a-1))with|none=>none|some n=>some (.inl ((Bl (Bl b (A4 a) (A9 b (A4 (w64 (a-1))) z)) (A4 (w64 (a-1))) (A9 b (A4 a) z)),d,e,f,g,(w64 (a-1)),()))
 |false=>some (.inr (.inl (b,d,e,f,g,())))
def PS[Lk]{α β:Type}(z:α)(c:α×α×Unit->Option (β×Unit))(t:β->Bool):(List α×Int×Int×Int×Int×Unit)->Option ((List α×Int×Int×Int×Int×Unit)⊕(List α×Int×Int×Int×Int×Unit)⊕Unit):=fun(b,e,d,a,f,_)=>
 match(ilt a d)with
 |true=>match idx b a with|none=>none|some h=>match idx b (w64 (a-1))with|none=>none|some i=>match c ((A9 b (A4 a) z),(A9 b (A4 (w64 (a-1))) z),())with|none=>none|some (g,_)=>match(!(t g))with
  |true=>some (.inl (b,e,d,(w64 (a+1)),f,()))
  |false=>some (.inr (.inl (b,e,d,a,f,())))
 |false=>some (.inr (.inl (b,e,d,a,f,())))
def Ez[Lk]{α β:Type}(z:α)(c:α×α×Unit->Option (β×Unit))(t:β->Bool):(List α×Int×Int×Int×Int×Unit)->Option ((List α×Int×Int×Int×Int×Unit)⊕(List α×Bool×Unit)⊕(List α×Unit)⊕Unit):=fun(i,n,o,p,j,_)=>
 match(ilt j 5)with
 |true=>match A' (PS z c t) many (i,n,o,p,j,())with|none=>none|some r=>match r with
  |.inl (b,e,d,a,g,_)=>match(ieq a d)with
   |true=>some (.inr (.inl (b,true,())))
   |false=>match(ilt (w64 (d-e)) 50)with
   |true=>some (.inr (.inl (b,false,())))
   |false=>match idx b (w64 (a-1))with|none=>none|some D=>match idx b a with|none=>none|some E=>match idx b a with|none=>none|some F=>match idx (Bl b (A4 a) (A9 b (A4 (w64 (a-1))) z)) (w64 (a-1))with|none=>none|some G=>match(ile 2 (w64 (a-e)))with
   |true=>match A' (LG z c t) many ((Bl (Bl b (A4 a) (A9 b (A4 (w64 (a-1))) z)) (A4 (w64 (a-1))) (A9 b (A4 a) z)),e,d,a,g,(w64 (a-1)),())with|none=>none|some r=>match r with
    |.inl (k,l,h,f,m,_)=>match(ile 2 (w64 (h-f)))with
     |true=>match A' (LF z c t) many (k,l,h,f,m,(w64 (f+1)),())with|none=>none|some r=>match r with
      |.inl (q,s,u,v,w,_)=>some (.inl (q,s,u,v,(w64 (w+1)),()))
      |.inr _=>none
     |false=>some (.inl (k,l,h,f,(w64 (m+1)),()))
    |.inr _=>none
   |false=>match(ile 2 (w64 (d-a)))with
   |true=>match A' (LF z c t) many ((Bl (Bl b (A4 a) (A9 b (A4 (w64 (a-1))) z)) (A4 (w64 (a-1))) (A9 b (A4 a) z)),e,d,a,g,(w64 (a+1)),())with|none=>none|some r=>match r with
    |.inl (x,y,A,B,C,_)=>some (.inl (x,y,A,B,(w64 (C+1)),()))
    |.inr _=>none
   |false=>some (.inl ((Bl (Bl b (A4 a) (A9 b (A4 (w64 (a-1))) z)) (A4 (w64 (a-1))) (A9 b (A4 a) z)),e,d,a,(w64 (g+1)),()))
  |.inr _=>none
 |false=>some (.inr (.inr (.inl (i,()))))
def EJ[Lk]{α β:Type}(z:α)(c:α×α×Unit->Option (β×Unit))(t:β->Bool):(List α×Int×Int×Unit)->Option ((List α×Bool×Unit)):=fun(b,a,d,_)=>
 match A' (Ez z c t) many (b,a,d,(w64 (a+1)),0,())with|none=>none|some r=>match r with
 |.inl (e,f,_)=>some (e,f,())
 |.inr r=>match r with
 |.inl (g,_)=>some (g,false,())
 |.inr _=>none
def Gg[Lk]{α β:Type}(z:α)(c:α×α×Unit->Option (β×Unit))(t:β->Bool)(v:(List α×Int×Int×Unit)):Option ((List α×Bool×Unit)):=Lk.f ((EJ z c t) v)
theorem uK{α β:Type}(z:α)(c:α×α×Unit->Option (β×Unit))(t:β->Bool)(v:(List α×Int×Int×Unit)):(Gg z c t) v=(EJ z c t) v:=A0 _
def Sk[Lk]{α β:Type}(z:α)(c:α×α×Unit->Option (β×Unit))(t:β->Bool):(List α×Int×Int×Int×Unit)->Option ((List α×Int×Int×Int×Unit)⊕(List α×Int×Int×Int×Unit)⊕Unit):=fun(a,d,e,b,_)=>
 match(ile e b)with
 |true=>match idx a d with|none=>none|some g=>match idx a b with|none=>none|some h=>match c ((A9 a (A4 d) z),(A9 a (A4 b) z),())with|none=>none|some (f,_)=>match(t f)with
  |true=>some (.inl (a,d,e,(w64 (b-1)),()))
  |false=>some (.inr (.inl (a,d,e,b,())))
 |false=>some (.inr (.inl (a,d,e,b,())))
def Sl[Lk]{α β:Type}(z:α)(c:α×α×Unit->Option (β×Unit))(t:β->Bool):(List α×Int×Int×Int×Unit)->Option ((List α×Int×Int×Int×Unit)⊕(List α×Int×Int×Int×Unit)⊕Unit):=fun(a,d,b,e,_)=>
 match(ile b e)with
 |true=>match idx a d with|none=>none|some g=>match idx a b with|none=>none|some h=>match c ((A9 a (A4 d) z),(A9 a (A4 b) z),())with|none=>none|some (f,_)=>match(!(t f))with
  |true=>some (.inl (a,d,(w64 (b+1)),e,()))
  |false=>some (.inr (.inl (a,d,b,e,())))
 |false=>some (.inr (.inl (a,d,b,e,())))
def Sm[Lk]{α β:Type}(z:α)(c:α×α×Unit->Option (β×Unit))(t:β->Bool):(List α×Int×Int×Int×Unit)->Option ((List α×Int×Int×Int×Unit)⊕(List α×Int×Unit)⊕Unit):=fun(e,f,g,h,_)=>
 match A' (Sl z c t) many (e,f,g,h,())with|none=>none|some r=>match r with
 |.inl (i,j,k,l,_)=>match A' (Sk z c t) many (i,j,k,l,())with|none=>none|some r=>match r with
  |.inl (a,m,b,d,_)=>match(ilt d b)with
   |true=>some (.inr (.inl (a,b,())))
   |false=>match idx a d with|none=>none|some n=>match idx a b with|none=>none|some o=>match idx a b with|none=>none|some p=>match idx (Bl a (A4 b) (A9 a (A4 d) z)) d with|none=>none|some q=>some (.inl ((Bl (Bl a (A4 b) (A9 a (A4 d) z)) (A4 d) (A9 a (A4 b) z)),m,(w64 (b+1)),(w64 (d-1)),()))
  |.inr _=>none
 |.inr _=>none
def FI[Lk]{α β:Type}(z:α)(c:α×α×Unit->Option (β×Unit))(t:β->Bool):(List α×Int×Int×Int×Unit)->Option ((List α×Int×Unit)):=fun(a,b,e,d,_)=>
 match idx a d with|none=>none|some h=>match idx a b with|none=>none|some i=>match idx a b with|none=>none|some j=>match idx (Bl a (A4 b) (A9 a (A4 d) z)) d with|none=>none|some k=>match A' (Sm z c t) many ((Bl (Bl a (A4 b) (A9 a (A4 d) z)) (A4 d) (A9 a (A4 b) z)),b,(w64 (b+1)),(w64 (e-1)),())with|none=>none|some r=>match r with
 |.inl (f,g,_)=>some (f,g,())
 |.inr _=>none
def JG[Lk]{α β:Type}(z:α)(c:α×α×Unit->Option (β×Unit))(t:β->Bool)(v:(List α×Int×Int×Int×Unit)):Option ((List α×Int×Unit)):=Lk.f ((FI z c t) v)
theorem AAk{α β:Type}(z:α)(c:α×α×Unit->Option (β×Unit))(t:β->Bool)(v:(List α×Int×Int×Int×Unit)):(JG z c t) v=(FI z c t) v:=A0 _
def dF[Lk]{α β:Type}(z:α)(c:α×α×Unit->Option (β×Unit))(t:β->Bool):(List α×Int×Int×Int×Unit)->Option ((List α×Int×Int×Int×Unit)⊕(List α×Int×Int×Int×Unit)⊕Unit):=fun(a,d,e,b,_)=>
 match(ile e b)with
 |true=>match idx a b with|none=>none|some g=>match idx a d with|none=>none|some h=>match c ((A9 a (A4 b) z),(A9 a (A4 d) z),())with|none=>none|some (f,_)=>match(!(t f))with
  |true=>some (.inl (a,d,e,(w64 (b-1)),()))
  |false=>some (.inr (.inl (a,d,e,b,())))
 |false=>some (.inr (.inl (a,d,e,b,())))
def dG[Lk]{α β:Type}(z:α)(c:α×α×Unit->Option (β×Unit))(t:β->Bool):(List α×Int×Int×Int×Unit)->Option ((List α×Int×Int×Int×Unit)⊕(List α×Int×Int×Int×Unit)⊕Unit):=fun(a,d,b,e,_)=>
 match(ile b e)with
 |true=>match idx a b with|none=>none|some g=>match idx a d with|none=>none|some h=>match c ((A9 a (A4 b) z),(A9 a (A4 d) z),())with|none=>none|some (f,_)=>match(t f)with
  |true=>some (.inl (a,d,(w64 (b+1)),e,()))
  |false=>some (.inr (.inl (a,d,b,e,())))
 |false=>some (.inr (.inl (a,d,b,e,())))
def dH[Lk]{α β:Type}(z:α)(c:α×α×Unit->Option (β×Unit))(t:β->Bool):(List α×Int×Int×Int×Unit)->Option ((List α×Int×Int×Int×Unit)⊕(List α×Int×Int×Unit)⊕Unit):=fun(f,g,h,i,_)=>
 match A' (dG z c t) many (f,g,h,i,())with|none=>none|some r=>match r with
 |.inl (j,k,l,m,_)=>match A' (dF z c t) many (j,k,l,m,())with|none=>none|some r=>match r with
  |.inl (a,e,d,b,_)=>match(ilt b d)with
   |true=>some (.inr (.inl (a,e,b,())))
   |false=>match idx a b with|none=>none|some n=>match idx a d with|none=>none|some o=>match idx a d with|none=>none|some p=>match idx (Bl a (A4 d) (A9 a (A4 b) z)) b with|none=>none|some q=>some (.inl ((Bl (Bl a (A4 d) (A9 a (A4 b) z)) (A4 b) (A9 a (A4 d) z)),e,(w64 (d+1)),(w64 (b-1)),()))
  |.inr _=>none
 |.inr _=>none
def dI[Lk]{α β:Type}(z:α)(c:α×α×Unit->Option (β×Unit))(t:β->Bool):(List α×Int×Int×Int×Unit)->Option ((List α×Int×Int×Int×Unit)⊕(List α×Int×Int×Int×Unit)⊕Unit):=fun(a,d,e,b,_)=>
 match(ile e b)with
 |true=>match idx a b with|none=>none|some g=>match idx a d with|none=>none|some h=>match c ((A9 a (A4 b) z),(A9 a (A4 d) z),())with|none=>none|some (f,_)=>match(!(t f))with
  |true=>some (.inl (a,d,e,(w64 (b-1)),()))
  |false=>some (.inr (.inl (a,d,e,b,())))
 |false=>some (.inr (.inl (a,d,e,b,())))
def dJ[Lk]{α β:Type}(z:α)(c:α×α×Unit->Option (β×Unit))(t:β->Bool):(List α×Int×Int×Int×Unit)->Option ((List α×Int×Int×Int×Unit)⊕(List α×Int×Int×Int×Unit)⊕Unit):=fun(a,d,b,e,_)=>
 match(ile b e)with
 |true=>match idx a b with|none=>none|some g=>match idx a d with|none=>none|some h=>match c ((A9 a (A4 b) z),(A9 a (A4 d) z),())with|none=>none|some (f,_)=>match(t f)with
  |true=>some (.inl (a,d,(w64 (b+1)),e,()))
  |false=>some (.inr (.inl (a,d,b,e,())))
 |false=>some (.inr (.inl (a,d,b,e,())))
def JF[Lk]{α β:Type}(z:α)(c:α×α×Unit->Option (β×Unit))(t:β->Bool):(List α×Int×Int×Int×Unit)->Option ((List α×Int×Bool×Unit)):=fun(d,f,l,j,_)=>
 match idx d j with|none=>none|some q=>match idx d f with|none=>none|some s=>match idx d f with|none=>none|some u=>match idx (Bl d (A4 f) (A9 d (A4 j) z)) j with|none=>none|some v=>match A' (dJ z c t) many ((Bl (Bl d (A4 f) (A9 d (A4 j) z)) (A4 j) (A9 d (A4 f) z)),f,(w64 (f+1)),(w64 (l-1)),())with|none=>none|some r=>match r with
 |.inl (m,n,o,p,_)=>match A' (dI z c t) many (m,n,o,p,())with|none=>none|some r=>match r with
  |.inl (a,h,g,b,_)=>match(ilt b g)with
   |true=>match idx a h with|none=>none|some w=>match idx a b with|none=>none|some x=>match idx a b with|none=>none|some y=>match idx (Bl a (A4 b) (A9 a (A4 h) z)) h with|none=>none|some A=>some ((Bl (Bl a (A4 b) (A9 a (A4 h) z)) (A4 h) (A9 a (A4 b) z)),b,true,())
   |false=>match idx a b with|none=>none|some B=>match idx a g with|none=>none|some C=>match idx a g with|none=>none|some D=>match idx (Bl a (A4 g) (A9 a (A4 b) z)) b with|none=>none|some E=>match A' (dH z c t) many ((Bl (Bl a (A4 g) (A9 a (A4 b) z)) (A4 b) (A9 a (A4 g) z)),h,(w64 (g+1)),(w64 (b-1)),())with|none=>none|some r=>match r with
   |.inl (e,k,i,_)=>match idx e k with|none=>none|some F=>match idx e i with|none=>none|some G=>match idx e i with|none=>none|some H=>match idx (Bl e (A4 i) (A9 e (A4 k) z)) k with|none=>none|some I=>some ((Bl (Bl e (A4 i) (A9 e (A4 k) z)) (A4 k) (A9 e (A4 i) z)),i,false,())
   |.inr _=>none
  |.inr _=>none
 |.inr _=>none
def PU[Lk]{α β:Type}(z:α)(c:α×α×Unit->Option (β×Unit))(t:β->Bool)(v:(List α×Int×Int×Int×Unit)):Option ((List α×Int×Bool×Unit)):=Lk.f ((JF z c t) v)
theorem AOE{α β:Type}(z:α)(c:α×α×Unit->Option (β×Unit))(t:β->Bool)(v:(List α×Int×Int×Int×Unit)):(PU z c t) v=(JF z c t) v:=A0 _
def XR[Lk]{α β:Type}(z:α)(c:α×α×Unit->Option (β×Unit))(t:β->Bool)(self:(List α×Int×Int×Int×Unit)->Option ((List α×Unit)))(f:List α)(a b p l:Int)(n o:Bool):Option ((List α×Int×Int×Int×Bool×Bool×Unit)⊕(List α×Unit)⊕Unit):=
 match(ilt 0 a)with
 |true=>match idx f (w64 (a-1))with|none=>none|some y=>match idx f p with|none=>none|some A=>match c ((A9 f (A4 (w64 (a-1))) z),(A9 f (A4 p) z),())with|none=>none|some (q,_)=>match(!(t q))with
  |true=>match(JG z c t) (f,a,b,p,())with|none=>none|some (r,s,_)=>some (.inl (r,s,b,l,n,o,()))
  |false=>match(PU z c t) (f,a,b,p,())with|none=>none|some (g,d,h,_)=>match quo? .i64 (w64 (b-a)) 8 with|none=>none|some i=>match(ilt (w64 (d-a)) (w64 (b-d)))with
  |true=>match self (g,a,d,l,())with|none=>none|some (u,_)=>some (.inl (u,(w64 (d+1)),b,l,(ile i (w64 (d-a))),h,()))
  |false=>match self (g,(w64 (d+1)),b,l,())with|none=>none|some (v,_)=>some (.inl (v,a,d,l,(ile i (w64 (b-d))),h,()))
 |false=>match(PU z c t) (f,a,b,p,())with|none=>none|some (j,e,k,_)=>match quo? .i64 (w64 (b-a)) 8 with|none=>none|some m=>match(ilt (w64 (e-a)) (w64 (b-e)))with
 |true=>match self (j,a,e,l,())with|none=>none|some (w,_)=>some (.inl (w,(w64 (e+1)),b,l,(ile m (w64 (e-a))),k,()))
 |false=>match self (j,(w64 (e+1)),b,l,())with|none=>none|some (x,_)=>some (.inl (x,a,e,l,(ile m (w64 (b-e))),k,()))
def nk[Lk]{α β:Type}(z:α)(c:α×α×Unit->Option (β×Unit))(t:β->Bool)(self:(List α×Int×Int×Int×Unit)->Option ((List α×Unit)))(f:List α)(a b p h l:Int)(d e:Bool):Option ((List α×Int×Int×Int×Bool×Bool×Unit)⊕(List α×Unit)⊕Unit):=
 match d with
 |true=>match e with
  |true=>match(ieq h 1)with
   |true=>match(Gg z c t) (f,a,b,())with|none=>none|some (g,i,_)=>match i with
    |true=>some (.inr (.inl (g,())))
    |false=>(XR z c t) self g a b p l d e
   |false=>(XR z c t) self f a b p l d e
  |false=>(XR z c t) self f a b p l d e
 |false=>(XR z c t) self f a b p l d e
def nj[Lk]{α β:Type}(z:α)(c:α×α×Unit->Option (β×Unit))(t:β->Bool)(self:(List α×Int×Int×Int×Unit)->Option ((List α×Unit)))(i:List α)(a b l:Int)(d e:Bool):Option ((List α×Int×Int×Int×Bool×Bool×Unit)⊕(List α×Unit)⊕Unit):=
 match(Nf z c t) (i,a,b,())with|none=>none|some (f,g,h,_)=>match(ieq h 2)with
 |true=>match(nN z c t) (f,a,b,())with|none=>none|some (j,_)=>(nk z c t) self j a b (w64 ((w64 (b-1))-(w64 (g-a)))) 1 l d e
 |false=>(nk z c t) self f a b g h l d e
def H9[Lk]{α β:Type}(z:α)(c:α×α×Unit->Option (β×Unit))(t:β->Bool)(self:(List α×Int×Int×Int×Unit)->Option ((List α×Unit))):(List α×Int×Int×Int×Bool×Bool×Unit)->Option ((List α×Int×Int×Int×Bool×Bool×Unit)⊕(List α×Unit)⊕Unit):=fun(d,a,b,e,f,g,_)=>
 match(ile (w64 (b-a)) 12)with
 |true=>match(oU z c t) (d,a,b,())with|none=>none|some (h,_)=>some (.inr (.inl (h,())))
 |false=>match(ieq e 0)with
 |true=>match(VB z c t) (d,a,b,())with|none=>none|some (i,_)=>some (.inr (.inl (i,())))
 |false=>match(!f)with
 |true=>match(OE z c t) (d,a,b,())with|none=>none|some (j,_)=>(nj z c t) self j a b (w64 (e-1)) f g
 |false=>(nj z c t) self d a b e f g
def Ni[Lk]{α β:Type}(z:α)(c:α×α×Unit->Option (β×Unit))(t:β->Bool)(self:(List α×Int×Int×Int×Unit)->Option ((List α×Unit))):(List α×Int×Int×Int×Unit)->Option ((List α×Unit)):=fun(a,b,d,e,_)=>
 match A' ((H9 z c t) self) many (a,b,d,e,true,true,())with|none=>none|some r=>match r with
 |.inl (f,_)=>some (f,())
 |.inr _=>none
def Hd[Lk]{α β:Type}(z:α)(c:α×α×Unit->Option (β×Unit))(t:β->Bool):Nat->(List α×Int×Int×Int×Unit)->Option ((List α×Unit))
 |0,_=>none
 |n+1,v=>(Ni z c t) ((Hd z c t) n) v
def nn[Lk]{α β:Type}(z:α)(c:α×α×Unit->Option (β×Unit))(t:β->Bool)(v:(List α×Int×Int×Int×Unit)):Option ((List α×Unit)):=Lk.f ((Hd z c t) 100 v)
theorem ATR{α β:Type}(z:α)(c:α×α×Unit->Option (β×Unit))(t:β->Bool)(v:(List α×Int×Int×Int×Unit)):(nn z c t) v=(Hd z c t) 100 v:=A0 _
def JC[Lk]{α β:Type}(z:α)(c:α×α×Unit->Option (β×Unit))(t:β->Bool):(List α×Unit)->Option ((List α×Unit)):=fun(a,_)=>
 match bitsLen ((IntKind.wrap .u64 (A2 a)),())with|none=>none|some (b,_)=>match(nn z c t) (a,0,(A2 a),b,())with|none=>none|some (d,_)=>some (d,())
def YX[Lk]{α β:Type}(z:α)(c:α×α×Unit->Option (β×Unit))(t:β->Bool)(v:(List α×Unit)):Option ((List α×Unit)):=Lk.f ((JC z c t) v)
theorem AL8{α β:Type}(z:α)(c:α×α×Unit->Option (β×Unit))(t:β->Bool)(v:(List α×Unit)):(YX z c t) v=(JC z c t) v:=A0 _
abbrev Aj:Loc×Con:=(.tmp 3,.clo 337 [])
abbrev Ak:Loc×Con:=(.tmp 0,.own 40 U7)
abbrev Xh:A1:=[Ak,AE,AF,Aj]
abbrev Al:Loc×Con:=(.obj 0,.own 40 U7)
abbrev Kc:A1:=[Al]
abbrev BY:List RS:=[]
abbrev Am:Loc×Con:=(.tmp 0,.own' 0)
abbrev AUK:A1:=[Al,Am,AE,AF,Aj,AP,Ac]
abbrev AUJ:BJ:=[(.exit 2,[Al,Am,AE,AF,Aj,AP])]
abbrev AUL:A1:=[Al,Am,AE,AF,Aj,AP]
abbrev oS:BJ:=[(.exit 0,[Al])]
def AYj[Lk]:=Nw (([]:List (Int)):U6) C9 tLt
def AaG[Lk]:=oU (([]:List (Int)):U6) C9 tLt
theorem AUM v:AaG v=AYj v:=A0 _
abbrev An:Loc×Con:=(.tmp 4,.clo 337 [])
abbrev LA:A1:=[Ak,AE,AF,AS,An]
abbrev AMS:A1:=[Al,Am,AF,AS,An,AZ]
abbrev AMR:BJ:=[(.exit 0,[Al]),(.ret,[Al])]
def ASW[Lk]:=JE (([]:List (Int)):U6) C9 tLt
def AW7[Lk]:=R2 (([]:List (Int)):U6) C9 tLt
theorem AMT v:AW7 v=ASW v:=A0 _
abbrev APO:A1:=[Al,Am,Aj,AP,Ac,AN]
abbrev APM:BJ:=[(.exit 2,[Al])]
abbrev APP:A1:=[Al,Am,Aj,AP,Ac,AZ,Aa]
abbrev APN:BJ:=[(.exit 0,[Al,Am,Aj,AP,Ac,AZ])]
def AUf[Lk]:=JN (([]:List (Int)):U6) C9 tLt
def AXN[Lk]:=VB (([]:List (Int)):U6) C9 tLt
theorem APQ v:AXN v=AUf v:=A0 _
abbrev Ao:Loc×Con:=(.tmp 3,.box 1)
abbrev AHy:A1:=[Ak,AE,AF,Ao,AK,An]
abbrev Ap:Loc×Con:=(.obj 1,.box 1)
abbrev AHx:A1:=[Al,Ap,AK,AA,AE]
abbrev Bf:List RS:=[.one,.one]
def AHz[Lk]:=FJ (([]:List (Int)):U6) C9 tLt
def AEN[Lk]:=Gh (([]:List (Int)):U6) C9 tLt
theorem AAs v:AEN v=AHz v:=A0 _
abbrev Aq:Loc×Con:=(.tmp 4,.box 1)
abbrev AIQ:A1:=[Ak,AE,AF,AS,Aq,AK,(.tmp 5,.clo 337 [])]
abbrev kF:A1:=[Al,Ap,AK,AA]
def AIR[Lk]:=FK (([]:List (Int)):U6) C9 tLt
def AEb[Lk]:=Gj (([]:List (Int)):U6) C9 tLt
theorem ABB v:AEb v=AIR v:=A0 _
abbrev Ar:Loc×Con:=(.tmp 2,.box 1)
abbrev AIf:A1:=[Ak,AE,Ar,AK,Aj]
def AIg[Lk]:=FL (([]:List (Int)):U6) C9 tLt
def AEg[Lk]:=Gk (([]:List (Int)):U6) C9 tLt
theorem ABK v:AEg v=AIg v:=A0 _
abbrev ANV:A1:=[Al,AA,AE]
def ANW[Lk]:=Ge (([]:List (Int)):U6) C9 tLt
def ANY[Lk]:=Nf (([]:List (Int)):U6) C9 tLt
theorem AHC v:ANY v=ANW v:=A0 _
abbrev ASu:A1:=[Al,Am,AP,Ac]
def AXy[Lk]:=Nc (([]:List (Int)):U6) C9 tLt
def AZz[Lk]:=nN (([]:List (Int)):U6) C9 tLt
theorem ASv v:AZz v=AXy v:=A0 _
abbrev AAM:A1:=[Al,AD]
abbrev tx:A1:=[Al,Am,AE,AF,Aj,Ac,AZ,AN]
abbrev tt:BJ:=[(.exit 6,[Al,Am,AE,AF,Aj,Ac,AZ])]
abbrev tz:A1:=[Al,Am,AE,AF,Aj,Ac,AZ,Aa]
abbrev tu:BJ:=[(.exit 4,[Al,Am,AE,AF,Aj,Ac,AZ])]
abbrev Yh:A1:=[Al,Am,AE,AF,Aj,Ac,AZ]
abbrev tv:BJ:=[(.exit 2,[Al,Am,AE,AF,Aj,Ac,AZ])]
abbrev As:Loc×Con:=(.tmp 8,.dat .bool)
abbrev tw:BJ:=[(.ret,[Al,As]),(.exit 0,[Al])]
def AAN[Lk]:=EJ (([]:List (Int)):U6) C9 tLt
def uB[Lk]:=Gg (([]:List (Int)):U6) C9 tLt
theorem uA v:uB v=AAN v:=A0 _
abbrev AHc:A1:=[Al,AA]
abbrev Si:A1:=[Al,Am,AE,An,Aa,AN]
abbrev AAc:BJ:=[(.exit 4,[Al,Am,AE,An,Aa,AN])]
abbrev AAd:BJ:=[(.exit 2,[Al,Am,AE,An,Aa,AN])]
abbrev AAe:BJ:=[(.exit 0,[Al,Aa])]
def AHd[Lk]:=FI (([]:List (Int)):U6) C9 tLt
def AEH[Lk]:=JG (([]:List (Int)):U6) C9 tLt
theorem AAf v:AEH v=AHd v:=A0 _
abbrev At:Loc×Con:=(.tmp 1,.dat .bool)
abbrev ATe:A1:=[Al,AA,At]
abbrev PR:A1:=[Al,Am,AE,An,AN,AM]
abbrev AN2:BJ:=[(.exit 8,[Al,Am,AE,An,AN,AM])]
abbrev AN3:BJ:=[(.exit 6,[Al,Am,AE,An,AN,AM])]
abbrev AN4:BJ:=[(.exit 4,[Al,Am,AE,AM])]
abbrev AN5:BJ:=[(.exit 2,[Al,Am,AE,An,AN,AM])]
abbrev AN6:BJ:=[(.exit 0,[Al,Am,AE,An,AN,AM])]
def ATf[Lk]:=JF (([]:List (Int)):U6) C9 tLt
def AXG[Lk]:=PU (([]:List (Int)):U6) C9 tLt
theorem AN7 v:AXG v=ATf v:=A0 _
abbrev Au:Loc×Con:=(.cell 0 1,.dat Uf)
abbrev Mn:A1:=[AO,(.cap 1 0,.box 2),AI,Au,(.tmp 1,.clo 228 [(0,0)])]
abbrev Av:Loc×Con:=(.obj 0,.box 2)
abbrev Xn:A1:=[Av,AI,Au,AA]
abbrev UU:A1:=[Av,AI,Au,AO,(.tmp 1,.clo 228 [(0,0)]),AQ,AP]
abbrev UT:BJ:=[(.ret,[Av,AI,Au,AR]),(.exit 0,[Av,AI,Au])]
def Dq[Lk]:(Int×List U6×List Int×Int×Int×Unit)->Option ((Int×List U6×List Int×Int×Int×Unit)⊕(Int×List U6×Int×Unit)⊕(Int×List U6×Unit)⊕Unit):=fun(a,c,d,e,b,_)=>
 match(ilt b e)with
 |true=>match idx d b with|none=>none|some f=>match(ilt f 0)with
  |true=>some (.inr (.inl (a,c,b,())))
  |false=>match(ile a f)with
  |true=>some (.inr (.inl (a,c,b,())))
  |false=>some (.inl (a,c,d,e,(w64 (b+1)),()))
 |false=>some (.inr (.inr (.inl (a,c,()))))
def Hm[Lk]:(List Int×Int×List U6×Unit)->Option ((Int×List U6×Int×Unit)):=fun(a,b,c,_)=>
 match A' Dq many (b,c,a,(A2 a),0,())with|none=>none|some r=>match r with
 |.inl (d,e,f,_)=>some (d,e,f,())
 |.inr r=>match r with
 |.inl (g,h,_)=>some (g,h,(-1:Int),())
 |.inr _=>none
def Kg[Lk]:=lkk Hm
theorem LO v:Kg v=Hm v:=A0 _
abbrev Aw:Loc×Con:=(.tmp 0,.dat Ul)
abbrev AY1:A1:=[Aw]
abbrev Ax:Loc×Con:=(.tmp 3,.own 3 U0)
abbrev AU7:A1:=[Ax,(.tmp 6,.dat Ul),AQ,AP]
abbrev AE1:BJ:=[(.exit 0,[Ax])]
def VM[Lk]:(List Int×List U3×Int×Int×Unit)->Option ((List Int×List U3×Int×Int×Unit)⊕Uj⊕Unit):=fun(b,d,e,c,_)=>
 match(ilt c e)with
 |true=>match idx d c with|none=>none|some a=>match(fits ((A2 b)+(A2 ([a.1,a.2.1]:List (Int)))))with
  |true=>some (.inl ((B2 b ([a.1,a.2.1]:List (Int))),d,e,(w64 (c+1)),()))
  |false=>none
 |false=>some (.inr (.inl (b,())))
def AB7[Lk]:Uz->Option (Uj):=fun(a,_)=>
 match A' VM many (([]:List (Int)),a,(A2 a),0,())with|none=>none|some r=>match r with
 |.inl (b,_)=>some (b,())
 |.inr _=>none
def ends[Lk]:=lkk AB7
theorem AE2 v:ends v=AB7 v:=A0 _
abbrev AYU:A1:=[AS,(.tmp 6,.dat U7),AQ,AP]
abbrev AYT:BJ:=[(.ret,[AF]),(.exit 0,[AS])]
def Lj[Lk]:(Int×List Int×Int×Int×Unit)->Option ((Int×List Int×Int×Int×Unit)⊕Ub⊕Ub⊕Unit):=fun(a,c,d,b,_)=>
 match(ilt b d)with
 |true=>match idx c b with|none=>none|some e=>match(!(ieq e a))with
  |true=>some (.inr (.inl (e,())))
  |false=>some (.inl (a,c,d,(w64 (b+1)),()))
 |false=>some (.inr (.inr (.inl (a,()))))
def uh[Lk]:Uj->Option (Ub):=fun(a,_)=>
 match A' Lj many (0,a,(A2 a),0,())with|none=>none|some r=>match r with
 |.inl (b,_)=>some (b,())
 |.inr r=>match r with
 |.inl (c,_)=>some (c,())
 |.inr _=>none
def orI[Lk]:=lkk uh
theorem n8 v:orI v=uh v:=A0 _
def UG[Lk]:Ub->Option (Ud):=fun(a,_)=>
 match(ile 1 a)with
 |true=>some ((ile a 64),())
 |false=>some (false,())
def dc[Lk]:=lkk UG
theorem XY v:dc v=UG v:=A0 _
abbrev dm:A1:=[(.tmp 0,.dat U1),(.tmp 1,.dat U1)]
def Ss[Lk]:(U4×U4×Unit)->Option (Ub):=fun(a,b,_)=>
 match Ed (a.1,b.1,())with|none=>none|some (c,_)=>match Ed (a.2.1,b.2.1,())with|none=>none|some (d,_)=>match orI (([c,d]:List (Int)),())with|none=>none|some (e,_)=>some (e,())
def UH[Lk]:=lkk Ss
theorem Ys v:UH v=Ss v:=A0 _
abbrev Ay:Loc×Con:=(.tmp 0,.dat Un)
abbrev dZ:A1:=[Ay,AE]
abbrev Az:Loc×Con:=(.tmp 0,.own 59 U2)
abbrev UE:A1:=[Az]
abbrev Adw:Loc×Con:=(.tmp 5,.own 59 U2)
abbrev AIs:A1:=[AE,Adw,(.tmp 9,.dat Uh),AZ,Aa]
abbrev kH:BJ:=[(.exit 0,[Adw])]
def Mb[Lk]:(Int×List U3×List U4×Int×Int×Unit)->Option ((Int×List U3×List U4×Int×Int×Unit)⊕Uz⊕Unit):=fun(d,b,e,f,c,_)=>
 match(ilt c f)with
 |true=>match idx e c with|none=>none|some a=>match a.2.2.2.1 with
  |true=>match(ile d a.2.2.1)with
   |true=>match(fits ((A2 b)+(A2 ([(a.1,(a.2.1,()))]:List U3))))with
    |true=>some (.inl (d,(B2 b ([(a.1,(a.2.1,()))]:List U3)),e,f,(w64 (c+1)),()))
    |false=>none
   |false=>some (.inl (d,b,e,f,(w64 (c+1)),()))
  |false=>some (.inl (d,b,e,f,(w64 (c+1)),()))
 |false=>some (.inr (.inl (b,())))
def da[Lk]:(Uc×Int×Unit)->Option (Uz):=fun(a,b,_)=>
 match A' Mb many (b,([]:List U3),a.2.1,(A2 a.2.1),0,())with|none=>none|some r=>match r with
 |.inl (c,_)=>some (c,())
 |.inr _=>none
def db[Lk]:=lkk da
theorem kI v:db v=da v:=A0 _
abbrev Adx:Loc×Con:=(.tmp 1,.dat Ul)
abbrev LZ:A1:=[AA,Adx]
abbrev Ady:Loc×Con:=(.tmp 7,.dat .bool)
abbrev Adz:Loc×Con:=(.tmp 5,.own 3 U0)
abbrev qD:A1:=[AA,Adx,Adz,Ady,AP]
abbrev qA:BJ:=[(.exit 4,[AA,Adx,Adz,Ady])]
def G0[Lk]:(Int×List U3×List Int×Bool×Int×Unit)->Option ((Int×List U3×List Int×Bool×Int×Unit)⊕(Int×List U3×List Int×Bool×Unit)⊕Unit):=fun(e,c,a,g,f,_)=>
 match(ilt f (A2 c))with
 |true=>match idx c f with|none=>none|some b=>match idx c f with|none=>none|some d=>match(ilt b.1 0)with
  |true=>some (.inl (e,c,a,g,(w64 (f+1)),()))
  |false=>match(ilt d.2.1 0)with
  |true=>some (.inl (e,c,a,g,(w64 (f+1)),()))
  |false=>match(ile e b.1)with
  |true=>some (.inl (e,c,a,g,(w64 (f+1)),()))
  |false=>match(ile e d.2.1)with
  |true=>some (.inl (e,c,a,g,(w64 (f+1)),()))
  |false=>match idx a b.1 with|none=>none|some h=>match idx a d.2.1 with|none=>none|some i=>match(ieq (A9 a (A4 b.1) 0) (A9 a (A4 d.2.1) 0))with
  |true=>some (.inl (e,c,a,g,(w64 (f+1)),()))
  |false=>match idx a b.1 with|none=>none|some j=>match idx a d.2.1 with|none=>none|some k=>match idx a b.1 with|none=>none|some l=>match idx (Bl a (A4 b.1) (C8 (A9 a (A4 b.1) 0) (A9 a (A4 d.2.1) 0))) d.2.1 with|none=>none|some m=>some (.inl (e,c,(Bl (Bl a (A4 b.1) (C8 (A9 a (A4 b.1) 0) (A9 a (A4 d.2.1) 0))) (A4 d.2.1) (C8 (A9 a (A4 b.1) 0) (A9 a (A4 d.2.1) 0))),true,(w64 (f+1)),()))
 |false=>some (.inr (.inl (e,c,a,g,())))
abbrev qE:A1:=[AA,Adx,Adz,Ady]
abbrev qB:BJ:=[(.exit 2,[Adz])]
def JR[Lk]:(Int×List U3×List Int×Bool×Unit)->Option ((Int×List U3×List Int×Bool×Unit)⊕Uj⊕Unit):=fun(b,c,a,d,_)=>
 match d with
 |true=>match A' G0 many (b,c,a,false,0,())with|none=>none|some r=>match r with
  |.inl (e,f,g,h,_)=>some (.inl (e,f,g,h,()))
  |.inr _=>none
 |false=>some (.inr (.inl (a,())))
abbrev Ad0:Loc×Con:=(.tmp 6,.di)
abbrev qF:A1:=[AA,Adx,Adz,Ad0]
abbrev qC:BJ:=[(.exit 0,[AA,Adx,Adz])]
def G1[Lk]:(Int×List U3×List Int×Int×Unit)->Option ((Int×List U3×List Int×Int×Unit)⊕(Int×List U3×List Int×Unit)⊕Unit):=fun(b,d,c,a,_)=>
 match(ilt a b)with
 |true=>match(fits ((A2 c)+(A2 ([a]:List (Int)))))with
  |true=>some (.inl (b,d,(B2 c ([a]:List (Int))),(w64 (a+1)),()))
  |false=>none
 |false=>some (.inr (.inl (b,d,c,())))
def QD[Lk]:(Int×List U3×Unit)->Option (Uj):=fun(a,b,_)=>
 match A' G1 many (a,b,([]:List (Int)),0,())with|none=>none|some r=>match r with
 |.inl (c,d,e,_)=>match A' JR many (c,d,e,true,())with|none=>none|some r=>match r with
  |.inl (f,_)=>some (f,())
  |.inr _=>none
 |.inr _=>none
def RD[Lk]:=lkk QD
theorem VZ v:RD v=QD v:=A0 _
abbrev ALW:A1:=[AS,AR]
def ALV[Lk]:U3->Option (U3⊕Ub⊕Unit):=fun(a,b,_)=>
 match(ilt 0 b)with
 |true=>match quo? .i64 b 2 with|none=>none|some c=>some (.inl ((w64 (a+1)),c,()))
 |false=>some (.inr (.inl (a,())))
def ADS[Lk]:Ub->Option (Ub):=fun(a,_)=>
 match(ilt a 1)with
 |true=>some (0,())
 |false=>match(ilt 64 a)with
 |true=>some (0,())
 |false=>match A' ALV many (0,(w64 (a-1)),())with|none=>none|some r=>match r with
 |.inl (b,_)=>some (b,())
 |.inr _=>none
def Tb[Lk]:=lkk ADS
theorem ALX v:Tb v=ADS v:=A0 _
abbrev Js:A1:=[Ay]
abbrev Ad1:Loc×Con:=(.cell 0 1,.dat Uh)
abbrev Ad2:Loc×Con:=(.tmp 3,.own 59 U2)
abbrev Ad3:Loc×Con:=(.tmp 1,.box 2)
abbrev zR:A1:=[Ad3,AI,Ad1,Ad2,AW,AQ,AP]
abbrev zP:BJ:=[(.exit 2,[Ad3,AI,Ad1,Ad2,AQ])]
def HX[Lk]:(Int×List U4×List U3×List Int×Int×Int×Unit)->Option ((Int×List U4×List U3×List Int×Int×Int×Unit)⊕Va⊕Unit):=fun(b,d,e,c,f,a,_)=>
 match(ilt a b)with
 |true=>match idx c a with|none=>none|some g=>match(ieq (A9 c (A4 a) 0) a)with
  |true=>some (.inl (b,d,e,c,(w64 (f+1)),(w64 (a+1)),()))
  |false=>some (.inl (b,d,e,c,f,(w64 (a+1)),()))
 |false=>some (.inr (.inl (b,d,e,f,())))
abbrev cf:A1:=[Ad3,AI,Ad1,Ad2,AR]
abbrev zQ:BJ:=[(.ret,[AH]),(.exit 0,[Ad3,AI,Ad1,Ad2])]
def Fy[Lk]:Va->Option (Va⊕Ud⊕(Int×List U4×List U3×Unit)⊕Unit):=fun(e,b,d,c,_)=>
 match(ilt c (A2 b))with
 |true=>match idx b c with|none=>none|some a=>match(ilt a.1 0)with
  |true=>some (.inr (.inl (false,())))
  |false=>match(ile a.2.1 a.1)with
  |true=>some (.inr (.inl (false,())))
  |false=>match(ile e a.2.1)with
  |true=>some (.inr (.inl (false,())))
  |false=>match(ilt a.2.2.1 0)with
  |true=>some (.inr (.inl (false,())))
  |false=>match Tb (e,())with|none=>none|some (f,_)=>match(ilt f a.2.2.1)with
  |true=>some (.inr (.inl (false,())))
  |false=>match(ilt 0 c)with
  |true=>match idx b (w64 (c-1))with|none=>none|some g=>match(ilt a.1 g.1)with
   |true=>some (.inr (.inl (false,())))
   |false=>match idx b (w64 (c-1))with|none=>none|some h=>match(ieq h.1 a.1)with
   |true=>match idx b (w64 (c-1))with|none=>none|some i=>match(ile a.2.1 i.2.1)with
    |true=>some (.inr (.inl (false,())))
    |false=>match a.2.2.2.1 with
    |true=>match(fits ((A2 d)+(A2 ([(a.1,(a.2.1,()))]:List U3))))with
     |true=>some (.inl (e,b,(B2 d ([(a.1,(a.2.1,()))]:List U3)),(w64 (c+1)),()))
     |false=>none
    |false=>some (.inl (e,b,d,(w64 (c+1)),()))
   |false=>match a.2.2.2.1 with
   |true=>match(fits ((A2 d)+(A2 ([(a.1,(a.2.1,()))]:List U3))))with
    |true=>some (.inl (e,b,(B2 d ([(a.1,(a.2.1,()))]:List U3)),(w64 (c+1)),()))
    |false=>none
   |false=>some (.inl (e,b,d,(w64 (c+1)),()))
  |false=>match a.2.2.2.1 with
  |true=>match(fits ((A2 d)+(A2 ([(a.1,(a.2.1,()))]:List U3))))with
   |true=>some (.inl (e,b,(B2 d ([(a.1,(a.2.1,()))]:List U3)),(w64 (c+1)),()))
   |false=>none
  |false=>some (.inl (e,b,d,(w64 (c+1)),()))
 |false=>some (.inr (.inr (.inl (e,b,d,()))))
def HZ[Lk]:(Uc×Unit)->Option (Ud):=fun(a,_)=>
 match(ilt a.1 1)with
 |true=>some (false,())
 |false=>match(ilt 64 a.1)with
 |true=>some (false,())
 |false=>match(ilt 400 (A2 a.2.1))with
 |true=>some (false,())
 |false=>match A' Fy many (a.1,a.2.1,([]:List U3),0,())with|none=>none|some r=>match r with
 |.inl (d,_)=>some (d,())
 |.inr r=>match r with
 |.inl (b,e,c,_)=>match RD (b,c,())with|none=>none|some (f,_)=>match A' HX many (b,e,c,f,0,0,())with|none=>none|some r=>match r with
  |.inl (g,j,h,i,_)=>some ((ieq i (w64 (g-(A2 h)))),())
  |.inr _=>none
 |.inr _=>none
def Fs[Lk]:=lkk HZ
theorem HY v:Fs v=HZ v:=A0 _
abbrev Ad4:Loc×Con:=(.tmp 1,.clo 221 [(1,0)])
abbrev Ad5:Loc×Con:=(.cell 1 0,.map U2 U0)
abbrev UY:A1:=[Az,(.cap 1 0,.box 1),Ad5,Ad4]
abbrev Ad6:Loc×Con:=(.obj 0,.own 59 U2)
abbrev Ad7:Loc×Con:=(.obj 2,.map' 2)
abbrev oe:A1:=[Ad6,Ap,Ad5,Ad7,AA]
abbrev gz:A1:=[Ad6,Ap,Ad5,Ad7,Am,Ad4,AQ,AP]
abbrev gw:BJ:=[(.ret,[Ad6,Ap,Ad5,Ad7,AR]),(.exit 0,[Ad6,Ap,Ad5,Ad7])]
def Ek[Lk]:Vi->Option (Vi⊕(List U3×List V4×Int×Unit)⊕(List U3×List V4×Unit)⊕Unit):=fun(a,c,d,b,_)=>
 match(ilt b d)with
 |true=>match idx a b with|none=>none|some e=>match(ieq ((A_ c ((A9 a (A4 b) (0,(0,()))).1,((A9 a (A4 b) (0,(0,()))).2.1,()))).getD 0) 0)with
  |true=>some (.inr (.inl (a,c,b,())))
  |false=>some (.inl (a,c,d,(w64 (b+1)),()))
 |false=>some (.inr (.inr (.inl (a,c,()))))
def N0[Lk]:(List U3×List V4×Unit)->Option ((List U3×List V4×Int×Unit)):=fun(a,b,_)=>
 match A' Ek many (a,b,(A2 a),0,())with|none=>none|some r=>match r with
 |.inl (c,d,e,_)=>some (c,d,e,())
 |.inr r=>match r with
 |.inl (f,g,_)=>some (f,g,(-1:Int),())
 |.inr _=>none
def S5[Lk]:=lkk N0
theorem R_ v:S5 v=N0 v:=A0 _
abbrev eP:A1:=[(.tmp 0,.dat U2),(.tmp 1,.dat U2)]
def N3[Lk]:(U3×U3×Unit)->Option (Ub):=fun(a,b,_)=>
 match Ed (a.1,b.1,())with|none=>none|some (c,_)=>match Ed (a.2.1,b.2.1,())with|none=>none|some (d,_)=>match orI (([c,d]:List (Int)),())with|none=>none|some (e,_)=>some (e,())
def Bp[Lk]:=lkk N3
theorem Ps v:Bp v=N3 v:=A0 _
abbrev Ad8:Loc×Con:=(.tmp 3,.clo 132 [])
abbrev Xi:A1:=[Az,AE,AF,Ad8]
abbrev De:A1:=[Ad6]
abbrev AUU:A1:=[Ad6,Am,AE,AF,Ad8,AP,Ac]
abbrev AUT:BJ:=[(.exit 2,[Ad6,Am,AE,AF,Ad8,AP])]
abbrev AUV:A1:=[Ad6,Am,AE,AF,Ad8,AP]
abbrev Qw:BJ:=[(.exit 0,[Ad6])]
def AYn[Lk]:=Nw ((0,(0,())):U3) Bp tLt
def AaI[Lk]:=oU ((0,(0,())):U3) Bp tLt
theorem AUW v:AaI v=AYn v:=A0 _
abbrev Ad9:Loc×Con:=(.tmp 4,.clo 132 [])
abbrev LC:A1:=[Az,AE,AF,AS,Ad9]
abbrev AMY:A1:=[Ad6,Am,AF,AS,Ad9,AZ]
abbrev sQ:BJ:=[(.exit 0,[Ad6]),(.ret,[Ad6])]
def ASa[Lk]:=JE ((0,(0,())):U3) Bp tLt
def AW9[Lk]:=R2 ((0,(0,())):U3) Bp tLt
theorem AMZ v:AW9 v=ASa v:=A0 _
abbrev AH5:A1:=[Az,AE,AF,Ao,AK,Ad9]
abbrev kA:A1:=[Ad6,Ap,AK,AA,AE]
def AH6[Lk]:=FJ ((0,(0,())):U3) Bp tLt
def AEP[Lk]:=Gh ((0,(0,())):U3) Bp tLt
theorem AAv v:AEP v=AH6 v:=A0 _
abbrev ADt:A1:=[Ad6,Am,AP,Ac]
def AX2[Lk]:=Nc ((0,(0,())):U3) Bp tLt
def AZ1[Lk]:=nN ((0,(0,())):U3) Bp tLt
theorem ASz v:AZ1 v=AX2 v:=A0 _
abbrev dE:A1:=[Ad6,AD]
abbrev uO:A1:=[Ad6,Am,AE,AF,Ad8,Ac,AZ,AN]
abbrev uL:BJ:=[(.exit 6,[Ad6,Am,AE,AF,Ad8,Ac,AZ])]
abbrev uP:A1:=[Ad6,Am,AE,AF,Ad8,Ac,AZ,Aa]
abbrev uM:BJ:=[(.exit 4,[Ad6,Am,AE,AF,Ad8,Ac,AZ])]
abbrev Yl:A1:=[Ad6,Am,AE,AF,Ad8,Ac,AZ]
abbrev uN:BJ:=[(.exit 2,[Ad6,Am,AE,AF,Ad8,Ac,AZ])]
abbrev Yk:BJ:=[(.ret,[Ad6,As]),(.exit 0,[Ad6])]
def AAR[Lk]:=EJ ((0,(0,())):U3) Bp tLt
def uT[Lk]:=Gg ((0,(0,())):U3) Bp tLt
theorem uQ v:uT v=AAR v:=A0 _
abbrev j7:A1:=[Ad6,AA]
abbrev Sn:A1:=[Ad6,Am,AE,Ad9,Aa,AN]
abbrev AAl:BJ:=[(.exit 4,[Ad6,Am,AE,Ad9,Aa,AN])]
abbrev AAm:BJ:=[(.exit 2,[Ad6,Am,AE,Ad9,Aa,AN])]
abbrev dK:BJ:=[(.exit 0,[Ad6,Aa])]
def AHh[Lk]:=FI ((0,(0,())):U3) Bp tLt
def AEJ[Lk]:=JG ((0,(0,())):U3) Bp tLt
theorem AAn v:AEJ v=AHh v:=A0 _
abbrev AEK:A1:=[Ad6,AA,At]
abbrev PX:A1:=[Ad6,Am,AE,Ad9,AN,AM]
abbrev AOF:BJ:=[(.exit 8,[Ad6,Am,AE,Ad9,AN,AM])]
abbrev AOG:BJ:=[(.exit 6,[Ad6,Am,AE,Ad9,AN,AM])]
abbrev ud:BJ:=[(.exit 4,[Ad6,Am,AE,AM])]
abbrev AOH:BJ:=[(.exit 2,[Ad6,Am,AE,Ad9,AN,AM])]
abbrev AOI:BJ:=[(.exit 0,[Ad6,Am,AE,Ad9,AN,AM])]
def ATj[Lk]:=JF ((0,(0,())):U3) Bp tLt
def AXI[Lk]:=PU ((0,(0,())):U3) Bp tLt
theorem AOJ v:AXI v=ATj v:=A0 _
def mK[Lk]:Ub->Option (Ud):=fun(a,_)=>
 some ((ieq a (w64 (IntKind.wrap .u16 a))),())
def bI[Lk]:=lkk mK
theorem re v:bI v=mK v:=A0 _
def bC[Lk]:Ub->Option (Ud):=fun(a,_)=>
 match(ile 1 a)with
 |true=>some ((ile a 4),())
 |false=>some (false,())
def ln[Lk]:=lkk bC
theorem iw v:ln v=bC v:=A0 _
abbrev UX:A1:=[Aw,(.tmp 1,.clo 110 [])]
abbrev gu:A1:=[Aw,(.tmp 1,.clo 110 []),AQ,AP]
def Fl[Lk]:(List U3×Int×Int×Unit)->Option ((List U3×Int×Int×Unit)⊕Ub⊕(Unit)⊕Unit):=fun(b,c,a,_)=>
 match(ilt a c)with
 |true=>match idx b a with|none=>none|some d=>match bI (d.1,())with|none=>none|some (e,_)=>match(!e)with
  |true=>some (.inr (.inl (a,())))
  |false=>match bI (d.2.1,())with|none=>none|some (f,_)=>match(!f)with
  |true=>some (.inr (.inl (a,())))
  |false=>some (.inl (b,c,(w64 (a+1)),()))
 |false=>some (.inr (.inr (.inl ())))
def Nz[Lk]:Uz->Option (Ub):=fun(a,_)=>
 match A' Fl many (a,(A2 a),0,())with|none=>none|some r=>match r with
 |.inl (b,_)=>some (b,())
 |.inr r=>match r with
 |.inl _=>some ((-1:Int),())
 |.inr _=>none
def S4[Lk]:=lkk Nz
theorem R9 v:S4 v=Nz v:=A0 _
abbrev UZ:A1:=[(.tmp 0,.dat Uw),(.tmp 1,.clo 113 [])]
abbrev g8:A1:=[(.tmp 0,.dat Uw),(.tmp 1,.clo 113 []),AQ,AP]
def Fm[Lk]:(List Ua×Int×Int×Unit)->Option ((List Ua×Int×Int×Unit)⊕Ub⊕(Unit)⊕Unit):=fun(c,d,a,_)=>
 match(ilt a d)with
 |true=>match idx c a with|none=>none|some b=>match ln (b.1,())with|none=>none|some (e,_)=>match(!e)with
  |true=>some (.inr (.inl (a,())))
  |false=>match bI (b.2.1,())with|none=>none|some (f,_)=>match(!f)with
  |true=>some (.inr (.inl (a,())))
  |false=>match bI (b.2.2.1,())with|none=>none|some (g,_)=>match(!g)with
  |true=>some (.inr (.inl (a,())))
  |false=>some (.inl (c,d,(w64 (a+1)),()))
 |false=>some (.inr (.inr (.inl ())))
def N1[Lk]:(List Ua×Unit)->Option (Ub):=fun(a,_)=>
 match A' Fm many (a,(A2 a),0,())with|none=>none|some r=>match r with
 |.inl (b,_)=>some (b,())
 |.inr r=>match r with
 |.inl _=>some ((-1:Int),())
 |.inr _=>none
def S6[Lk]:=lkk N1
theorem SA v:S6 v=N1 v:=A0 _
def Lv[Lk]:(List Ua×Unit)->Option (Ud):=fun(a,_)=>
 match S6 (a,())with|none=>none|some (b,_)=>some ((ile 0 b),())
def LX[Lk]:=lkk Lv
theorem P8 v:LX v=Lv v:=A0 _
abbrev ARE:A1:=[(.tmp 0,.dat (.prod U0 U2))]
def fh[Lk]:(Ua×Unit)->Option (Uj):=fun(a,_)=>
 match(ieq a.1 1)with
 |true=>some (([a.2.1,a.2.2.1]:List (Int)),())
 |false=>match(ieq a.1 2)with
 |true=>some (([a.2.1]:List (Int)),())
 |false=>match(ieq a.1 3)with
 |true=>some (([a.2.1]:List (Int)),())
 |false=>some (([]:List (Int)),())
def qZ[Lk]:=lkk fh
theorem lO v:qZ v=fh v:=A0 _
abbrev qT:A1:=[(.tmp 0,.dat (.prod U0 (.prod Ul (.prod Uw .unit))))]
abbrev AeA:Loc×Con:=(.tmp 25,.di)
abbrev ARA:A1:=[Ax,(.tmp 24,.dat Uw),AeA,AY]
abbrev AQ8:BJ:=[(.exit 2,[Ax])]
def Vy[Lk]:(List Int×List Ua×Int×Int×Unit)->Option ((List Int×List Ua×Int×Int×Unit)⊕Uj⊕Unit):=fun(a,d,e,b,_)=>
 match(ilt b e)with
 |true=>match idx d b with|none=>none|some c=>match qZ ((c.1,(c.2.1,(c.2.2.1,()))),())with|none=>none|some (f,_)=>match(fits ((A2 a)+(A2 f)))with
  |true=>some (.inl ((B2 a f),d,e,(w64 (b+1)),()))
  |false=>none
 |false=>some (.inr (.inl (a,())))
abbrev AeB:Loc×Con:=(.cell 0 1,.dat Ul)
abbrev AeC:Loc×Con:=(.cell 0 2,.dat Uw)
abbrev AeD:Loc×Con:=(.tmp 1,.box 3)
abbrev ARB:A1:=[AeD,AI,AeB,AeC,Ax,(.tmp 9,.dat Ul),AZ,Aa]
abbrev AQ9:BJ:=[(.exit 0,[AeD,AI,AeB,AeC,Ax])]
def QH[Lk]:(Int×List U3×List Ua×List Int×List U3×Int×Int×Unit)->Option ((Int×List U3×List Ua×List Int×List U3×Int×Int×Unit)⊕(Int×List U3×List Ua×List Int×Unit)⊕Unit):=fun(d,e,f,b,g,h,c,_)=>
 match(ilt c h)with
 |true=>match idx g c with|none=>none|some a=>match(fits ((A2 b)+(A2 ([a.1,a.2.1]:List (Int)))))with
  |true=>some (.inl (d,e,f,(B2 b ([a.1,a.2.1]:List (Int))),g,h,(w64 (c+1)),()))
  |false=>none
 |false=>some (.inr (.inl (d,e,f,b,())))
def qU[Lk]:(Us×Unit)->Option (Uj):=fun(a,_)=>
 match A' QH many (a.1,a.2.1,a.2.2.1,([]:List (Int)),a.2.1,(A2 a.2.1),0,())with|none=>none|some r=>match r with
 |.inl (e,f,b,c,_)=>match A' Vy many (c,b,(A2 b),0,())with|none=>none|some r=>match r with
  |.inl (d,_)=>some (d,())
  |.inr _=>none
 |.inr _=>none
def AFH[Lk]:=lkk qU
theorem w8 v:AFH v=qU v:=A0 _
def pU[Lk]:Ub->Option (Ud):=fun(a,_)=>
 match(ile 0 a)with
 |true=>some ((ilt a 65536),())
 |false=>some (false,())
def wC[Lk]:=lkk pU
theorem wB v:wC v=pU v:=A0 _
abbrev AQJ:A1:=[(.tmp 0,.dat U2)]
abbrev AeE:Loc×Con:=(.tmp 0,.dat U9)
abbrev AZA:A1:=[AeE,At]
def ACO[Lk]:(U3×Unit)->Option ((Int×Bool×Unit)):=fun(a,_)=>
 match wC (a.1,())with|none=>none|some (b,_)=>match(!b)with
 |true=>some (0,false,())
 |false=>match wC (a.2.1,())with|none=>none|some (c,_)=>match(!c)with
 |true=>some (0,false,())
 |false=>match shl? .u32 (IntKind.wrap .u32 (C8 a.1 a.2.1)) 16 with|none=>none|some d=>some ((IntKind.wrap .u32 ((BitVec.ofInt (IntKind.bits .u32) d ||| BitVec.ofInt (IntKind.bits .u32) (IntKind.wrap .u32 (imax a.1 a.2.1))).toNat)),true,())
def AVC[Lk]:=lkk ACO
theorem AE6 v:AVC v=ACO v:=A0 _
abbrev pZ:A1:=[AeE]
def pc[Lk]:Ub->Option ((U3×Unit)):=fun(a,_)=>
 match shr? .u32 a 16 with|none=>none|some b=>some (((w64 b),((w64 (IntKind.wrap .u16 a)),())),())
def AE8[Lk]:=lkk pc
theorem wF v:AE8 v=pc v:=A0 _
abbrev AeF:Loc×Con:=(.tmp 0,.dat Uy)
abbrev k6:A1:=[AeF]
abbrev AeG:Loc×Con:=(.tmp 0,.own 4 .bool)
abbrev AJu:A1:=[AeG]
abbrev ACS:A1:=[AeF,(.tmp 3,.own 4 .bool),(.tmp 9,.dat Uy),AZ,Aa]
abbrev ACR:BJ:=[(.exit 0,[(.tmp 3,.own 4 .bool)])]
def Kp[Lk]:(List Int×List Bool×List Int×Int×Int×Unit)->Option ((List Int×List Bool×List Int×Int×Int×Unit)⊕(List Bool×Unit)⊕Unit):=fun(c,b,d,e,a,_)=>
 match(ilt a e)with
 |true=>match idx d a with|none=>none|some f=>match(ieq a 0)with
  |true=>match idx b a with|none=>none|some h=>some (.inl (c,(Bl b (A4 a) true),d,e,(w64 (a+1)),()))
  |false=>match idx c (w64 (a-1))with|none=>none|some g=>match idx b a with|none=>none|some i=>some (.inl (c,(Bl b (A4 a) (!(ieq g f))),d,e,(w64 (a+1)),()))
 |false=>some (.inr (.inl (b,())))
def X4[Lk]:Uj->Option ((List Bool×Unit)):=fun(a,_)=>
 match(CY (A2 a)&&CY (A2 a)&&ile (A2 a) (A2 a)&&true)with
 |true=>match A' Kp many (a,(Df (A4 (A2 a)) false),a,(A2 a),(0:Int),())with|none=>none|some r=>match r with
  |.inl (b,_)=>some (b,())
  |.inr _=>none
 |false=>none
def aT[Lk]:=lkk X4
theorem fD v:aT v=X4 v:=A0 _
def Qf[Lk]:Ub->Option (Ub):=fun(a,_)=>
 match(ilt a 1)with
 |true=>some (0,())
 |false=>match(ilt 16 a)with
 |true=>some (0,())
 |false=>match quo? .i64 (w64 ((w64 (32+a))-1)) a with|none=>none|some b=>some (b,())
def Qg[Lk]:=lkk Qf
theorem Sc v:Qg v=Qf v:=A0 _
def cU[Lk]:U3->Option (Ud):=fun(a,b,_)=>
 match(ile 0 a)with
 |true=>match Qg (b,())with|none=>none|some (c,_)=>some ((ilt a c),())
 |false=>some (false,())
def nH[Lk]:=lkk cU
theorem jg v:nH v=cU v:=A0 _
abbrev AM3:A1:=[AeE,AE,AF]
def cj[Lk]:Ua->Option (Ub):=fun(c,b,a,_)=>
 match nH (b,a,())with|none=>none|some (d,_)=>match(!d)with
 |true=>some (0,())
 |false=>match shr? .u32 c (IntKind.wrap .u64 (w64 (b*a)))with|none=>none|some e=>match shl? .u32 1 (IntKind.wrap .u64 a)with|none=>none|some f=>some ((IntKind.wrap .u32 ((BitVec.ofInt (IntKind.bits .u32) e &&& BitVec.ofInt (IntKind.bits .u32) (IntKind.wrap .u32 (f-1))).toNat)),())
def XL[Lk]:=lkk cj
theorem jr v:XL v=cj v:=A0 _
abbrev AMy:A1:=[AO,AE,(.tmp 5,.map U0 U0),(.tmp 9,.dat U7),AZ,Aa]
abbrev AMx:BJ:=[(.ret,[Ai]),(.exit 0,[AO,AE])]
def PJ[Lk]:(List Int×Int×List Ui×List Int×Int×Int×Unit)->Option ((List Int×Int×List Ui×List Int×Int×Int×Unit)⊕Ud⊕Ut⊕Unit):=fun(e,c,b,f,g,d,_)=>
 match(ilt d g)with
 |true=>match idx f d with|none=>none|some a=>match(ilt a 0)with
  |true=>some (.inr (.inl (false,())))
  |false=>match(ile c a)with
  |true=>some (.inr (.inl (false,())))
  |false=>match(ilt 1 ((A_ (BH b a (w64 (((A_ b a).getD 0)+1))) a).getD 0))with
  |true=>some (.inr (.inl (false,())))
  |false=>some (.inl (e,c,(BH b a (w64 (((A_ b a).getD 0)+1))),f,g,(w64 (d+1)),()))
 |false=>some (.inr (.inr (.inl (e,c,()))))
def nK[Lk]:Ut->Option (Ud):=fun(a,b,_)=>
 match A' PJ many (a,b,([]:List Ui),a,(A2 a),0,())with|none=>none|some r=>match r with
 |.inl (c,_)=>some (c,())
 |.inr r=>match r with
 |.inl (d,e,_)=>some ((ieq (A2 d) e),())
 |.inr _=>none
def ADs[Lk]:=lkk nK
theorem si v:ADs v=nK v:=A0 _
abbrev AZ2:A1:=[AeF,Ae,AF,AS]
abbrev AeH:Loc×Con:=(.tmp 13,.own 3 U0)
abbrev AeI:Loc×Con:=(.tmp 9,.own 3 U0)
abbrev AX8:A1:=[AeF,AF,AS,AeI,AeH,(.tmp 63,.dat U7),(.tmp 64,.di),(.tmp 65,.di)]
abbrev AX5:BJ:=[(.exit 4,[AeH])]
def nQ[Lk]:(List Int×Int×Int×List Int×List Int×List Int×Int×Int×Unit)->Option ((List Int×Int×Int×List Int×List Int×List Int×Int×Int×Unit)⊕Uj⊕Unit):=fun(e,f,g,a,c,h,i,d,_)=>
 match(ilt d i)with
 |true=>match idx h d with|none=>none|some j=>match idx e j with|none=>none|some k=>match XL (k,f,g,())with|none=>none|some (b,_)=>match idx a b with|none=>none|some l=>match idx c (A9 a (A4 b) 0)with|none=>none|some m=>match idx a b with|none=>none|some n=>match idx a b with|none=>none|some o=>some (.inl (e,f,g,(Bl a (A4 b) (w64 ((A9 a (A4 b) 0)+1))),(Bl c (A4 (A9 a (A4 b) 0)) j),h,i,(w64 (d+1)),()))
 |false=>some (.inr (.inl (c,())))
abbrev AeJ:Loc×Con:=(.tmp 45,.di)
abbrev AX9:A1:=[AeF,Ae,AF,AS,AeI,(.tmp 44,.di),AeJ]
abbrev AX6:BJ:=[(.exit 2,[AeF,Ae,AF,AS,AeI])]
def ck[Lk]:(List Int×List Int×Int×Int×List Int×Int×Int×Unit)->Option ((List Int×List Int×Int×Int×List Int×Int×Int×Unit)⊕(List Int×List Int×Int×Int×List Int×Unit)⊕Unit):=fun(c,d,e,f,b,g,a,_)=>
 match(ilt a g)with
 |true=>match idx b (w64 (a+1))with|none=>none|some h=>match idx b a with|none=>none|some i=>match idx b (w64 (a+1))with|none=>none|some j=>some (.inl (c,d,e,f,(Bl b (A4 (w64 (a+1))) (w64 ((A9 b (A4 (w64 (a+1))) 0)+(A9 b (A4 a) 0)))),g,(w64 (a+1)),()))
 |false=>some (.inr (.inl (c,d,e,f,b,())))
abbrev AeK:Loc×Con:=(.tmp 24,.di)
abbrev AYA:A1:=[AeF,Ae,AF,AS,AeI,(.tmp 22,.dat U7),(.tmp 23,.di),AeK]
abbrev AX7:BJ:=[(.exit 0,[AeF,Ae,AF,AS,AeI])]
def cn[Lk]:Uv->Option (Uv⊕(List Int×List Int×Int×Int×List Int×Unit)⊕Unit):=fun(c,g,d,e,a,h,i,f,_)=>
 match(ilt f i)with
 |true=>match idx h f with|none=>none|some j=>match idx c j with|none=>none|some k=>match XL (k,d,e,())with|none=>none|some (b,_)=>match idx a (IntKind.wrap .u32 (b+1))with|none=>none|some l=>match idx a (IntKind.wrap .u32 (b+1))with|none=>none|some m=>some (.inl (c,g,d,e,(Bl a (A4 (IntKind.wrap .u32 (b+1))) (w64 ((A9 a (A4 (IntKind.wrap .u32 (b+1))) 0)+1))),h,i,(w64 (f+1)),()))
 |false=>some (.inr (.inl (c,g,d,e,a,())))
def AM7[Lk]:(List Int×List Int×Int×Int×Unit)->Option (Uj):=fun(f,c,g,d,_)=>
 match shl? .i64 1 (IntKind.wrap .u64 d)with|none=>none|some b=>match(CY (w64 (b+1))&&CY (w64 (b+1))&&ile (w64 (b+1)) (w64 (b+1))&&true)with
 |true=>match A' cn many (f,c,g,d,(Df (A4 (w64 (b+(1:Int)))) (0:Int)),c,(A2 c),(0:Int),())with|none=>none|some r=>match r with
  |.inl (h,i,j,k,e,_)=>match A' ck many (h,i,j,k,e,(w64 ((A2 e)-1)),0,())with|none=>none|some r=>match r with
   |.inl (l,a,m,n,o,_)=>match(CY (A2 a)&&CY (A2 a)&&ile (A2 a) (A2 a)&&true)with
    |true=>match A' nQ many (l,m,n,o,(Df (A4 (A2 a)) (0:Int)),a,(A2 a),(0:Int),())with|none=>none|some r=>match r with
     |.inl (p,_)=>some (p,())
     |.inr _=>none
    |false=>none
   |.inr _=>none
  |.inr _=>none
 |false=>none
def rby[Lk]:=lkk AM7
theorem AM6 v:rby v=AM7 v:=A0 _
def O7[Lk]:U3->Option (Ud):=fun(a,b,_)=>
 match(ile 1 a)with
 |true=>match(ile a 1000)with
  |true=>match(ile 1 b)with
   |true=>some ((ile b 100),())
   |false=>some (false,())
  |false=>some (false,())
 |false=>some (false,())
def L6[Lk]:=lkk O7
theorem Tg v:L6 v=O7 v:=A0 _
abbrev AeL:Loc×Con:=(.tmp 0,.dat (.prod Uu (.prod U0 (.prod Uo .unit))))
abbrev AF6:A1:=[AeL]
abbrev AeM:Loc×Con:=(.cell 0 0,.dat Uu)
abbrev AeN:Loc×Con:=(.cell 0 2,.dat Uo)
abbrev AeO:Loc×Con:=(.cell 0 1,.di)
abbrev yR:A1:=[AeD,AeM,AeO,AeN,(.tmp 25,.dat Uu),AY,AX]
abbrev bf:BJ:=[(.ret,[AH]),(.exit 0,[])]
def NX[Lk]:(List U5×Int×List Bool×List U5×Int×Int×Unit)->Option ((List U5×Int×List Bool×List U5×Int×Int×Unit)⊕Ud⊕(Unit)⊕Unit):=fun(f,g,c,d,e,b,_)=>
 match(ilt b e)with
 |true=>match idx d b with|none=>none|some a=>match(ilt a.1 0)with
  |true=>some (.inr (.inl (false,())))
  |false=>match(ile a.2.1 a.1)with
  |true=>some (.inr (.inl (false,())))
  |false=>match(ilt (A2 c) a.2.1)with
  |true=>some (.inr (.inl (false,())))
  |false=>match(ilt a.2.2.1 (-1:Int))with
  |true=>some (.inr (.inl (false,())))
  |false=>match(ile b a.2.2.1)with
  |true=>some (.inr (.inl (false,())))
  |false=>match(ilt a.2.2.2.1 0)with
  |true=>some (.inr (.inl (false,())))
  |false=>match(ilt 2 a.2.2.2.1)with
  |true=>some (.inr (.inl (false,())))
  |false=>some (.inl (f,g,c,d,e,(w64 (b+1)),()))
 |false=>some (.inr (.inr (.inl ())))
def W2[Lk]:(((List U5)×Int×(List Bool)×Unit)×Unit)->Option (Ud):=fun(a,_)=>
 match L6 ((A2 a.2.2.1),a.2.1,())with|none=>none|some (b,_)=>match(!b)with
 |true=>some (false,())
 |false=>match(ieq (A2 a.1) 0)with
 |true=>some (false,())
 |false=>match(ilt 2000 (A2 a.1))with
 |true=>some (false,())
 |false=>match A' NX many (a.1,a.2.1,a.2.2.1,a.1,(A2 a.1),0,())with|none=>none|some r=>match r with
 |.inl (c,_)=>some (c,())
 |.inr r=>match r with
 |.inl _=>some (true,())
 |.inr _=>none
def Tc[Lk]:=lkk W2
theorem bg v:Tc v=W2 v:=A0 _
abbrev L5:A1:=[AeL,AE]
def W1[Lk]:(((List U5)×Int×(List Bool)×Unit)×Int×Unit)->Option (Ub):=fun(a,b,_)=>
 match Tc ((a.1,(a.2.1,(a.2.2.1,()))),())with|none=>none|some (c,_)=>match(!c)with
 |true=>some (1,())
 |false=>match(ilt b 0)with
 |true=>some (6,())
 |false=>match(ile (A2 a.1) b)with
 |true=>some (6,())
 |false=>some (0,())
def QV[Lk]:=lkk W1
theorem bc v:QV v=W1 v:=A0 _
abbrev AF3:A1:=[(.tmp 0,.dat U8)]
def W0[Lk]:(U5×Unit)->Option (Ub):=fun(a,_)=>
 some ((w64 (a.2.1-a.1)),())
def NW[Lk]:=lkk W0
theorem ba v:NW v=W0 v:=A0 _
def W3[Lk]:(((List U5)×Int×(List Bool)×Unit)×Int×Unit)->Option (Ud):=fun(a,c,_)=>
 match QV ((a.1,(a.2.1,(a.2.2.1,()))),c,())with|none=>none|some (d,_)=>match(ieq d 0)with
 |true=>match idx a.1 c with|none=>none|some b=>match NW ((b.1,(b.2.1,(b.2.2.1,(b.2.2.2.1,())))),())with|none=>none|some (e,_)=>some ((ilt a.2.1 e),())
 |false=>some (false,())
def Td[Lk]:=lkk W3
theorem bj v:Td v=W3 v:=A0 _
abbrev AeP:Loc×Con:=(.tmp 2,.own 4 .bool)
abbrev AeQ:Loc×Con:=(.tmp 0,.own 320 U8)
abbrev AGB:A1:=[AeQ,AE,AeP,AS]
abbrev AGA:List RS:=[.agg 3,.one]
def W4[Lk]:U3->Option ((List U5×Int×List Bool×Int×Unit)):=fun(a,b,_)=>
 match L6 (a,b,())with|none=>none|some (c,_)=>match(!c)with
 |true=>some (([]:List U5),0,([]:List (Bool)),1,())
 |false=>match(CY a&&CY a&&ile a a&&true)with
 |true=>some (([((0:Int),(a,((-1:Int),((0:Int),()))))]:List U5),b,(Df (A4 a) false),(0:Int),())
 |false=>none
def Zl[Lk]:=lkk W4
theorem bm v:Zl v=W4 v:=A0 _
abbrev AeR:Loc×Con:=(.tmp 5,.di)
abbrev ALe:A1:=[(.tmp 0,.dat Uu),AE,(.tmp 2,.dat Uo),AS,AR,AeR]
abbrev ALd:List RS:=[.agg 3,.one,.one,.one]
def bh[Lk]:(((List U5)×Int×(List Bool)×Unit)×Int×Unit)->Option ((List U5×Int×List Bool×Int×Int×Int×Unit)):=fun(b,c,_)=>
 match QV ((b.1,(b.2.1,(b.2.2.1,()))),c,())with|none=>none|some (f,_)=>match(!(ieq f 0))with
 |true=>some (b.1,b.2.1,b.2.2.1,0,0,f,())
 |false=>match idx b.1 c with|none=>none|some a=>match NW ((a.1,(a.2.1,(a.2.2.1,(a.2.2.2.1,())))),())with|none=>none|some (g,_)=>match(ile g b.2.1)with
 |true=>some (b.1,b.2.1,b.2.2.1,0,0,5,())
 |false=>match(ilt 0 a.2.2.2.1)with
 |true=>some (b.1,b.2.1,b.2.2.1,0,0,5,())
 |false=>match(ilt 2000 (w64 ((A2 b.1)+2)))with
 |true=>some (b.1,b.2.1,b.2.2.1,0,0,2,())
 |false=>match NW ((a.1,(a.2.1,(a.2.2.1,(a.2.2.2.1,())))),())with|none=>none|some (h,_)=>match quo? .i64 h 2 with|none=>none|some d=>match QA b.1 with|none=>none|some e=>match(fits ((A2 e)+(A2 ([(a.1,((w64 (a.1+d)),(c,(0,())))),((w64 (a.1+d)),(a.2.1,(c,(0,()))))]:List U5))))with
 |true=>match idx (B2 e ([(a.1,((w64 (a.1+d)),(c,(0,())))),((w64 (a.1+d)),(a.2.1,(c,(0,()))))]:List U5)) c with|none=>none|some i=>some ((Bl (B2 e ([(a.1,((w64 (a.1+d)),(c,(0,())))),((w64 (a.1+d)),(a.2.1,(c,(0,()))))]:List U5)) (A4 c) ((A9 (B2 e ([(a.1,((w64 (a.1+d)),(c,(0,())))),((w64 (a.1+d)),(a.2.1,(c,(0,()))))]:List U5)) (A4 c) (0,(0,(0,(0,()))))).1,((A9 (B2 e ([(a.1,((w64 (a.1+d)),(c,(0,())))),((w64 (a.1+d)),(a.2.1,(c,(0,()))))]:List U5)) (A4 c) (0,(0,(0,(0,()))))).2.1,((A9 (B2 e ([(a.1,((w64 (a.1+d)),(c,(0,())))),((w64 (a.1+d)),(a.2.1,(c,(0,()))))]:List U5)) (A4 c) (0,(0,(0,(0,()))))).2.2.1,(2,()))))),b.2.1,b.2.2.1,(A2 b.1),(w64 ((A2 b.1)+1)),0,())
 |false=>none
def mX[Lk]:=lkk bh
theorem jM v:mX v=bh v:=A0 _
abbrev yU:A1:=[AeQ,AE]
abbrev AeS:Loc×Con:=(.obj 0,.own 320 U8)
abbrev yT:A1:=[AeS,AD]
abbrev r6:A1:=[AeS,Am,AE]
abbrev rz:BJ:=[(.ret,[AeS,Ai]),(.exit 0,[AeS])]
def IV[Lk]:(List U5×Int×Unit)->Option ((List U5×Int×Unit)⊕(List U5×Bool×Unit)⊕(List U5×Unit)⊕Unit):=fun(b,a,_)=>
 match(!(ieq a (-1:Int)))with
 |true=>match idx b a with|none=>none|some c=>match(ieq (A9 b (A4 a) (0,(0,(0,(0,()))))).2.2.2.1 0)with
  |true=>some (.inr (.inl (b,false,())))
  |false=>match(ilt 0 (A9 (Bl b (A4 a) ((A9 b (A4 a) (0,(0,(0,(0,()))))).1,((A9 b (A4 a) (0,(0,(0,(0,()))))).2.1,((A9 b (A4 a) (0,(0,(0,(0,()))))).2.2.1,((w64 ((A9 b (A4 a) (0,(0,(0,(0,()))))).2.2.2.1-1)),()))))) (A4 a) (0,(0,(0,(0,()))))).2.2.2.1)with
  |true=>some (.inr (.inl ((Bl b (A4 a) ((A9 b (A4 a) (0,(0,(0,(0,()))))).1,((A9 b (A4 a) (0,(0,(0,(0,()))))).2.1,((A9 b (A4 a) (0,(0,(0,(0,()))))).2.2.1,((w64 ((A9 b (A4 a) (0,(0,(0,(0,()))))).2.2.2.1-1)),()))))),false,())))
  |false=>some (.inl ((Bl b (A4 a) ((A9 b (A4 a) (0,(0,(0,(0,()))))).1,((A9 b (A4 a) (0,(0,(0,(0,()))))).2.1,((A9 b (A4 a) (0,(0,(0,(0,()))))).2.2.1,((w64 ((A9 b (A4 a) (0,(0,(0,(0,()))))).2.2.2.1-1)),()))))),(A9 (Bl b (A4 a) ((A9 b (A4 a) (0,(0,(0,(0,()))))).1,((A9 b (A4 a) (0,(0,(0,(0,()))))).2.1,((A9 b (A4 a) (0,(0,(0,(0,()))))).2.2.1,((w64 ((A9 b (A4 a) (0,(0,(0,(0,()))))).2.2.2.1-1)),()))))) (A4 a) (0,(0,(0,(0,()))))).2.2.1,()))
 |false=>some (.inr (.inr (.inl (b,()))))
def SR[Lk]:(List U5×Int×Unit)->Option ((List U5×Bool×Unit)):=fun(a,b,_)=>
 match A' IV many (a,b,())with|none=>none|some r=>match r with
 |.inl (c,d,_)=>some (c,d,())
 |.inr r=>match r with
 |.inl (e,_)=>some (e,true,())
 |.inr _=>none
def Te[Lk]:=lkk SR
theorem YW v:Te v=SR v:=A0 _
abbrev AXf:A1:=[(.tmp 0,.dat Uu),AE,(.tmp 2,.dat Uo),AG,AR]
abbrev ALh:List RS:=[.agg 3,.one,.one]
abbrev AeT:Loc×Con:=(.cell 3 1,.di)
abbrev AeU:Loc×Con:=(.tmp 2,.box 3)
abbrev AeV:Loc×Con:=(.tmp 4,.box 3)
abbrev ARs:A1:=[AeU,(.cell 0 0,.own 320 U8),AeO,(.cell 0 2,.own 4 .bool),AeV,(.cell 3 0,.nil U8),AeT,(.cell 3 2,.nil .bool),(.tmp 8,.box 4),(.cell 4 0,.di),(.cell 4 1,.di),(.cell 4 2,.di),(.cell 4 3,.di),Ac]
abbrev ARr:BJ:=[(.exit 0,[AeU,(.cell 0 0,.own 320 U8),AeO,(.cell 0 2,.own 4 .bool),AeV,(.cell 3 0,.nil U8),AeT,(.cell 3 2,.nil .bool),(.tmp 8,.box 4),(.cell 4 0,.di),(.cell 4 1,.di),(.cell 4 2,.di),(.cell 4 3,.di)])]
def Tf[Lk]:(List U5×Int×List Bool×Int×Int×Int×Int×Int×Int×Unit)->Option ((List U5×Int×List Bool×Int×Int×Int×Int×Int×Int×Unit)⊕(List U5×Int×List Bool×Int×Int×Int×Int×Int×Unit)⊕Unit):=fun(d,e,b,f,g,c,h,i,a,_)=>
 match(ilt a c)with
 |true=>match idx b a with|none=>none|some j=>some (.inl (d,e,(Bl b (A4 a) true),f,g,c,h,i,(w64 (a+1)),()))
 |false=>some (.inr (.inl (d,e,b,f,g,c,h,i,())))
def yW[Lk]:(((List U5)×Int×(List Bool)×Unit)×Int×Unit)->Option ((List U5×Int×List Bool×Bool×Int×Unit)):=fun(a,c,_)=>
 match QV ((a.1,(a.2.1,(a.2.2.1,()))),c,())with|none=>none|some (d,_)=>match(!(ieq d 0))with
 |true=>some (a.1,a.2.1,a.2.2.1,false,d,())
 |false=>match idx a.1 c with|none=>none|some b=>match NW ((b.1,(b.2.1,(b.2.2.1,(b.2.2.2.1,())))),())with|none=>none|some (e,_)=>match(ilt a.2.1 e)with
 |true=>some (a.1,a.2.1,a.2.2.1,false,5,())
 |false=>match(ilt 0 b.2.2.2.1)with
 |true=>some (a.1,a.2.1,a.2.2.1,false,5,())
 |false=>match idx a.2.2.1 b.1 with|none=>none|some f=>match f with
 |true=>some (a.1,a.2.1,a.2.2.1,false,5,())
 |false=>match QA a.1 with|none=>none|some g=>match QA a.2.2.1 with|none=>none|some h=>match A' Tf many (g,a.2.1,h,0,b.1,b.2.1,b.2.2.1,b.2.2.2.1,b.1,())with|none=>none|some r=>match r with
 |.inl (i,j,k,o,p,q,l,s,_)=>match Te (i,l,())with|none=>none|some (m,n,_)=>some (m,j,k,n,0,())
 |.inr _=>none
def ARt[Lk]:=lkk yW
theorem ADV v:ARt v=yW v:=A0 _
def TG[Lk]:Ub->Option (Ud):=fun(a,_)=>
 match(ile 0 a)with
 |true=>some ((ile a 100000),())
 |false=>some (false,())
def QG[Lk]:=lkk TG
theorem ZC v:QG v=TG v:=A0 _
def fT[Lk]:(((List U5)×Int×(List Bool)×Unit)×Int×Unit)->Option (Ud):=fun(a,b,_)=>
 match(ile 0 b)with
 |true=>match(ilt b (A2 a.1))with
  |true=>match idx a.1 b with|none=>none|some c=>match(ieq c.2.2.2.1 0)with
   |true=>match Td ((a.1,(a.2.1,(a.2.2.1,()))),b,())with|none=>none|some (d,_)=>match d with
    |true=>some (true,())
    |false=>match idx a.1 b with|none=>none|some e=>match idx a.2.2.1 e.1 with|none=>none|some f=>some ((!f),())
   |false=>some (false,())
  |false=>some (false,())
 |false=>some (false,())
def qK[Lk]:=lkk fT
theorem lE v:qK v=fT v:=A0 _
abbrev AeW:Loc×Con:=(.tmp 0,.dat V1)
abbrev wL:A1:=[AeW]
abbrev AeX:Loc×Con:=(.cell 0 4,.dat .bool)
abbrev AeY:Loc×Con:=(.cell 0 3,.dat Uf)
abbrev AeZ:Loc×Con:=(.cell 0 6,.di)
abbrev Aea:Loc×Con:=(.cell 0 5,.di)
abbrev Aeb:Loc×Con:=(.tmp 1,.box 7)
abbrev Aec:Loc×Con:=(.tmp 46,.di)
abbrev Aed:Loc×Con:=(.tmp 39,.di)
abbrev Aee:Loc×Con:=(.tmp 40,.di)
abbrev AKA:A1:=[Aeb,AeM,AeO,AeN,AeY,AeX,Aea,AeZ,Ab,(.tmp 38,.dat Uf),Aed,Aee,(.tmp 44,.dat U7),AeJ,Aec]
abbrev AJ9:BJ:=[(.ret,[AH]),(.exit 2,[Aeb,AeM,AeO,AeN,AeY,AeX,Aea,AeZ,Ab,(.tmp 38,.dat Uf),Aed,Aee])]
def M3[Lk]:Vg->Option (Vg⊕Ud⊕V2⊕Unit):=fun(c,d,e,g,h,i,j,b,k,l,m,n,o,f,_)=>
 match(ilt f o)with
 |true=>match idx n f with|none=>none|some a=>match(ilt 1 ((A_ (BH b a (w64 (((A_ b a).getD 0)+1))) a).getD 0))with
  |true=>some (.inr (.inl (false,())))
  |false=>match qK ((c,(d,(e,()))),a,())with|none=>none|some (p,_)=>match(!p)with
  |true=>some (.inr (.inl (false,())))
  |false=>some (.inl (c,d,e,g,h,i,j,(BH b a (w64 (((A_ b a).getD 0)+1))),k,l,m,n,o,(w64 (f+1)),()))
 |false=>some (.inr (.inr (.inl (c,d,e,g,h,i,j,b,k,l,m,()))))
abbrev AKB:A1:=[Aeb,AeM,AeO,AeN,AeY,AeX,Aea,AeZ,Ab,(.tmp 38,.dat Uf),Aed,Aee]
def M4[Lk]:V2->Option (V2⊕Ud⊕(Unit)⊕Unit):=fun(e,f,g,h,i,j,k,l,b,c,a,_)=>
 match(ilt a c)with
 |true=>match idx b a with|none=>none|some d=>match A' M3 many (e,f,g,h,i,j,k,l,b,c,a,d,(A2 d),0,())with|none=>none|some r=>match r with
  |.inl (m,_)=>some (.inr (.inl (m,())))
  |.inr r=>match r with
  |.inl (n,o,p,q,s,t,u,v,w,x,y,_)=>some (.inl (n,o,p,q,s,t,u,v,w,x,(w64 (y+1)),()))
  |.inr _=>none
 |false=>some (.inr (.inr (.inl ())))
def fI[Lk]:((((List U5)×Int×(List Bool)×Unit)×(List U6)×Bool×Int×Int×Unit)×Unit)->Option (Ud):=fun(a,_)=>
 match Tc ((a.1.1,(a.1.2.1,(a.1.2.2.1,()))),())with|none=>none|some (b,_)=>match(!b)with
 |true=>some (false,())
 |false=>match(ieq (A2 a.2.1) 0)with
 |true=>some (false,())
 |false=>match(ilt 8 (A2 a.2.1))with
 |true=>some (false,())
 |false=>match QG (a.2.2.2.1,())with|none=>none|some (c,_)=>match(!c)with
 |true=>some (false,())
 |false=>match QG (a.2.2.2.2.1,())with|none=>none|some (d,_)=>match(!d)with
 |true=>some (false,())
 |false=>match A' M4 many (a.1.1,a.1.2.1,a.1.2.2.1,a.2.1,a.2.2.1,a.2.2.2.1,a.2.2.2.2.1,([]:List Ui),a.2.1,(A2 a.2.1),0,())with|none=>none|some r=>match r with
 |.inl (e,_)=>some (e,())
 |.inr r=>match r with
 |.inl _=>some (true,())
 |.inr _=>none
def pg[Lk]:=lkk fI
theorem k7 v:pg v=fI v:=A0 _
abbrev AQn:A1:=[AeQ,AE,AeP,(.tmp 3,.own 40 U7),Ai,AeR,Ad0,AQ]
abbrev AQm:List RS:=[.agg 7,.one]
def fV[Lk]:Ua->Option ((List U5×Int×List Bool×List U6×Bool×Int×Int×Int×Unit)):=fun(c,d,a,_)=>
 match(ilt a 1)with
 |true=>some (([]:List U5),0,([]:List (Bool)),([]:List U6),false,0,0,1,())
 |false=>match(ilt 8 a)with
 |true=>some (([]:List U5),0,([]:List (Bool)),([]:List U6),false,0,0,1,())
 |false=>match Zl (c,d,())with|none=>none|some (e,f,g,b,_)=>match(!(ieq b 0))with
 |true=>some (([]:List U5),0,([]:List (Bool)),([]:List U6),false,0,0,b,())
 |false=>match(CY a&&CY a&&ile a a&&true)with
 |true=>match idx (Df (A4 a) ()) (0:Int)with|none=>none|some h=>match(fits (A2 ([0]:List (Int))))with
  |true=>match idx (Df (A4 a) ()) (0:Int)with|none=>none|some i=>some (e,f,g,(Bl (Df (List.length (Df (A4 a) ())) []) 0 ([(0:Int)]:List (Int))),false,(0:Int),(0:Int),(0:Int),())
  |false=>none
 |false=>none
def TH[Lk]:=lkk fV
theorem lH v:TH v=fV v:=A0 _
abbrev AQd:A1:=[AF,(.tmp 6,.dat Uf),AQ,AP]
abbrev wi:BJ:=[(.exit 0,[AF])]
def QE[Lk]:(Int×List U6×Int×Int×Unit)->Option ((Int×List U6×Int×Int×Unit)⊕Ub⊕Unit):=fun(b,c,d,a,_)=>
 match(ilt a d)with
 |true=>match idx c a with|none=>none|some e=>some (.inl ((w64 (b+(A2 e))),c,d,(w64 (a+1)),()))
 |false=>some (.inr (.inl (b,())))
def qL[Lk]:((((List U5)×Int×(List Bool)×Unit)×(List U6)×Bool×Int×Int×Unit)×Unit)->Option (Ub):=fun(a,_)=>
 match A' QE many (0,a.2.1,(A2 a.2.1),0,())with|none=>none|some r=>match r with
 |.inl (b,_)=>some (b,())
 |.inr _=>none
def AFD[Lk]:=lkk qL
theorem wj v:AFD v=qL v:=A0 _
abbrev Aef:Loc×Con:=(.cell 0 10,.dat .bool)
abbrev Aeg:Loc×Con:=(.cell 0 3,.own 40 U7)
abbrev Aeh:Loc×Con:=(.cell 0 9,.di)
abbrev Aei:Loc×Con:=(.cell 0 8,.di)
abbrev Aej:Loc×Con:=(.cell 0 7,.di)
abbrev lC:A1:=[(.tmp 0,.box 11),AeM,AeO,AeN,Aeg,AeX,Aea,AeZ,Aej,Aei,Aeh,Aef,AE]
abbrev Aek:Loc×Con:=(.obj 1,.own' 1)
abbrev k9:A1:=[(.obj 0,.box 11),AeM,AeO,AeN,Aeg,AeX,Aea,AeZ,Aej,Aei,Aeh,Aef,Aek,AA]
def X_[Lk]:Uq->Option (Uq):=fun(b,c,d,a,e,f,g,h,i,j,k,l,_)=>
 match rem? l (A2 a)with|none=>none|some m=>match rem? (w64 (m+(A2 a))) (A2 a)with|none=>none|some n=>some (b,c,d,a,e,f,g,h,i,j,k,n,())
def VY[Lk]:=lkk X_
theorem fO v:VY v=X_ v:=A0 _
abbrev AQh:A1:=[(.tmp 0,.box 11),AeM,AeO,AeN,Aeg,AeX,Aea,AeZ,Aej,Aei,Aeh,Aef,AE,AF]
abbrev AQg:A1:=[(.obj 0,.box 11),AeM,AeO,AeN,Aeg,AeX,Aea,AeZ,Aej,Aei,Aeh,Aef,Aek,AD]
def fU[Lk]:(List U5×Int×List Bool×List U6×Bool×Int×Int×Int×Int×Int×Bool×Int×Int×Unit)->Option ((List U5×Int×List Bool×List U6×Bool×Int×Int×Int×Int×Int×Bool×Bool×Unit)):=fun(d,e,f,a,g,h,i,j,l,m,k,b,c,_)=>
 match idx a b with|none=>none|some r=>match idx a c with|none=>none|some s=>match(ile 0 (w64 ((A2 (A9 a (A4 b) ([]:List (Int))))-1)))with
 |true=>match idx (A9 a (A4 b) ([]:List (Int))) (w64 ((A2 (A9 a (A4 b) ([]:List (Int))))-1))with|none=>none|some n=>match(ieq (w64 ((A2 (A9 a (A4 b) ([]:List (Int))))-1)) (w64 ((A2 (A9 a (A4 b) ([]:List (Int))))-1)))with
  |true=>match EX (A9 a (A4 b) ([]:List (Int))) 0 (w64 ((A2 (A9 a (A4 b) ([]:List (Int))))-1))with|none=>none|some o=>match idx a b with|none=>none|some t=>some (d,e,f,(Bl a (A4 b) o),g,h,i,j,b,n,k,true,())
  |false=>none
 |false=>match(ilt 0 (A2 (A9 a (A4 c) ([]:List (Int)))))with
 |true=>match idx (A9 a (A4 c) ([]:List (Int))) 0 with|none=>none|some p=>match EX (A9 a (A4 c) ([]:List (Int))) 1 (A2 (A9 a (A4 c) ([]:List (Int))))with|none=>none|some q=>match idx a c with|none=>none|some u=>some (d,e,f,(Bl a (A4 c) q),g,h,i,j,c,p,k,true,())
 |false=>some (d,e,f,a,g,h,i,j,l,m,k,false,())
def qO[Lk]:=lkk fU
theorem lG v:qO v=fU v:=A0 _
def AQf[Lk]:Uq->Option (Uq):=fun(h,i,j,a,k,d,e,f,g,b,l,c,_)=>
 match Td ((h,(i,(j,()))),b,())with|none=>none|some (w,_)=>match w with
 |true=>match mX ((h,(i,(j,()))),b,())with|none=>none|some (n,o,p,q,r,m,_)=>match(ieq m 0)with
  |true=>match idx a c with|none=>none|some y=>match(fits ((A2 (A9 a (A4 c) ([]:List (Int))))+(A2 ([r,q]:List (Int)))))with
   |true=>match idx a c with|none=>none|some z=>some (n,o,p,(Bl a (A4 c) (B2 (A9 a (A4 c) ([]:List (Int))) ([r,q]:List (Int)))),k,d,e,f,g,b,true,m,())
   |false=>none
  |false=>some (n,o,p,a,k,d,e,f,g,b,l,m,())
 |false=>match ARt ((h,(i,(j,()))),b,())with|none=>none|some (s,t,u,x,v,_)=>match k with
 |true=>some (s,t,u,a,true,d,e,f,g,b,l,v,())
 |false=>some (s,t,u,a,x,d,e,f,g,b,l,v,())
def cgo[Lk]:=lkk AQf
theorem AQe v:cgo v=AQf v:=A0 _
abbrev AVI:A1:=[AeW,AE,AF]
abbrev AVH:A1:=[(.tmp 0,.dat Uu),AE,(.tmp 2,.dat Uo),(.tmp 3,.dat Uf),Ai,AeR,Ad0,(.tmp 7,.dat U1),AP]
abbrev AVG:List RS:=[.agg 7,.one,.one]
def pe[Lk]:((((List U5)×Int×(List Bool)×Unit)×(List U6)×Bool×Int×Int×Unit)×Int×Int×Unit)->Option ((List U5×Int×List Bool×List U6×Bool×Int×Int×U4×Int×Unit)):=fun(a,o,p,_)=>
 match pg (((a.1.1,(a.1.2.1,(a.1.2.2.1,()))),(a.2.1,(a.2.2.1,(a.2.2.2.1,(a.2.2.2.2.1,()))))),())with|none=>none|some (q,_)=>match(!q)with
 |true=>some (a.1.1,a.1.2.1,a.1.2.2.1,a.2.1,a.2.2.1,a.2.2.2.1,a.2.2.2.2.1,(0,(0,(0,(false,())))),1,())
 |false=>match(ieq a.2.2.2.1 100000)with
 |true=>some (a.1.1,a.1.2.1,a.1.2.2.1,a.2.1,a.2.2.1,a.2.2.2.1,a.2.2.2.2.1,(0,(0,(0,(false,())))),2,())
 |false=>match QA a.2.1 with|none=>none|some r=>match VY (a.1.1,a.1.2.1,a.1.2.2.1,r,a.2.2.1,a.2.2.2.1,a.2.2.2.2.1,0,(-1:Int),(-1:Int),false,o,())with|none=>none|some (s,t,u,v,w,x,y,z,A,B,C,b,_)=>match VY (s,t,u,v,w,x,y,z,A,B,C,p,())with|none=>none|some (D,E,F,G,H,I,J,y21,K,L,M,N,_)=>match qO (D,E,F,G,H,(w64 (I+1)),J,b,K,L,M,b,N,())with|none=>none|some (d,e,f,g,h,i,c,j,k,l,m,O,_)=>match O with
 |true=>match cgo (d,e,f,g,h,i,c,j,k,l,m,b,())with|none=>none|some (P,Q,R,S,T,U,V,W,X,Y,Z,n,_)=>match(!(ieq n 0))with
  |true=>some (a.1.1,a.1.2.1,a.1.2.2.1,a.2.1,a.2.2.1,a.2.2.2.1,a.2.2.2.2.1,(0,(0,(0,(false,())))),n,())
  |false=>some (P,Q,R,S,T,U,V,(W,(X,(Y,(Z,())))),0,())
 |false=>match(ieq c 100000)with
 |true=>some (a.1.1,a.1.2.1,a.1.2.2.1,a.2.1,a.2.2.1,a.2.2.2.1,a.2.2.2.2.1,(0,(0,(0,(false,())))),2,())
 |false=>some (d,e,f,g,h,i,(w64 (c+1)),(j,(k,(l,(m,())))),0,())
def AFB[Lk]:=lkk pe
theorem wI v:AFB v=pe v:=A0 _
abbrev Ael:Loc×Con:=(.cell 0 7,.own 358 U1)
abbrev AU8:A1:=[(.tmp 0,.box 8),AeM,AeO,AeN,AeY,AeX,Aea,AeZ,Ael,AE,AF]
abbrev Aem:Loc×Con:=(.obj 0,.box 8)
abbrev AE4:A1:=[Aem,AeM,AeO,AeN,AeY,AeX,Aea,AeZ,Ael,AA]
def pR[Lk]:(List U5×Int×List Bool×List U6×Bool×Int×Int×List U4×Int×Int×Unit)->Option (Ue):=fun(d,e,f,g,h,i,j,b,k,l,_)=>
 match AFB (((d,(e,(f,()))),(g,(h,(i,(j,()))))),k,l,())with|none=>none|some (m,n,o,p,q,r,s,a,c,_)=>match(ieq c 0)with
 |true=>match(fits ((A2 b)+(A2 ([(a.1,(a.2.1,(a.2.2.1,(a.2.2.2.1,()))))]:List U4))))with
  |true=>some (m,n,o,p,q,r,s,(B2 b ([(a.1,(a.2.1,(a.2.2.1,(a.2.2.2.1,()))))]:List U4)),c,())
  |false=>none
 |false=>some (d,e,f,g,h,i,j,b,c,())
def v5[Lk]:=lkk pR
theorem vz v:v5 v=pR v:=A0 _
abbrev AJm:A1:=[(.tmp 0,.box 8),AeM,AeO,AeN,AeY,AeX,Aea,AeZ,Ael]
abbrev Aen:Loc×Con:=(.tmp 0,.ptr' 0 0)
abbrev Aeo:Loc×Con:=(.tmp 14,.di)
abbrev ACG:A1:=[Aem,AeM,AeO,AeN,AeY,AeX,Aea,AeZ,Ael,Aen,AS,AM,Aeo]
abbrev ACE:BJ:=[(.ret,[Aem,AeM,AeO,AeN,AeY,AeX,Aea,AeZ,Ael,AF]),(.exit 2,[Aem,AeM,AeO,AeN,AeY,AeX,Aea,AeZ,Ael,Aen,AS])]
def EP[Lk]:(List U5×Int×List Bool×List U6×Bool×Int×Int×List U4×Int×Int×Int×Unit)->Option ((List U5×Int×List Bool×List U6×Bool×Int×Int×List U4×Int×Int×Int×Unit)⊕Ue⊕Ue⊕Unit):=fun(b,c,d,e,a,f,g,h,j,k,i,_)=>
 match(ilt i k)with
 |true=>match a with
  |true=>some (.inr (.inl (b,c,d,e,a,f,g,h,0,())))
  |false=>match AFD (((b,(c,(d,()))),(e,(a,(f,(g,()))))),())with|none=>none|some (u,_)=>match(ieq u 0)with
  |true=>some (.inr (.inl (b,c,d,e,a,f,g,h,4,())))
  |false=>match v5 (b,c,d,e,a,f,g,h,i,(w64 ((w64 (i+1))+j)),())with|none=>none|some (l,m,n,o,p,q,r,s,t,_)=>match(!(ieq t 0))with
  |true=>some (.inr (.inl (l,m,n,o,p,q,r,s,t,())))
  |false=>some (.inl (l,m,n,o,p,q,r,s,j,k,(w64 (i+1)),()))
 |false=>some (.inr (.inr (.inl (b,c,d,e,a,f,g,h,j,()))))
abbrev ACH:A1:=[Aem,AeM,AeO,AeN,AeY,AeX,Aea,AeZ,Ael,Aen,AS]
abbrev ACF:BJ:=[(.ret,[Aem,AeM,AeO,AeN,AeY,AeX,Aea,AeZ,Ael,AF])]
def F9[Lk]:Ue->Option (Ue⊕Ue⊕Unit):=fun(b,c,d,a,e,f,g,h,i,_)=>
 match A' EP many (b,c,d,a,e,f,g,h,i,(A2 a),0,())with|none=>none|some r=>match r with
 |.inl (j,k,l,m,n,o,p,q,s,_)=>some (.inr (.inl (j,k,l,m,n,o,p,q,s,())))
 |.inr r=>match r with
 |.inl (t,u,v,w,x,y,z,A,B,_)=>some (.inl (t,u,v,w,x,y,z,A,(w64 (B+1)),()))
 |.inr _=>none
def X2[Lk]:(List U5×Int×List Bool×List U6×Bool×Int×Int×List U4×Unit)->Option (Ue):=fun(a,b,c,d,e,f,g,h,_)=>
 match A' F9 many (a,b,c,d,e,f,g,h,0,())with|none=>none|some r=>match r with
 |.inl (i,j,k,l,m,n,o,p,q,_)=>some (i,j,k,l,m,n,o,p,q,())
 |.inr _=>none
def aQ[Lk]:=lkk X2
theorem ep v:aQ v=X2 v:=A0 _
abbrev AQE:A1:=[AA,AE,AF,(.tmp 3,.dat (.slice (.arr 2 U0)))]
abbrev AQD:A1:=[AeW,(.tmp 1,.own 358 U1),AF]
abbrev Ec:List RS:=[.one,.one,.one]
abbrev Aep:Loc×Con:=(.cell 0 2,.nil .bool)
abbrev Aeq:Loc×Con:=(.cell 1 1,.di)
abbrev AJk:A1:=[(.tmp 8,.box 7),(.cell 0 0,.nil U8),AeO,Aep,(.cell 0 3,.nil U7),AeX,Aea,AeZ,(.tmp 13,.box 8),(.cell 1 0,.dat Uu),Aeq,(.cell 1 2,.dat Uo),(.cell 1 3,.dat Uf),(.cell 1 4,.dat .bool),(.cell 1 5,.di),(.cell 1 6,.di),(.cell 1 7,.own 358 U1),(.tmp 31,.dat (.slice (.arr 2 U0))),Ah,(.tmp 33,.di)]
abbrev AJj:BJ:=[(.exit 0,[(.tmp 8,.box 7),(.cell 0 0,.nil U8),AeO,Aep,(.cell 0 3,.nil U7),AeX,Aea,AeZ,(.tmp 13,.box 8),(.cell 1 0,.dat Uu),Aeq,(.cell 1 2,.dat Uo),(.cell 1 3,.dat Uf),(.cell 1 4,.dat .bool),(.cell 1 5,.di),(.cell 1 6,.di),(.cell 1 7,.own 358 U1)]),(.ret,[(.tmp 8,.box 7),AeM,AeO,AeN,AeY,AeX,Aea,AeZ,(.tmp 9,.own 358 U1),AZ])]
def J7[Lk]:Vf->Option (Vf⊕(Int×Bool×Int×Int×List U5×Int×List Bool×List U6×Bool×Int×Int×List U4×Unit)⊕Ue⊕Unit):=fun(b,c,d,e,f,g,h,i,a,j,k,l,n,o,m,_)=>
 match(ilt m o)with
 |true=>match idx n m with|none=>none|some p=>match a with
  |true=>some (.inr (.inl (b,c,d,e,f,g,h,i,a,j,k,l,())))
  |false=>match v5 (f,g,h,i,a,j,k,l,(A9 p 0 0),(A9 p 1 0),())with|none=>none|some (q,r,s,t,u,v,w,x,y,_)=>match(!(ieq y 0))with
  |true=>some (.inr (.inr (.inl (q,r,s,t,u,v,w,x,y,()))))
  |false=>some (.inl (b,c,d,e,q,r,s,t,u,v,w,x,n,o,(w64 (m+1)),()))
 |false=>some (.inr (.inl (b,c,d,e,f,g,h,i,a,j,k,l,())))
def eo[Lk]:(Int×Int×Int×List U6×Unit)->Option (((((List U5)×Int×(List Bool)×Unit)×(List U6)×Bool×Int×Int×Unit)×List U4×Int×Unit)):=fun(c,d,e,a,_)=>
 match TH (c,d,e,())with|none=>none|some (f,g,h,i,j,k,l,b,_)=>match(!(ieq b 0))with
 |true=>some (((([]:List U5),(0,(([]:List (Bool)),()))),(([]:List U6),(false,(0,(0,()))))),([]:List U4),b,())
 |false=>match A' J7 many (0,false,0,0,f,g,h,i,j,k,l,([]:List U4),a,(A2 a),0,())with|none=>none|some r=>match r with
 |.inl (N,O,P,Q,m,n,o,p,q,s,t,u,_)=>match aQ (m,n,o,p,q,s,t,u,())with|none=>none|some (v,w,x,y,z,A,B,C,D,_)=>some (((v,(w,(x,()))),(y,(z,(A,(B,()))))),C,D,())
 |.inr r=>match r with
 |.inl (E,F,G,H,I,J,K,L,M,_)=>some (((E,(F,(G,()))),(H,(I,(J,(K,()))))),L,M,())
 |.inr _=>none
def X1[Lk]:=lkk eo
theorem ku v:X1 v=eo v:=A0 _
abbrev AJq:A1:=[AeW,(.tmp 1,.dat Uh)]
abbrev AJp:A1:=[(.tmp 0,.own 315 U2)]
abbrev ACN:A1:=[(.tmp 2,.box 7),AeM,AeO,AeN,AeY,AeX,Aea,AeZ,(.tmp 5,.own 315 U2),(.tmp 9,.dat Uh),AZ,Aa]
abbrev ACL:BJ:=[(.exit 0,[(.tmp 5,.own 315 U2)])]
def Km[Lk]:(List U5×Int×List Bool×List U6×Bool×Int×Int×List U3×List U4×Int×Int×Unit)->Option ((List U5×Int×List Bool×List U6×Bool×Int×Int×List U3×List U4×Int×Int×Unit)⊕Uz⊕Unit):=fun(a,f,g,h,i,j,k,b,d,e,c,_)=>
 match(ilt c e)with
 |true=>match idx d c with|none=>none|some l=>match l.2.2.2.1 with
  |true=>some (.inl (a,f,g,h,i,j,k,b,d,e,(w64 (c+1)),()))
  |false=>match(ilt l.2.2.1 0)with
  |true=>some (.inl (a,f,g,h,i,j,k,b,d,e,(w64 (c+1)),()))
  |false=>match(ile (A2 a) l.2.2.1)with
  |true=>some (.inl (a,f,g,h,i,j,k,b,d,e,(w64 (c+1)),()))
  |false=>match idx a l.2.2.1 with|none=>none|some m=>match(fits ((A2 b)+(A2 ([(m.1,(m.2.1,()))]:List U3))))with
  |true=>some (.inl (a,f,g,h,i,j,k,(B2 b ([(m.1,(m.2.1,()))]:List U3)),d,e,(w64 (c+1)),()))
  |false=>none
 |false=>some (.inr (.inl (b,())))
def X3[Lk]:((((List U5)×Int×(List Bool)×Unit)×(List U6)×Bool×Int×Int×Unit)×List U4×Unit)->Option (Uz):=fun(a,b,_)=>
 match A' Km many (a.1.1,a.1.2.1,a.1.2.2.1,a.2.1,a.2.2.1,a.2.2.2.1,a.2.2.2.2.1,([]:List U3),b,(A2 b),0,())with|none=>none|some r=>match r with
 |.inl (c,_)=>some (c,())
 |.inr _=>none
def aS[Lk]:=lkk X3
theorem fC v:aS v=X3 v:=A0 _
abbrev APp:A1:=[(.tmp 0,.dat Ug)]
def eS[Lk]:(Uk×Unit)->Option (Ud):=fun(a,_)=>
 match(ile 1 a.1)with
 |true=>match(ile a.1 100)with
  |true=>match(ile 1 a.2.1)with
   |true=>match(ile a.2.1 8)with
    |true=>some ((ile (A2 a.2.2.1) 4000),())
    |false=>some (false,())
   |false=>some (false,())
  |false=>some (false,())
 |false=>some (false,())
def pE[Lk]:=lkk eS
theorem kY v:pE v=eS v:=A0 _
abbrev APr:A1:=[AA,(.tmp 1,.dat Ug)]
abbrev E5:A1:=[AT,AE,AF]
abbrev Aer:Loc×Con:=(.tmp 44,.own 315 U2)
abbrev Aes:Loc×Con:=(.tmp 8,.own 358 U1)
abbrev Aet:Loc×Con:=(.tmp 10,.own 3 U0)
abbrev Aeu:Loc×Con:=(.cell 2 0,.di)
abbrev Aev:Loc×Con:=(.cell 2 1,.di)
abbrev AJX:A1:=[Aes,Aet,(.tmp 12,.box 2),Aeu,Aev,Aer,AeJ,Aec,(.tmp 54,.di),(.tmp 55,.di)]
abbrev AJV:BJ:=[(.exit 2,[Aes,Aet,Aer,AeJ,Aec])]
def Mq[Lk]:(List U4×List Int×Int×Int×List U3×Int×Int×Int×Int×Unit)->Option ((List U4×List Int×Int×Int×List U3×Int×Int×Int×Int×Unit)⊕(List U4×List Int×List U3×Int×Int×Unit)⊕Unit):=fun(d,b,c,i,e,f,g,h,a,_)=>
 match(ilt a h)with
 |true=>match(fits ((A2 b)+(A2 ([(w64 (c+a))]:List (Int)))))with
  |true=>some (.inl (d,(B2 b ([(w64 (c+a))]:List (Int))),c,i,e,f,g,h,(w64 (a+1)),()))
  |false=>none
 |false=>some (.inr (.inl (d,b,e,f,g,())))
abbrev AJY:A1:=[Aes,Aet,Aer,AeJ,Aec]
abbrev AJW:BJ:=[(.exit 0,[Aes,Aet])]
def Mr[Lk]:(List U4×List Int×List U3×Int×Int×Unit)->Option ((List U4×List Int×List U3×Int×Int×Unit)⊕(List U4×List Int×Unit)⊕Unit):=fun(c,d,b,e,a,_)=>
 match(ilt a e)with
 |true=>match idx b a with|none=>none|some k=>match A' Mq many (c,d,(A9 b (A4 a) (0,(0,()))).1,(A9 b (A4 a) (0,(0,()))).2.1,b,e,a,(w64 ((A9 b (A4 a) (0,(0,()))).2.1-(A9 b (A4 a) (0,(0,()))).1)),0,())with|none=>none|some r=>match r with
  |.inl (f,g,h,i,j,_)=>some (.inl (f,g,h,i,(w64 (j+1)),()))
  |.inr _=>none
 |false=>some (.inr (.inl (c,d,())))
def Pt[Lk]:(Int×Uk×Unit)->Option (Um):=fun(c,b,_)=>
 match(ilt c 0)with
 |true=>some (([]:List (Int)),0,1,())
 |false=>match(ilt 1000 c)with
 |true=>some (([]:List (Int)),0,1,())
 |false=>match pE ((b.1,(b.2.1,(b.2.2.1,()))),())with|none=>none|some (g,_)=>match(!g)with
 |true=>some (([]:List (Int)),0,1,())
 |false=>match(ieq c 0)with
 |true=>some (([]:List (Int)),0,0,())
 |false=>match X1 (c,b.1,b.2.1,b.2.2.1,())with|none=>none|some (a,d,e,_)=>match(!(ieq e 0))with
 |true=>some (([]:List (Int)),0,e,())
 |false=>match aS (((a.1.1,(a.1.2.1,(a.1.2.2.1,()))),(a.2.1,(a.2.2.1,(a.2.2.2.1,(a.2.2.2.2.1,()))))),d,())with|none=>none|some (f,_)=>match A' Mr many (d,([]:List (Int)),f,(A2 f),0,())with|none=>none|some r=>match r with
 |.inl (h,i,_)=>some (i,(A2 h),0,())
 |.inr _=>none
def Ct[Lk]:=lkk Pt
theorem Q5 v:Ct v=Pt v:=A0 _
def bz[Lk]:Ub->Option (Ud):=fun(a,_)=>
 match(ile 1 a)with
 |true=>some ((ile a 100),())
 |false=>some (false,())
def b7[Lk]:=lkk bz
theorem jT v:b7 v=bz v:=A0 _
def XD[Lk]:U3->Option (Ub):=fun(a,b,_)=>
 match(ilt a 0)with
 |true=>some (0,())
 |false=>match(ilt 1000 a)with
 |true=>some (0,())
 |false=>match b7 (b,())with|none=>none|some (c,_)=>match(!c)with
 |true=>some (0,())
 |false=>match quo? .i64 (w64 ((w64 (a+b))-1)) b with|none=>none|some d=>some (d,())
def Zv[Lk]:=lkk XD
theorem cJ v:Zv v=XD v:=A0 _
abbrev AR8:A1:=[AeF,AE,AF]
def mj[Lk]:Um->Option (Uj):=fun(a,b,c,_)=>
 match EX a (w64 (b*c)) (C8 (A2 a) (w64 ((w64 (b+1))*c)))with|none=>none|some d=>some (d,())
def sH[Lk]:=lkk mj
theorem sG v:sH v=mj v:=A0 _
abbrev AMm:A1:=[AeF,(.tmp 1,.clo 343 [])]
abbrev Aew:Loc×Con:=(.tmp 0,.own 115 U9)
abbrev AMl:A1:=[Aew,(.tmp 1,.dat U9)]
abbrev Aex:Loc×Con:=(.tmp 6,.own 115 U9)
abbrev Aey:Loc×Con:=(.tmp 15,.di)
abbrev AGi:A1:=[(.tmp 1,.clo 343 []),Aex,(.tmp 7,.dat U9),(.tmp 13,.dat Uy),Aeo,Aey]
abbrev AGh:BJ:=[(.exit 0,[Aex,(.tmp 7,.dat U9)])]
def MJ[Lk]:(List Int×Int×List Int×Int×Int×Unit)->Option ((List Int×Int×List Int×Int×Int×Unit)⊕Ut⊕Unit):=fun(b,c,d,e,a,_)=>
 match(ilt a e)with
 |true=>match idx d a with|none=>none|some f=>match idx b a with|none=>none|some g=>some (.inl ((Bl b (A4 a) c),(IntKind.wrap .u32 (c+f)),d,e,(w64 (a+1)),()))
 |false=>some (.inr (.inl (b,c,())))
def cR[Lk]:Uj->Option (Ut):=fun(a,_)=>
 match(CY (A2 a)&&CY (A2 a)&&ile (A2 a) (A2 a)&&true)with
 |true=>match A' MJ many ((Df (A4 (A2 a)) (0:Int)),(0:Int),a,(A2 a),(0:Int),())with|none=>none|some r=>match r with
  |.inl (b,c,_)=>some (b,c,())
  |.inr _=>none
 |false=>none
def XF[Lk]:=lkk cR
theorem jf v:XF v=cR v:=A0 _
abbrev Aez:Loc×Con:=(.tmp 3,.clo 343 [])
abbrev AGI:A1:=[AeF,AE,(.tmp 2,.dat Ug),Aez]
abbrev jU:A1:=[Aew,(.tmp 1,.dat U9),AF,AS]
abbrev Ae0:Loc×Con:=(.tmp 17,.own 115 U9)
abbrev Ae1:Loc×Con:=(.tmp 8,.own 115 U9)
abbrev Ae2:Loc×Con:=(.tmp 76,.own 3 U0)
abbrev Ae3:Loc×Con:=(.tmp 9,.dat U9)
abbrev Ae4:Loc×Con:=(.tmp 78,.di)
abbrev Ae5:Loc×Con:=(.tmp 19,.di)
abbrev yj:A1:=[AeF,AE,Aez,Ae1,Ae3,AZ,Ae0,Ae5,Ae2,(.tmp 77,.di),Ae4,(.tmp 91,.own 115 U9),(.tmp 92,.di),(.tmp 93,.di)]
abbrev yg:BJ:=[(.exit 4,[AeF,AE,Aez,Ae1,Ae3,AZ,Ae0,Ae2,(.tmp 77,.di),Ae4])]
def KK[Lk]:Vj->Option (Vj⊕V5⊕Unit):=fun(g,c,e,h,i,d,b,j,k,l,f,m,a,_)=>
 match(ilt a m)with
 |true=>match idx f a with|none=>none|some n=>match idx d b with|none=>none|some o=>match idx e (w64 ((w64 (b*c))+a))with|none=>none|some p=>some (.inl (g,c,(Bl e (A4 (w64 ((w64 (b*c))+a))) (IntKind.wrap .u32 ((A9 d (A4 b) 0)+(A9 f (A4 a) 0)))),h,i,d,b,j,k,l,f,m,(w64 (a+1)),()))
 |false=>some (.inr (.inl (g,c,e,h,i,d,j,k,l,())))
abbrev yk:A1:=[AeF,AE,Aez,Ae1,Ae3,AZ,Ae0,Ae2,(.tmp 77,.di),Ae4]
abbrev yh:BJ:=[(.exit 2,[Ae1,Ae3,AZ])]
def KL[Lk]:V5->Option (V5⊕Um⊕Unit):=fun(c,d,e,f,g,j,b,h,a,_)=>
 match(ilt a h)with
 |true=>match idx b a with|none=>none|some v=>match sH (c,(A9 b (A4 a) 0),d,())with|none=>none|some (k,_)=>match XF (k,())with|none=>none|some (i,w,_)=>match A' KK many (c,d,e,f,g,j,(A9 b (A4 a) 0),b,h,a,i,(A2 i),0,())with|none=>none|some r=>match r with
  |.inl (l,m,n,o,p,q,s,t,u,_)=>some (.inl (l,m,n,o,p,q,s,t,(w64 (u+1)),()))
  |.inr _=>none
 |false=>some (.inr (.inl (e,f,g,())))
abbrev yl:A1:=[AeF,AE,Aez,AZ,AeH,(.tmp 14,.own 115 U9),(.tmp 48,.own' 0),(.tmp 49,.di),(.tmp 50,.di)]
abbrev yi:BJ:=[(.exit 0,[AeF,AE,Aez,AZ,AeH,(.tmp 14,.own 115 U9)])]
def KM[Lk]:(List Int×Int×Int×List Int×List Int×Int×Int×Unit)->Option ((List Int×Int×Int×List Int×List Int×Int×Int×Unit)⊕(List Int×Int×Int×List Int×List Int×Unit)⊕Unit):=fun(c,d,f,a,e,g,b,_)=>
 match(ilt b g)with
 |true=>match idx a b with|none=>none|some j=>match sH (c,(A9 a (A4 b) 0),d,())with|none=>none|some (h,_)=>match XF (h,())with|none=>none|some (k,i,_)=>match idx e (A9 a (A4 b) 0)with|none=>none|some l=>some (.inl (c,d,f,a,(Bl e (A4 (A9 a (A4 b) 0)) i),g,(w64 (b+1)),()))
 |false=>some (.inr (.inl (c,d,f,a,e,())))
def QY[Lk]:(List Int×Int×Uk×Unit)->Option (Vn):=fun(c,d,e,_)=>
 match b7 (d,())with|none=>none|some (i,_)=>match(!i)with
 |true=>some (([]:List (Int)),0,0,1,())
 |false=>match(ilt 1000 (A2 c))with
 |true=>some (([]:List (Int)),0,0,1,())
 |false=>match Zv ((A2 c),d,())with|none=>none|some (a,_)=>match Ct (a,(e.1,(e.2.1,(e.2.2.1,()))),())with|none=>none|some (f,j,g,_)=>match(!(ieq g 0))with
 |true=>some (([]:List (Int)),0,0,g,())
 |false=>match(CY a&&CY a&&ile a a&&true)with
 |true=>match A' KM many (c,d,j,f,(Df (A4 a) (0:Int)),(A2 f),(0:Int),())with|none=>none|some r=>match r with
  |.inl (b,k,l,h,m,_)=>match XF (m,())with|none=>none|some (n,o,_)=>match(CY (A2 b)&&CY (A2 b)&&ile (A2 b) (A2 b)&&true)with
   |true=>match A' KL many (b,k,(Df (A4 (A2 b)) (0:Int)),o,l,n,h,(A2 h),(0:Int),())with|none=>none|some r=>match r with
    |.inl (p,q,s,_)=>some (p,q,(w64 (2*s)),0,())
    |.inr _=>none
   |false=>none
  |.inr _=>none
 |false=>none
def To[Lk]:=lkk QY
theorem SV v:To v=QY v:=A0 _
abbrev ADd:A1:=[AeF,AE,(.tmp 2,.dat Ug)]
def Zo[Lk]:(List Int×Int×Uk×Unit)->Option (Vn):=fun(b,c,a,_)=>
 match To (b,c,(a.1,(a.2.1,(a.2.2.1,()))),())with|none=>none|some (d,e,f,g,_)=>some (d,e,f,g,())
def jS[Lk]:=lkk Zo
theorem bw v:jS v=Zo v:=A0 _
abbrev ANJ:A1:=[(.tmp 0,.dat Uo),At]
abbrev tC:A1:=[Aew]
abbrev AG4:A1:=[At,(.tmp 5,.own 115 U9),(.tmp 11,.dat Uo),AN,AM]
abbrev AG3:BJ:=[(.exit 0,[(.tmp 5,.own 115 U9)])]
def MN[Lk]:(Bool×List Int×List Bool×Int×Int×Unit)->Option ((Bool×List Int×List Bool×Int×Int×Unit)⊕Uj⊕Unit):=fun(c,b,d,e,a,_)=>
 match(ilt a e)with
 |true=>match idx d a with|none=>none|some f=>match(!(f==c))with
  |true=>match idx b a with|none=>none|some g=>some (.inl (c,(Bl b (A4 a) 1),d,e,(w64 (a+1)),()))
  |false=>some (.inl (c,b,d,e,(w64 (a+1)),()))
 |false=>some (.inr (.inl (b,())))
def cx[Lk]:(List Bool×Bool×Unit)->Option (Uj):=fun(a,b,_)=>
 match(CY (A2 a)&&CY (A2 a)&&ile (A2 a) (A2 a)&&true)with
 |true=>match A' MN many (b,(Df (A4 (A2 a)) (0:Int)),a,(A2 a),(0:Int),())with|none=>none|some r=>match r with
  |.inl (c,_)=>some (c,())
  |.inr _=>none
 |false=>none
def nU[Lk]:=lkk cx
theorem jx v:nU v=cx v:=A0 _
abbrev ze:A1:=[AeF,(.tmp 9,.own 115 U9),Aa,Aeo,(.tmp 15,.own 3 U0),(.tmp 43,.own 3 U0),(.tmp 44,.di),AeJ]
abbrev zd:BJ:=[(.exit 0,[Aa,Aeo,(.tmp 15,.own 3 U0)])]
def KT[Lk]:Uv->Option (Uv⊕(Int×Int×List Int×Unit)⊕Unit):=fun(e,c,f,g,d,b,h,a,_)=>
 match(ilt a h)with
 |true=>match idx b a with|none=>none|some j=>match idx e (A9 b (A4 a) 0)with|none=>none|some i=>match(ieq i 1)with
  |true=>match idx c (A9 b (A4 a) 0)with|none=>none|some k=>match idx d (A9 c (A4 (A9 b (A4 a) 0)) 0)with|none=>none|some l=>some (.inl (e,c,f,g,(Bl d (A4 (A9 c (A4 (A9 b (A4 a) 0)) 0)) (A9 b (A4 a) 0)),b,h,(w64 (a+1)),()))
  |false=>some (.inl (e,c,f,g,d,b,h,(w64 (a+1)),()))
 |false=>some (.inr (.inl (f,g,d,())))
def XM[Lk]:(List Int×Int×Uk×Unit)->Option (Um):=fun(c,g,a,_)=>
 match jS (c,g,(a.1,(a.2.1,(a.2.2.1,()))),())with|none=>none|some (h,b,i,d,_)=>match(!(ieq d 0))with
 |true=>some (([]:List (Int)),0,d,())
 |false=>match Ct ((A2 c),(a.1,(a.2.1,(a.2.2.1,()))),())with|none=>none|some (e,j,f,_)=>match(!(ieq f 0))with
 |true=>some (([]:List (Int)),0,f,())
 |false=>match(CY b&&CY b&&ile b b&&true)with
 |true=>match A' KT many (c,h,i,j,(Df (A4 b) (0:Int)),e,(A2 e),(0:Int),())with|none=>none|some r=>match r with
  |.inl (k,l,m,_)=>some (m,(w64 (k+l)),0,())
  |.inr _=>none
 |false=>none
def Z0[Lk]:=lkk XM
theorem ct v:Z0 v=XM v:=A0 _
abbrev AM9:A1:=[(.tmp 0,.dat Uo),AE,(.tmp 2,.dat Ug)]
def cp[Lk]:(List Bool×Int×Uk×Unit)->Option (Um):=fun(b,c,a,_)=>
 match nU (b,false,())with|none=>none|some (d,_)=>match Z0 (d,c,(a.1,(a.2.1,(a.2.2.1,()))),())with|none=>none|some (e,f,g,_)=>some (e,f,g,())
def nT[Lk]:=lkk cp
theorem jt v:nT v=cp v:=A0 _
abbrev ASm:A1:=[AeF,AE,AF,(.tmp 3,.dat Ug)]
abbrev Ae6:Loc×Con:=(.tmp 16,.own 3 U0)
abbrev AMt:A1:=[AeF,AE,Aa,Aeo,Ae6,AeJ,Aec]
abbrev AMr:BJ:=[(.exit 2,[Aa,Aeo,Ae6])]
def PG[Lk]:V3->Option (V3⊕(Int×Int×List Int×Unit)⊕Unit):=fun(b,c,d,e,f,g,a,_)=>
 match(ilt a g)with
 |true=>match rby (b,f,a,c,())with|none=>none|some (h,_)=>some (.inl (b,c,d,e,h,g,(w64 (a+1)),()))
 |false=>some (.inr (.inl (d,e,f,())))
abbrev AMu:A1:=[AeF,AE,Aa,Aeo,Ae6,(.tmp 36,.di),(.tmp 37,.di)]
abbrev AMs:BJ:=[(.exit 0,[AeF,AE,Aa,Aeo,Ae6])]
def PH[Lk]:V3->Option (V3⊕(List Int×Int×Int×Int×List Int×Unit)⊕Unit):=fun(c,d,e,f,b,g,a,_)=>
 match(ilt a g)with
 |true=>match(fits ((A2 b)+(A2 ([a]:List (Int)))))with
  |true=>some (.inl (c,d,e,f,(B2 b ([a]:List (Int))),g,(w64 (a+1)),()))
  |false=>none
 |false=>some (.inr (.inl (c,d,e,f,b,())))
def Zw[Lk]:(List Int×Int×Int×Uk×Unit)->Option (Um):=fun(a,c,g,b,_)=>
 match Qg (c,())with|none=>none|some (d,_)=>match(ieq d 0)with
 |true=>some (([]:List (Int)),0,1,())
 |false=>match jS (a,g,(b.1,(b.2.1,(b.2.2.1,()))),())with|none=>none|some (p,q,h,e,_)=>match(!(ieq e 0))with
 |true=>some (([]:List (Int)),0,e,())
 |false=>match A' PH many (a,c,d,h,([]:List (Int)),(A2 a),0,())with|none=>none|some r=>match r with
 |.inl (i,j,f,k,l,_)=>match A' PG many (i,j,f,k,l,f,0,())with|none=>none|some r=>match r with
  |.inl (m,n,o,_)=>some (o,(w64 (n*m)),0,())
  |.inr _=>none
 |.inr _=>none
def ji[Lk]:=lkk Zw
theorem cW v:ji v=Zw v:=A0 _
abbrev AGk:A1:=[AeF,Ae]
abbrev AGj:A1:=[Aew,At]
abbrev Ae7:Loc×Con:=(.tmp 16,.di)
abbrev zI:A1:=[AeF,Aex,(.tmp 14,.dat U7),Aey,Ae7]
abbrev zH:BJ:=[(.exit 0,[Aex])]
def KQ[Lk]:V8->Option (V8⊕Uj⊕Unit):=fun(c,a,d,e,b,_)=>
 match(ilt b e)with
 |true=>match idx d b with|none=>none|some g=>match idx c g with|none=>none|some f=>match(fits ((A2 a)+(A2 ([f]:List (Int)))))with
  |true=>some (.inl (c,(B2 a ([f]:List (Int))),d,e,(w64 (b+1)),()))
  |false=>none
 |false=>some (.inr (.inl (a,())))
def XG[Lk]:(List Int×List Int×Unit)->Option ((List Int×Bool×Unit)):=fun(b,a,_)=>
 match ADs (a,(A2 b),())with|none=>none|some (c,_)=>match(!c)with
 |true=>some (([]:List (Int)),false,())
 |false=>match A' KQ many (b,([]:List (Int)),a,(A2 a),0,())with|none=>none|some r=>match r with
 |.inl (d,_)=>some (d,true,())
 |.inr _=>none
def Tw[Lk]:=lkk XG
theorem cV v:Tw v=XG v:=A0 _
abbrev kz:A1:=[AeF,(.tmp 1,.dat Vd)]
abbrev AJs:A1:=[Aew,(.tmp 1,.own 3 U0),AF,AS]
abbrev Ae8:Loc×Con:=(.tmp 57,.di)
abbrev ACQ:A1:=[Ac,(.tmp 11,.own 115 U9),AeH,Aeo,(.tmp 15,.own 115 U9),Ae6,(.tmp 55,.own' 1),(.tmp 56,.di),Ae8]
abbrev ACP:BJ:=[(.exit 0,[Ac,Aeo,(.tmp 15,.own 115 U9),Ae6])]
def Ko[Lk]:(Int×List Int×List Int×Int×List Int×List Int×Int×Int×Unit)->Option ((Int×List Int×List Int×Int×List Int×List Int×Int×Int×Unit)⊕(Int×Int×List Int×List Int×Unit)⊕Unit):=fun(f,c,b,g,d,e,h,a,_)=>
 match(ilt a h)with
 |true=>match idx b a with|none=>none|some i=>match(ilt (w64 (a+1)) (A2 b))with
  |true=>match idx b (w64 (a+1))with|none=>none|some j=>match idx c (A9 b (A4 a) 0)with|none=>none|some k=>match(fits ((A2 d)+(A2 ([(A9 c (A4 (A9 b (A4 a) 0)) 0)]:List (Int)))))with
   |true=>match(fits ((A2 e)+(A2 ([(w64 ((A9 b (A4 (w64 (a+1))) 0)-(A9 b (A4 a) 0)))]:List (Int)))))with
    |true=>some (.inl (f,c,b,g,(B2 d ([(A9 c (A4 (A9 b (A4 a) 0)) 0)]:List (Int))),(B2 e ([(w64 ((A9 b (A4 (w64 (a+1))) 0)-(A9 b (A4 a) 0)))]:List (Int))),h,(w64 (a+1)),()))
    |false=>none
   |false=>none
  |false=>match idx c (A9 b (A4 a) 0)with|none=>none|some l=>match(fits ((A2 d)+(A2 ([(A9 c (A4 (A9 b (A4 a) 0)) 0)]:List (Int)))))with
  |true=>match(fits ((A2 e)+(A2 ([(w64 ((A2 c)-(A9 b (A4 a) 0)))]:List (Int)))))with
   |true=>some (.inl (f,c,b,g,(B2 d ([(A9 c (A4 (A9 b (A4 a) 0)) 0)]:List (Int))),(B2 e ([(w64 ((A2 c)-(A9 b (A4 a) 0)))]:List (Int))),h,(w64 (a+1)),()))
   |false=>none
  |false=>none
 |false=>some (.inr (.inl (f,g,d,e,())))
def Q_[Lk]:(List Int×Vb×Unit)->Option ((List Int×List Int×Int×Int×Unit)):=fun(b,a,_)=>
 match ji (b,a.1,a.2.1,(a.2.2.1.1,(a.2.2.1.2.1,(a.2.2.1.2.2.1,()))),())with|none=>none|some (g,h,c,_)=>match(!(ieq c 0))with
 |true=>some (([]:List (Int)),([]:List (Int)),0,c,())
 |false=>match Tw (b,g,())with|none=>none|some (d,o,_)=>match aT (d,())with|none=>none|some (i,_)=>match nT (i,a.2.1,(a.2.2.1.1,(a.2.2.1.2.1,(a.2.2.1.2.2.1,()))),())with|none=>none|some (e,j,f,_)=>match(!(ieq f 0))with
 |true=>some (([]:List (Int)),([]:List (Int)),0,f,())
 |false=>match A' Ko many (h,d,e,j,([]:List (Int)),([]:List (Int)),(A2 e),0,())with|none=>none|some r=>match r with
 |.inl (k,l,m,n,_)=>some (m,n,(w64 (k+l)),0,())
 |.inr _=>none
def VR[Lk]:=lkk Q_
theorem TE v:VR v=Q_ v:=A0 _
abbrev N9:A1:=[Aew,AE,AF]
def aR[Lk]:(List Int×Vb×Unit)->Option (Um):=fun(b,a,_)=>
 match VR (b,(a.1,(a.2.1,((a.2.2.1.1,(a.2.2.1.2.1,(a.2.2.1.2.2.1,()))),()))),())with|none=>none|some (c,f,d,e,_)=>some (c,d,e,())
def fA[Lk]:=lkk aR
theorem ez v:fA v=aR v:=A0 _
abbrev AQN:A1:=[Aw,(.tmp 1,.dat Vd)]
abbrev AQM:A1:=[Az,AE,AF]
abbrev AJz:A1:=[AM,Aeo,(.tmp 15,.own 59 U2),(.tmp 48,.own 115 U9),(.tmp 49,.di),(.tmp 50,.di)]
abbrev AJx:BJ:=[(.exit 2,[AM,Aeo,(.tmp 15,.own 59 U2)])]
def Hr[Lk]:(Int×Int×List U3×List Int×Int×Int×Unit)->Option ((Int×Int×List U3×List Int×Int×Int×Unit)⊕(Int×Int×List U3×Unit)⊕Unit):=fun(d,e,b,c,f,a,_)=>
 match(ilt a f)with
 |true=>match idx c a with|none=>none|some h=>match AE8 ((A9 c (A4 a) 0),())with|none=>none|some (g,_)=>match(fits ((A2 b)+(A2 ([g]:List U3))))with
  |true=>some (.inl (d,e,(B2 b ([g]:List U3)),c,f,(w64 (a+1)),()))
  |false=>none
 |false=>some (.inr (.inl (d,e,b,())))
abbrev Ae9:Loc×Con:=(.cell 0 4,.dat (.slice (.arr 2 U0)))
abbrev AfA:Loc×Con:=(.cell 0 2,.di)
abbrev AfB:Loc×Con:=(.cell 0 3,.di)
abbrev AJ0:A1:=[(.tmp 3,.box 5),AI,AeO,AfA,AfB,Ae9,(.tmp 7,.own 115 U9),(.tmp 18,.dat Ul),Ae5,(.tmp 20,.di)]
abbrev AJy:BJ:=[(.ret,[(.tmp 4,.nil U2),AeR,Ad0]),(.exit 0,[(.tmp 3,.box 5),AI,AeO,AfA,AfB,Ae9,(.tmp 7,.own 115 U9)])]
def My[Lk]:(Int×Int×Int×Int×List U6×List Int×List U3×Int×Int×Unit)->Option ((Int×Int×Int×Int×List U6×List Int×List U3×Int×Int×Unit)⊕U3⊕(Int×Int×Int×Int×List U6×List Int×Unit)⊕Unit):=fun(d,e,f,g,h,a,i,j,b,_)=>
 match(ilt b j)with
 |true=>match idx i b with|none=>none|some c=>match AVC ((c.1,(c.2.1,())),())with|none=>none|some (k,l,_)=>match(!l)with
  |true=>some (.inr (.inl (0,10,())))
  |false=>match(!(ieq c.1 c.2.1))with
  |true=>match(fits ((A2 a)+(A2 ([k]:List (Int)))))with
   |true=>some (.inl (d,e,f,g,h,(B2 a ([k]:List (Int))),i,j,(w64 (b+1)),()))
   |false=>none
  |false=>some (.inl (d,e,f,g,h,a,i,j,(w64 (b+1)),()))
 |false=>some (.inr (.inr (.inl (d,e,f,g,h,a,()))))
def VS[Lk]:(List U3×Vb×Unit)->Option ((List U3×Int×Int×Unit)):=fun(b,a,_)=>
 match A' My many (a.1,a.2.1,a.2.2.1.1,a.2.2.1.2.1,a.2.2.1.2.2.1,([]:List (Int)),b,(A2 b),0,())with|none=>none|some r=>match r with
 |.inl (d,e,_)=>some (([]:List U3),d,e,())
 |.inr r=>match r with
 |.inl (f,g,h,i,j,k,_)=>match fA (k,(f,(g,((h,(i,(j,()))),()))),())with|none=>none|some (c,l,m,_)=>match A' Hr many (l,m,([]:List U3),c,(A2 c),0,())with|none=>none|some r=>match r with
  |.inl (n,o,p,_)=>some (p,n,o,())
  |.inr _=>none
 |.inr _=>none
def P2[Lk]:=lkk VS
theorem X5 v:P2 v=VS v:=A0 _
abbrev UW:A1:=[AO,(.cap 1 0,.box 2),AI,Ad1,(.tmp 1,.clo 189 [(0,0)])]
abbrev oc:A1:=[Av,AI,Ad1,AA]
abbrev gr:A1:=[Av,AI,Ad1,AO,(.tmp 1,.clo 189 [(0,0)]),AQ,AP]
abbrev gq:BJ:=[(.ret,[Av,AI,Ad1,AR]),(.exit 0,[Av,AI,Ad1])]
def Fk[Lk]:(Int×List U4×List Int×Int×Int×Unit)->Option ((Int×List U4×List Int×Int×Int×Unit)⊕(Int×List U4×Int×Unit)⊕(Int×List U4×Unit)⊕Unit):=fun(a,c,d,e,b,_)=>
 match(ilt b e)with
 |true=>match idx d b with|none=>none|some f=>match(ile a f)with
  |true=>some (.inr (.inl (a,c,b,())))
  |false=>some (.inl (a,c,d,e,(w64 (b+1)),()))
 |false=>some (.inr (.inr (.inl (a,c,()))))
def Ny[Lk]:(List Int×Int×List U4×Unit)->Option ((Int×List U4×Int×Unit)):=fun(a,b,c,_)=>
 match A' Fk many (b,c,a,(A2 a),0,())with|none=>none|some r=>match r with
 |.inl (d,e,f,_)=>some (d,e,f,())
 |.inr r=>match r with
 |.inl (g,h,_)=>some (g,h,(-1:Int),())
 |.inr _=>none
def S3[Lk]:=lkk Ny
theorem R8 v:S3 v=Ny v:=A0 _
abbrev AGc:A1:=[AA,(.tmp 13,.dat Ul),Aeo,Aey]
def Qe[Lk]:(Int×List U3×Int×Int×Unit)->Option ((Int×List U3×Int×Int×Unit)⊕Ub⊕(Unit)⊕Unit):=fun(c,d,e,b,_)=>
 match(ilt b e)with
 |true=>match idx d b with|none=>none|some a=>match(ilt (C8 a.1 a.2.1) 0)with
  |true=>some (.inr (.inl (10,())))
  |false=>match(ile c (imax a.1 a.2.1))with
  |true=>some (.inr (.inl (10,())))
  |false=>some (.inl (c,d,e,(w64 (b+1)),()))
 |false=>some (.inr (.inr (.inl ())))
def cK[Lk]:(Int×List U3×Unit)->Option (Ub):=fun(a,b,_)=>
 match(ilt a 1)with
 |true=>some (1,())
 |false=>match(ilt 64 a)with
 |true=>some (1,())
 |false=>match A' Qe many (a,b,(A2 b),0,())with|none=>none|some r=>match r with
 |.inl (c,_)=>some (c,())
 |.inr r=>match r with
 |.inl _=>some (0,())
 |.inr _=>none
def nC[Lk]:=lkk cK
theorem ja v:nC v=cK v:=A0 _
abbrev AGg:A1:=[Ax,AP,Ac]
def MH[Lk]:Um->Option (Um⊕Uj⊕Unit):=fun(b,c,a,_)=>
 match(ilt a c)with
 |true=>match idx b a with|none=>none|some d=>some (.inl ((Bl b (A4 a) a),c,(w64 (a+1)),()))
 |false=>some (.inr (.inl (b,())))
def cQ[Lk]:Ub->Option (Uj):=fun(a,_)=>
 match(CY a&&CY a&&ile a a&&true)with
 |true=>match A' MH many ((Df (A4 a) (0:Int)),(A2 (Df (A4 a) (0:Int))),(0:Int),())with|none=>none|some r=>match r with
  |.inl (b,_)=>some (b,())
  |.inr _=>none
 |false=>none
def nF[Lk]:=lkk cQ
theorem je v:nF v=cQ v:=A0 _
abbrev AMF:A1:=[AT,AE]
abbrev AfC:Loc×Con:=(.obj 0,.own 3 U0)
abbrev sJ:A1:=[AfC,AA]
abbrev AGP:A1:=[AfC,Am,AE]
abbrev AGO:BJ:=[(.exit 0,[AfC,AE])]
def W7[Lk]:Ut->Option (Ut⊕Ut⊕Unit):=fun(a,b,_)=>
 match idx a b with|none=>none|some c=>match(!(ieq (A9 a (A4 b) 0) b))with
 |true=>match idx a b with|none=>none|some d=>match idx a (A9 a (A4 b) 0)with|none=>none|some e=>match idx a b with|none=>none|some f=>match idx (Bl a (A4 b) (A9 a (A4 (A9 a (A4 b) 0)) 0)) b with|none=>none|some g=>some (.inl ((Bl a (A4 b) (A9 a (A4 (A9 a (A4 b) 0)) 0)),(A9 (Bl a (A4 b) (A9 a (A4 (A9 a (A4 b) 0)) 0)) (A4 b) 0),()))
 |false=>some (.inr (.inl (a,b,())))
def b8[Lk]:Ut->Option (Ut):=fun(a,b,_)=>
 match A' W7 many (a,b,())with|none=>none|some r=>match r with
 |.inl (c,d,_)=>some (c,d,())
 |.inr _=>none
def b9[Lk]:=lkk b8
theorem jW v:b9 v=b8 v:=A0 _
abbrev ADk:A1:=[AfC,AD]
def Zs[Lk]:Um->Option ((List Int×Bool×Unit)):=fun(d,e,f,_)=>
 match b9 (d,e,())with|none=>none|some (g,a,_)=>match b9 (g,f,())with|none=>none|some (c,b,_)=>match idx c (imax a b)with|none=>none|some h=>some ((Bl c (A4 (imax a b)) (C8 a b)),(!(ieq a b)),())
def sO[Lk]:=lkk Zs
theorem cB v:sO v=Zs v:=A0 _
abbrev ACB:A1:=[Aw,(.cap 1 0,.own 3 U0),(.tmp 1,.bnd 230 0)]
abbrev ek:A1:=[AfC,AeG]
abbrev vw:A1:=[AfC,(.tmp 1,.bnd 230 0),(.tmp 5,.own 4 .bool),(.tmp 8,.dat Ul),Ac,AZ]
abbrev vv:BJ:=[(.exit 0,[AfC,(.tmp 5,.own 4 .bool)])]
def Ip[Lk]:(List Int×List Bool×List U3×Int×Int×Unit)->Option ((List Int×List Bool×List U3×Int×Int×Unit)⊕(List Int×List Bool×Unit)⊕Unit):=fun(c,a,d,e,b,_)=>
 match(ilt b e)with
 |true=>match idx d b with|none=>none|some f=>match sO (c,f.1,f.2.1,())with|none=>none|some (h,g,_)=>match(fits ((A2 a)+(A2 ([g]:List (Bool)))))with
  |true=>some (.inl (h,(B2 a ([g]:List (Bool))),d,e,(w64 (b+1)),()))
  |false=>none
 |false=>some (.inr (.inl (c,a,())))
def TD[Lk]:(List U3×List Int×Unit)->Option ((List Int×List Bool×Unit)):=fun(a,b,_)=>
 match A' Ip many (b,([]:List (Bool)),a,(A2 a),0,())with|none=>none|some r=>match r with
 |.inl (c,d,_)=>some (c,d,())
 |.inr _=>none
def VP[Lk]:=lkk TD
theorem Y8 v:VP v=TD v:=A0 _
abbrev AMK:A1:=[AT,Adx]
def cA[Lk]:(List Int×List U3×Unit)->Option ((List Int×List Bool×Unit)):=fun(a,b,_)=>
 match VP (b,a,())with|none=>none|some (c,d,_)=>some (c,d,())
def mo[Lk]:=lkk cA
theorem jX v:mo v=cA v:=A0 _
def oJ[Lk]:U3->Option (Ud):=fun(a,b,_)=>
 match AIF (a,())with|none=>none|some (c,_)=>match c with
 |true=>match AIF (b,())with|none=>none|some (d,_)=>match(!d)with
  |true=>some (true,())
  |false=>some ((ilt a b),())
 |false=>some ((ilt a b),())
def C_[Lk]:=lkk oJ
theorem vB v:C_ v=oJ v:=A0 _
abbrev Kd:A1:=[AfC]
abbrev AUO:A1:=[AfC,Am,AE,AF,Ad0,AQ]
abbrev AUN:BJ:=[(.exit 2,[AfC,Am,AE,AF,Ad0])]
abbrev AUP:A1:=[AfC,Am,AE,AF,Ad0]
abbrev oT:BJ:=[(.exit 0,[AfC])]
def AYl[Lk]:=Nw (0:Int) C_ tId
def AaH[Lk]:=oU (0:Int) C_ tId
theorem AUQ v:AaH v=AYl v:=A0 _
abbrev LB:A1:=[AT,AE,AF,AS]
abbrev AMV:A1:=[AfC,Am,AF,AS,AP]
abbrev AMU:BJ:=[(.exit 0,[AfC]),(.ret,[AfC])]
def ASY[Lk]:=JE (0:Int) C_ tId
def AW8[Lk]:=R2 (0:Int) C_ tId
theorem AMW v:AW8 v=ASY v:=A0 _
abbrev APT:A1:=[AfC,Am,Ad0,AQ,AZ]
abbrev APR:BJ:=[(.exit 2,[AfC])]
abbrev APU:A1:=[AfC,Am,Ad0,AQ,AP,Ac]
abbrev APS:BJ:=[(.exit 0,[AfC,Am,Ad0,AQ,AP])]
def AUh[Lk]:=JN (0:Int) C_ tId
def AXO[Lk]:=VB (0:Int) C_ tId
theorem APV v:AXO v=AUh v:=A0 _
abbrev AH2:A1:=[AT,AE,AF,Ao,AK]
abbrev AH1:A1:=[AfC,Ap,AK,AA,AE]
def AH3[Lk]:=FJ (0:Int) C_ tId
def AEO[Lk]:=Gh (0:Int) C_ tId
theorem AAt v:AEO v=AH3 v:=A0 _
abbrev AIT:A1:=[AT,AE,AF,AS,Aq,AK]
abbrev kG:A1:=[AfC,Ap,AK,AA]
def AIU[Lk]:=FK (0:Int) C_ tId
def AEc[Lk]:=Gj (0:Int) C_ tId
theorem ABC v:AEc v=AIU v:=A0 _
abbrev AIi:A1:=[AT,AE,Ar,AK]
def AIj[Lk]:=FL (0:Int) C_ tId
def AEh[Lk]:=Gk (0:Int) C_ tId
theorem ABL v:AEh v=AIj v:=A0 _
abbrev ANZ:A1:=[AfC,AA,AE]
def ANa[Lk]:=Ge (0:Int) C_ tId
def ANc[Lk]:=Nf (0:Int) C_ tId
theorem AHD v:ANc v=ANa v:=A0 _
abbrev ASw:A1:=[AfC,Am,Ad0,AQ]
def AX0[Lk]:=Nc (0:Int) C_ tId
def AZ0[Lk]:=nN (0:Int) C_ tId
theorem ASx v:AZ0 v=AX0 v:=A0 _
abbrev uG:A1:=[AfC,Am,AE,AF,AQ,AP,AZ]
abbrev uC:BJ:=[(.exit 6,[AfC,Am,AE,AF,AQ,AP])]
abbrev uH:A1:=[AfC,Am,AE,AF,AQ,AP,Ac]
abbrev uD:BJ:=[(.exit 4,[AfC,Am,AE,AF,AQ,AP])]
abbrev Yi:A1:=[AfC,Am,AE,AF,AQ,AP]
abbrev uE:BJ:=[(.exit 2,[AfC,Am,AE,AF,AQ,AP])]
abbrev AfD:Loc×Con:=(.tmp 6,.dat .bool)
abbrev uF:BJ:=[(.ret,[AfC,AfD]),(.exit 0,[AfC])]
def AAP[Lk]:=EJ (0:Int) C_ tId
def uJ[Lk]:=Gg (0:Int) C_ tId
theorem uI v:uJ v=AAP v:=A0 _
abbrev Sj:A1:=[AfC,Am,AE,Ac,AZ]
abbrev AAg:BJ:=[(.exit 4,[AfC,Am,AE,Ac,AZ])]
abbrev AAh:BJ:=[(.exit 2,[AfC,Am,AE,Ac,AZ])]
abbrev AAi:BJ:=[(.exit 0,[AfC,Ac])]
def AHf[Lk]:=FI (0:Int) C_ tId
def AEI[Lk]:=JG (0:Int) C_ tId
theorem AAj v:AEI v=AHf v:=A0 _
abbrev ATg:A1:=[AfC,AA,At]
abbrev PT:A1:=[AfC,Am,AE,AZ,Aa]
abbrev AN8:BJ:=[(.exit 8,[AfC,Am,AE,AZ,Aa])]
abbrev AN9:BJ:=[(.exit 6,[AfC,Am,AE,AZ,Aa])]
abbrev AOA:BJ:=[(.exit 4,[AfC,Am,AE,Aa])]
abbrev AOB:BJ:=[(.exit 2,[AfC,Am,AE,AZ,Aa])]
abbrev AOC:BJ:=[(.exit 0,[AfC,Am,AE,AZ,Aa])]
def ATh[Lk]:=JF (0:Int) C_ tId
def AXH[Lk]:=PU (0:Int) C_ tId
theorem AOD v:AXH v=ATh v:=A0 _
def oz[Lk]:(U4×U4×Unit)->Option (Ub):=fun(a,b,_)=>
 match Bp ((a.1,(a.2.1,())),(b.1,(b.2.1,())),())with|none=>none|some (c,_)=>some (c,())
def DB[Lk]:=lkk oz
theorem vX v:DB v=oz v:=A0 _
abbrev AfE:Loc×Con:=(.tmp 3,.clo 183 [])
abbrev AfF:Loc×Con:=(.tmp 0,.own 65 U1)
abbrev Xg:A1:=[AfF,AE,AF,AfE]
abbrev AfG:Loc×Con:=(.obj 0,.own 65 U1)
abbrev Kb:A1:=[AfG]
abbrev AUG:A1:=[AfG,Am,AE,AF,AfE,AP,Ac]
abbrev AUF:BJ:=[(.exit 2,[AfG,Am,AE,AF,AfE,AP])]
abbrev AUH:A1:=[AfG,Am,AE,AF,AfE,AP]
abbrev oR:BJ:=[(.exit 0,[AfG])]
def AYh[Lk]:=Nw ((0,(0,(0,(false,())))):U4) DB tLt
def AaF[Lk]:=oU ((0,(0,(0,(false,())))):U4) DB tLt
theorem AUI v:AaF v=AYh v:=A0 _
abbrev AfH:Loc×Con:=(.tmp 4,.clo 183 [])
abbrev K_:A1:=[AfF,AE,AF,AS,AfH]
abbrev AMP:A1:=[AfG,Am,AF,AS,AfH,AZ]
abbrev AMO:BJ:=[(.exit 0,[AfG]),(.ret,[AfG])]
def ASU[Lk]:=JE ((0,(0,(0,(false,())))):U4) DB tLt
def AW6[Lk]:=R2 ((0,(0,(0,(false,())))):U4) DB tLt
theorem AMQ v:AW6 v=ASU v:=A0 _
abbrev APJ:A1:=[AfG,Am,AfE,AP,Ac,AN]
abbrev APH:BJ:=[(.exit 2,[AfG])]
abbrev APK:A1:=[AfG,Am,AfE,AP,Ac,AZ,Aa]
abbrev API:BJ:=[(.exit 0,[AfG,Am,AfE,AP,Ac,AZ])]
def AUd[Lk]:=JN ((0,(0,(0,(false,())))):U4) DB tLt
def AXM[Lk]:=VB ((0,(0,(0,(false,())))):U4) DB tLt
theorem APL v:AXM v=AUd v:=A0 _
abbrev AHu:A1:=[AfF,AE,AF,Ao,AK,AfH]
abbrev AHt:A1:=[AfG,Ap,AK,AA,AE]
def AHv[Lk]:=FJ ((0,(0,(0,(false,())))):U4) DB tLt
def AEM[Lk]:=Gh ((0,(0,(0,(false,())))):U4) DB tLt
theorem AAr v:AEM v=AHv v:=A0 _
abbrev AIN:A1:=[AfF,AE,AF,AS,Aq,AK,(.tmp 5,.clo 183 [])]
abbrev kE:A1:=[AfG,Ap,AK,AA]
def AIO[Lk]:=FK ((0,(0,(0,(false,())))):U4) DB tLt
def AEa[Lk]:=Gj ((0,(0,(0,(false,())))):U4) DB tLt
theorem ABA v:AEa v=AIO v:=A0 _
abbrev AIc:A1:=[AfF,AE,Ar,AK,AfE]
def AId[Lk]:=FL ((0,(0,(0,(false,())))):U4) DB tLt
def AEf[Lk]:=Gk ((0,(0,(0,(false,())))):U4) DB tLt
theorem ABJ v:AEf v=AId v:=A0 _
abbrev ANR:A1:=[AfG,AA,AE]
def ANS[Lk]:=Ge ((0,(0,(0,(false,())))):U4) DB tLt
def ANU[Lk]:=Nf ((0,(0,(0,(false,())))):U4) DB tLt
theorem AHB v:ANU v=ANS v:=A0 _
abbrev ASs:A1:=[AfG,Am,AP,Ac]
def AXw[Lk]:=Nc ((0,(0,(0,(false,())))):U4) DB tLt
def AZy[Lk]:=nN ((0,(0,(0,(false,())))):U4) DB tLt
theorem ASt v:AZy v=AXw v:=A0 _
abbrev AAJ:A1:=[AfG,AD]
abbrev tj:A1:=[AfG,Am,AE,AF,AfE,Ac,AZ,AN]
abbrev tf:BJ:=[(.exit 6,[AfG,Am,AE,AF,AfE,Ac,AZ])]
abbrev tn:A1:=[AfG,Am,AE,AF,AfE,Ac,AZ,Aa]
abbrev tg:BJ:=[(.exit 4,[AfG,Am,AE,AF,AfE,Ac,AZ])]
abbrev Yg:A1:=[AfG,Am,AE,AF,AfE,Ac,AZ]
abbrev th:BJ:=[(.exit 2,[AfG,Am,AE,AF,AfE,Ac,AZ])]
abbrev ti:BJ:=[(.ret,[AfG,As]),(.exit 0,[AfG])]
def AAK[Lk]:=EJ ((0,(0,(0,(false,())))):U4) DB tLt
def tq[Lk]:=Gg ((0,(0,(0,(false,())))):U4) DB tLt
theorem tp v:tq v=AAK v:=A0 _
abbrev AHZ:A1:=[AfG,AA]
abbrev Sh:A1:=[AfG,Am,AE,AfH,Aa,AN]
abbrev AAY:BJ:=[(.exit 4,[AfG,Am,AE,AfH,Aa,AN])]
abbrev AAZ:BJ:=[(.exit 2,[AfG,Am,AE,AfH,Aa,AN])]
abbrev AAa:BJ:=[(.exit 0,[AfG,Aa])]
def AHa[Lk]:=FI ((0,(0,(0,(false,())))):U4) DB tLt
def AEG[Lk]:=JG ((0,(0,(0,(false,())))):U4) DB tLt
theorem AAb v:AEG v=AHa v:=A0 _
abbrev ATb:A1:=[AfG,AA,At]
abbrev PQ:A1:=[AfG,Am,AE,AfH,AN,AM]
abbrev ANw:BJ:=[(.exit 8,[AfG,Am,AE,AfH,AN,AM])]
abbrev ANx:BJ:=[(.exit 6,[AfG,Am,AE,AfH,AN,AM])]
abbrev ANy:BJ:=[(.exit 4,[AfG,Am,AE,AM])]
abbrev ANz:BJ:=[(.exit 2,[AfG,Am,AE,AfH,AN,AM])]
abbrev AN0:BJ:=[(.exit 0,[AfG,Am,AE,AfH,AN,AM])]
def ATc[Lk]:=JF ((0,(0,(0,(false,())))):U4) DB tLt
def AXF[Lk]:=PU ((0,(0,(0,(false,())))):U4) DB tLt
theorem AN1 v:AXF v=ATc v:=A0 _
def aJ[Lk]:(Uc×Int×Unit)->Option (Ud):=fun(a,b,_)=>
 some ((ile (w64 ((A2 a.2.1)+b)) 400),())
def kV[Lk]:=lkk aJ
theorem eL v:kV v=aJ v:=A0 _
def S7[Lk]:Ub->Option (Ud):=fun(a,_)=>
 match(ile 0 a)with
 |true=>some ((ile a 1099511627776),())
 |false=>some (false,())
def Pp[Lk]:=lkk S7
theorem Yx v:Pp v=S7 v:=A0 _
abbrev ec:BJ:=[(.exit 0,[Ad2])]
def Kl[Lk]:Va->Option (Va⊕Uz⊕Unit):=fun(f,a,c,b,_)=>
 match(ilt b (A2 a))with
 |true=>match idx a b with|none=>none|some d=>match idx a b with|none=>none|some e=>match(fits ((A2 c)+(A2 ([(d.1,(e.2.1,()))]:List U3))))with
  |true=>some (.inl (f,a,(B2 c ([(d.1,(e.2.1,()))]:List U3)),(w64 (b+1)),()))
  |false=>none
 |false=>some (.inr (.inl (c,())))
def Xz[Lk]:(Uc×Unit)->Option (Uz):=fun(a,_)=>
 match Fs ((a.1,(a.2.1,())),())with|none=>none|some (b,_)=>match(!b)with
 |true=>some (([]:List U3),())
 |false=>match A' Kl many (a.1,a.2.1,([]:List U3),0,())with|none=>none|some r=>match r with
 |.inl (c,_)=>some (c,())
 |.inr _=>none
def aO[Lk]:=lkk Xz
theorem ee v:aO v=Xz v:=A0 _
abbrev AfI:Loc×Con:=(.cell 3 0,.clo 295 [(0,0),(1,0),(3,0)])
abbrev bl:A1:=[AA,(.tmp 1,.box 1),AI,Ar,(.cell 1 0,.map U0 U0),Ao,AfI]
abbrev bk:A1:=[AB,AI,Ap,(.cell 1 0,.map U0 U0),Ad7,(.obj 3,.box 1),AfI,AA]
def ALj[Lk](self:(Int×Int×List Ui×Unit)->Option ((Int×List Ui×Int×Unit))):(Int×Int×List Ui×Unit)->Option ((Int×List Ui×Int×Unit)):=fun(a,c,b,_)=>
 match(ile a c)with
 |true=>some (c,b,1,())
 |false=>match(!((A_ b a).isSome))with
 |true=>match quo? .i64 a 2 with|none=>none|some f=>match self (f,c,b,())with|none=>none|some (g,h,d,_)=>match quo? .i64 a 2 with|none=>none|some i=>match self ((w64 (a-i)),g,h,())with|none=>none|some (j,k,e,_)=>some (j,(BH k a (w64 (d+e))),(w64 (d+e)),())
 |false=>some (c,b,((A_ b a).getD 0),())
def SS[Lk]:Nat->(Int×Int×List Ui×Unit)->Option ((Int×List Ui×Int×Unit))
 |0,_=>none
 |n+1,v=>ALj (SS n) v
def ARw[Lk]:=fun v=>Lk.f (SS 100 v)
theorem ARv v:ARw v=SS 100 v:=A0 _
def AOc[Lk]:Ub->Option (Ud):=fun(a,_)=>
 some ((!(ieq a a)),())
def ATu[Lk]:=lkk AOc
theorem ATt v:ATu v=AOc v:=A0 _
abbrev AT2:A1:=[AeE,(.tmp 1,.dat U9)]
def AEk[Lk]:U3->Option (Ud):=fun(a,b,_)=>
 match ATu (a,())with|none=>none|some (c,_)=>match c with
 |true=>match ATu (b,())with|none=>none|some (d,_)=>match(!d)with
  |true=>some (true,())
  |false=>some ((ilt a b),())
 |false=>some ((ilt a b),())
def DP[Lk]:=lkk AEk
theorem AOn v:DP v=AEk v:=A0 _
abbrev AfJ:Loc×Con:=(.obj 0,.own 115 U9)
abbrev Ka:A1:=[AfJ]
abbrev AUC:A1:=[AfJ,Am,AE,AF,Ad0,AQ]
abbrev AUB:BJ:=[(.exit 2,[AfJ,Am,AE,AF,Ad0])]
abbrev AUD:A1:=[AfJ,Am,AE,AF,Ad0]
abbrev oQ:BJ:=[(.exit 0,[AfJ])]
def AYf[Lk]:=Nw (0:Int) DP tId
def AaE[Lk]:=oU (0:Int) DP tId
theorem AUE v:AaE v=AYf v:=A0 _
abbrev K9:A1:=[Aew,AE,AF,AS]
abbrev AMM:A1:=[AfJ,Am,AF,AS,AP]
abbrev AML:BJ:=[(.exit 0,[AfJ]),(.ret,[AfJ])]
def ASS[Lk]:=JE (0:Int) DP tId
def AW5[Lk]:=R2 (0:Int) DP tId
theorem AMN v:AW5 v=ASS v:=A0 _
abbrev APE:A1:=[AfJ,Am,Ad0,AQ,AZ]
abbrev APC:BJ:=[(.exit 2,[AfJ])]
abbrev APF:A1:=[AfJ,Am,Ad0,AQ,AP,Ac]
abbrev APD:BJ:=[(.exit 0,[AfJ,Am,Ad0,AQ,AP])]
def AUb[Lk]:=JN (0:Int) DP tId
def AXL[Lk]:=VB (0:Int) DP tId
theorem APG v:AXL v=AUb v:=A0 _
abbrev AHq:A1:=[Aew,AE,AF,Ao,AK]
abbrev AHp:A1:=[AfJ,Ap,AK,AA,AE]
def AHr[Lk]:=FJ (0:Int) DP tId
def AEL[Lk]:=Gh (0:Int) DP tId
theorem AAq v:AEL v=AHr v:=A0 _
abbrev AIK:A1:=[Aew,AE,AF,AS,Aq,AK]
abbrev kD:A1:=[AfJ,Ap,AK,AA]
def AIL[Lk]:=FK (0:Int) DP tId
def AEZ[Lk]:=Gj (0:Int) DP tId
theorem AA9 v:AEZ v=AIL v:=A0 _
abbrev AIZ:A1:=[Aew,AE,Ar,AK]
def AIa[Lk]:=FL (0:Int) DP tId
def AEe[Lk]:=Gk (0:Int) DP tId
theorem ABI v:AEe v=AIa v:=A0 _
abbrev ANN:A1:=[AfJ,AA,AE]
def ANO[Lk]:=Ge (0:Int) DP tId
def ANQ[Lk]:=Nf (0:Int) DP tId
theorem AHA v:ANQ v=ANO v:=A0 _
abbrev ASq:A1:=[AfJ,Am,Ad0,AQ]
def AXu[Lk]:=Nc (0:Int) DP tId
def AZx[Lk]:=nN (0:Int) DP tId
theorem ASr v:AZx v=AXu v:=A0 _
abbrev AAG:A1:=[AfJ,AD]
abbrev tY:A1:=[AfJ,Am,AE,AF,AQ,AP,AZ]
abbrev tU:BJ:=[(.exit 6,[AfJ,Am,AE,AF,AQ,AP])]
abbrev tZ:A1:=[AfJ,Am,AE,AF,AQ,AP,Ac]
abbrev tV:BJ:=[(.exit 4,[AfJ,Am,AE,AF,AQ,AP])]
abbrev Yf:A1:=[AfJ,Am,AE,AF,AQ,AP]
abbrev tW:BJ:=[(.exit 2,[AfJ,Am,AE,AF,AQ,AP])]
abbrev tX:BJ:=[(.ret,[AfJ,AfD]),(.exit 0,[AfJ])]
def AAH[Lk]:=EJ (0:Int) DP tId
def te[Lk]:=Gg (0:Int) DP tId
theorem tc v:te v=AAH v:=A0 _
abbrev AHW:A1:=[AfJ,AA]
abbrev Sg:A1:=[AfJ,Am,AE,Ac,AZ]
abbrev AAU:BJ:=[(.exit 4,[AfJ,Am,AE,Ac,AZ])]
abbrev AAV:BJ:=[(.exit 2,[AfJ,Am,AE,Ac,AZ])]
abbrev AAW:BJ:=[(.exit 0,[AfJ,Ac])]
def AHX[Lk]:=FI (0:Int) DP tId
def AEF[Lk]:=JG (0:Int) DP tId
theorem AAX v:AEF v=AHX v:=A0 _
abbrev ATY:A1:=[AfJ,AA,At]
abbrev PO:A1:=[AfJ,Am,AE,AZ,Aa]
abbrev ANq:BJ:=[(.exit 8,[AfJ,Am,AE,AZ,Aa])]
abbrev ANr:BJ:=[(.exit 6,[AfJ,Am,AE,AZ,Aa])]
abbrev ANs:BJ:=[(.exit 4,[AfJ,Am,AE,Aa])]
abbrev ANt:BJ:=[(.exit 2,[AfJ,Am,AE,AZ,Aa])]
abbrev ANu:BJ:=[(.exit 0,[AfJ,Am,AE,AZ,Aa])]
def ATZ[Lk]:=JF (0:Int) DP tId
def AXE[Lk]:=PU (0:Int) DP tId
theorem ANv v:AXE v=ATZ v:=A0 _
abbrev AB8:A1:=[]
abbrev AY8:A1:=[AA,AE,AF,AS,(.tmp 4,.own 128 (.arr 2 U0))]
abbrev AY7:List RS:=[.agg 5]
def AQC[Lk]:(Unit)->Option ((Int×Int×Int×Int×List U6×Unit)):=fun _=>
 some (8,3,2,3,([([0,1]:List (Int)),([1,0]:List (Int)),([2,0]:List (Int))]:List U6),())
def X0[Lk]:=lkk AQC
theorem aP v:X0 v=AQC v:=A0 _
def ADj[Lk]:(U3×U3×Unit)->Option (Ub):=fun(a,b,_)=>
 match Ed (a.1,b.1,())with|none=>none|some (c,_)=>match Ed (a.2.1,b.2.1,())with|none=>none|some (d,_)=>match orI (([c,d]:List (Int)),())with|none=>none|some (e,_)=>some (e,())
def DO[Lk]:=lkk ADj
theorem AMJ v:DO v=ADj v:=A0 _
abbrev AfK:Loc×Con:=(.tmp 3,.clo 129 [])
abbrev Qx:A1:=[Az,AE,AF,AfK]
abbrev AO4:A1:=[Ad6,Am,AE,AF,AfK,AP,Ac]
abbrev AO3:BJ:=[(.exit 2,[Ad6,Am,AE,AF,AfK,AP])]
abbrev AO5:A1:=[Ad6,Am,AE,AF,AfK,AP]
def AUX[Lk]:=Nw ((0,(0,())):U3) DO tLt
def AXK[Lk]:=oU ((0,(0,())):U3) DO tLt
theorem AO6 v:AXK v=AUX v:=A0 _
abbrev AfL:Loc×Con:=(.tmp 4,.clo 129 [])
abbrev IY:A1:=[Az,AE,AF,AS,AfL]
abbrev AGR:A1:=[Ad6,Am,AF,AS,AfL,AZ]
def AMa[Lk]:=JE ((0,(0,())):U3) DO tLt
def AMc[Lk]:=R2 ((0,(0,())):U3) DO tLt
theorem AGS v:AMc v=AMa v:=A0 _
abbrev AJJ:A1:=[Ad6,Am,AfK,AP,Ac,AN]
abbrev kS:BJ:=[(.exit 2,[Ad6])]
abbrev AJK:A1:=[Ad6,Am,AfK,AP,Ac,AZ,Aa]
abbrev AJI:BJ:=[(.exit 0,[Ad6,Am,AfK,AP,Ac,AZ])]
def APb[Lk]:=JN ((0,(0,())):U3) DO tLt
def APd[Lk]:=VB ((0,(0,())):U3) DO tLt
theorem AJL v:APd v=APb v:=A0 _
abbrev AAw:A1:=[Az,AE,AF,Ao,AK,AfL]
def AAx[Lk]:=FJ ((0,(0,())):U3) DO tLt
def ug[Lk]:=Gh ((0,(0,())):U3) DO tLt
theorem uf v:ug v=AAx v:=A0 _
abbrev ABF:A1:=[Az,AE,AF,AS,Aq,AK,(.tmp 5,.clo 129 [])]
abbrev Nn:A1:=[Ad6,Ap,AK,AA]
def ABG[Lk]:=FK ((0,(0,())):U3) DO tLt
def ux[Lk]:=Gj ((0,(0,())):U3) DO tLt
theorem uw v:ux v=ABG v:=A0 _
def AS0[Lk]:=Nc ((0,(0,())):U3) DO tLt
def AXB[Lk]:=nN ((0,(0,())):U3) DO tLt
theorem AM1 v:AXB v=AS0 v:=A0 _
abbrev nz:A1:=[Ad6,Am,AE,AF,AfK,Ac,AZ,AN]
abbrev nw:BJ:=[(.exit 6,[Ad6,Am,AE,AF,AfK,Ac,AZ])]
abbrev n5:A1:=[Ad6,Am,AE,AF,AfK,Ac,AZ,Aa]
abbrev nx:BJ:=[(.exit 4,[Ad6,Am,AE,AF,AfK,Ac,AZ])]
abbrev T8:A1:=[Ad6,Am,AE,AF,AfK,Ac,AZ]
abbrev ny:BJ:=[(.exit 2,[Ad6,Am,AE,AF,AfK,Ac,AZ])]
def uR[Lk]:=EJ ((0,(0,())):U3) DO tLt
def j6[Lk]:=Gg ((0,(0,())):U3) DO tLt
theorem n6 v:j6 v=uR v:=A0 _
abbrev PW:A1:=[Ad6,Am,AE,AfL,Aa,AN]
abbrev uZ:BJ:=[(.exit 4,[Ad6,Am,AE,AfL,Aa,AN])]
abbrev ua:BJ:=[(.exit 2,[Ad6,Am,AE,AfL,Aa,AN])]
def AAo[Lk]:=FI ((0,(0,())):U3) DO tLt
def uc[Lk]:=JG ((0,(0,())):U3) DO tLt
theorem ub v:uc v=AAo v:=A0 _
abbrev MV:A1:=[Ad6,Am,AE,AfL,AN,AM]
abbrev AHj:BJ:=[(.exit 8,[Ad6,Am,AE,AfL,AN,AM])]
abbrev AHk:BJ:=[(.exit 6,[Ad6,Am,AE,AfL,AN,AM])]
abbrev AHl:BJ:=[(.exit 2,[Ad6,Am,AE,AfL,AN,AM])]
abbrev AHm:BJ:=[(.exit 0,[Ad6,Am,AE,AfL,AN,AM])]
def AOK[Lk]:=JF ((0,(0,())):U3) DO tLt
def AOM[Lk]:=PU ((0,(0,())):U3) DO tLt
theorem AHn v:AOM v=AOK v:=A0 _
abbrev AUl:A1:=[Aw,(.tmp 1,.dat U2)]
abbrev AfM:Loc×Con:=(.tmp 3,.box 2)
abbrev APe:A1:=[Aw,AfM,AI,AeO,AeR]
abbrev vR:BJ:=[(.ret,[Ai]),(.exit 0,[])]
def Pq[Lk]:(List U3×Int×Int×Int×Unit)->Option ((List U3×Int×Int×Int×Unit)⊕Ud⊕(Unit)⊕Unit):=fun(a,c,d,b,_)=>
 match(ilt b (A2 a))with
 |true=>match idx a b with|none=>none|some e=>match(ieq e.1 c&&(ieq e.2.1 d&&true))with
  |true=>some (.inr (.inl (true,())))
  |false=>some (.inl (a,c,d,(w64 (b+1)),()))
 |false=>some (.inr (.inr (.inl ())))
def oq[Lk]:(List U3×U3×Unit)->Option (Ud):=fun(b,a,_)=>
 match A' Pq many (b,a.1,a.2.1,0,())with|none=>none|some r=>match r with
 |.inl (c,_)=>some (c,())
 |.inr r=>match r with
 |.inl _=>some (false,())
 |.inr _=>none
def kU[Lk]:=lkk oq
theorem vS v:kU v=oq v:=A0 _
abbrev KD:A1:=[Ay,Adx]
abbrev ACy:A1:=[Adx,AJ,AI,Ad1,AeR]
def Kx[Lk]:(List U3×Int×List U4×Int×Unit)->Option ((List U3×Int×List U4×Int×Unit)⊕Ub⊕(Unit)⊕Unit):=fun(a,c,d,b,_)=>
 match(ilt b (A2 a))with
 |true=>match idx a b with|none=>none|some e=>match(ilt e.1 0)with
  |true=>some (.inr (.inl (10,())))
  |false=>match idx a b with|none=>none|some f=>match(ile c f.1)with
  |true=>some (.inr (.inl (10,())))
  |false=>match idx a b with|none=>none|some g=>match(ilt g.2.1 0)with
  |true=>some (.inr (.inl (10,())))
  |false=>match idx a b with|none=>none|some h=>match(ile c h.2.1)with
  |true=>some (.inr (.inl (10,())))
  |false=>some (.inl (a,c,d,(w64 (b+1)),()))
 |false=>some (.inr (.inr (.inl ())))
def YG[Lk]:(Uc×List U3×Unit)->Option (Ub):=fun(a,b,_)=>
 match Fs ((a.1,(a.2.1,())),())with|none=>none|some (c,_)=>match(!c)with
 |true=>some (1,())
 |false=>match A' Kx many (b,a.1,a.2.1,0,())with|none=>none|some r=>match r with
 |.inl (d,_)=>some (d,())
 |.inr r=>match r with
 |.inl _=>some (0,())
 |.inr _=>none
def aY[Lk]:=lkk YG
theorem fc v:aY v=YG v:=A0 _
abbrev zj:A1:=[AA,Adx,Adw,Ad0,AQ]
abbrev zi:BJ:=[(.exit 2,[AA,Adx,Adw,Ad0])]
def Hb[Lk]:(Int×List U3×List U3×Int×Int×Unit)->Option ((Int×List U3×List U3×Int×Int×Unit)⊕(Int×List U3×List U3×Int×Unit)⊕Unit):=fun(e,c,d,a,b,_)=>
 match(ilt b e)with
 |true=>match kU (c,(a,(b,())),())with|none=>none|some (f,_)=>match f with
  |true=>match(fits ((A2 d)+(A2 ([(a,(b,()))]:List U3))))with
   |true=>some (.inl (e,c,(B2 d ([(a,(b,()))]:List U3)),a,(w64 (b+1)),()))
   |false=>none
  |false=>match kU (c,(b,(a,())),())with|none=>none|some (g,_)=>match g with
  |true=>match(fits ((A2 d)+(A2 ([(a,(b,()))]:List U3))))with
   |true=>some (.inl (e,c,(B2 d ([(a,(b,()))]:List U3)),a,(w64 (b+1)),()))
   |false=>none
  |false=>some (.inl (e,c,d,a,(w64 (b+1)),()))
 |false=>some (.inr (.inl (e,c,d,a,())))
abbrev zk:A1:=[AA,Adx,Adw,Ad0]
def KU[Lk]:(Int×List U3×List U3×Int×Unit)->Option ((Int×List U3×List U3×Int×Unit)⊕Uz⊕Unit):=fun(b,d,c,a,_)=>
 match(ilt a b)with
 |true=>match A' Hb many (b,d,c,a,(w64 (a+1)),())with|none=>none|some r=>match r with
  |.inl (e,f,g,h,_)=>some (.inl (e,f,g,(w64 (h+1)),()))
  |.inr _=>none
 |false=>some (.inr (.inl (c,())))
def XP[Lk]:(Int×List U3×Unit)->Option (Uz):=fun(a,b,_)=>
 match A' KU many (a,b,([]:List U3),0,())with|none=>none|some r=>match r with
 |.inl (c,_)=>some (c,())
 |.inr _=>none
def Z1[Lk]:=lkk XP
theorem c6 v:Z1 v=XP v:=A0 _
abbrev Z8:A1:=[Az,AE]
abbrev AfN:Loc×Con:=(.tmp 7,.own 59 U2)
abbrev AfO:Loc×Con:=(.tmp 9,.own 59 U2)
abbrev AOb:A1:=[AfN,(.tmp 8,.own 59 U2),AfO,AZ]
abbrev AOa:BJ:=[(.exit 0,[AfO])]
def Pc[Lk]:(List U3×List U3×List U3×Int×Unit)->Option ((List U3×List U3×List U3×Int×Unit)⊕Uz⊕Unit):=fun(d,a,c,b,_)=>
 match(ilt b (A2 a))with
 |true=>match idx a b with|none=>none|some f=>match kU (d,((A9 a (A4 b) (0,(0,()))).1,((A9 a (A4 b) (0,(0,()))).2.1,())),())with|none=>none|some (e,_)=>match(!e)with
  |true=>match idx a b with|none=>none|some g=>match(fits ((A2 c)+(A2 ([((A9 a (A4 b) (0,(0,()))).1,((A9 a (A4 b) (0,(0,()))).2.1,()))]:List U3))))with
   |true=>some (.inl (d,a,(B2 c ([((A9 a (A4 b) (0,(0,()))).1,((A9 a (A4 b) (0,(0,()))).2.1,()))]:List U3)),(w64 (b+1)),()))
   |false=>none
  |false=>some (.inl (d,a,c,(w64 (b+1)),()))
 |false=>some (.inr (.inl (c,())))
def oD[Lk]:(Uc×List U3×Unit)->Option ((List U3×Int×Unit)):=fun(a,b,_)=>
 match aY ((a.1,(a.2.1,())),b,())with|none=>none|some (c,_)=>match(!(ieq c 0))with
 |true=>some (([]:List U3),c,())
 |false=>match aO ((a.1,(a.2.1,())),())with|none=>none|some (d,_)=>match Z1 (a.1,b,())with|none=>none|some (e,_)=>match A' Pc many (d,e,([]:List U3),0,())with|none=>none|some r=>match r with
 |.inl (f,_)=>some (f,0,())
 |.inr _=>none
def AEW[Lk]:=lkk oD
theorem uo v:AEW v=oD v:=A0 _
def XA[Lk]:Ub->Option (Ud):=fun(a,_)=>
 match(ile 0 a)with
 |true=>some ((ile a 65535),())
 |false=>some (false,())
def Na[Lk]:=lkk XA
theorem cE v:Na v=XA v:=A0 _
abbrev zN:A1:=[AeD,AI,AeB,AeC,AR]
abbrev zL:BJ:=[(.ret,[AH]),(.exit 2,[])]
def EH[Lk]:Vk->Option (Vk⊕Ud⊕(Unit)⊕Unit):=fun(d,e,b,c,_)=>
 match(ilt c (A2 b))with
 |true=>match idx b c with|none=>none|some a=>match Na (a.2.1,())with|none=>none|some (f,_)=>match(!f)with
  |true=>some (.inr (.inl (false,())))
  |false=>match Na (a.2.2.1,())with|none=>none|some (g,_)=>match(!g)with
  |true=>some (.inr (.inl (false,())))
  |false=>match(ilt a.1 1)with
  |true=>some (.inr (.inl (false,())))
  |false=>match(ilt 4 a.1)with
  |true=>some (.inr (.inl (false,())))
  |false=>some (.inl (d,e,b,(w64 (c+1)),()))
 |false=>some (.inr (.inr (.inl ())))
abbrev zO:A1:=[AeD,AI,AeB,AeC,AS]
abbrev zM:BJ:=[(.ret,[AH]),(.exit 0,[AeD,AI,AeB,AeC])]
def EI[Lk]:Vk->Option (Vk⊕Ud⊕(Int×List U3×List Ua×Unit)⊕Unit):=fun(c,a,d,b,_)=>
 match(ilt b (A2 a))with
 |true=>match idx a b with|none=>none|some e=>match Na (e.1,())with|none=>none|some (f,_)=>match(!f)with
  |true=>some (.inr (.inl (false,())))
  |false=>match idx a b with|none=>none|some g=>match Na (g.2.1,())with|none=>none|some (h,_)=>match(!h)with
  |true=>some (.inr (.inl (false,())))
  |false=>some (.inl (c,a,d,(w64 (b+1)),()))
 |false=>some (.inr (.inr (.inl (c,a,d,()))))
def XK[Lk]:(Us×Unit)->Option (Ud):=fun(a,_)=>
 match(ilt a.1 1)with
 |true=>some (false,())
 |false=>match(ilt 3 a.1)with
 |true=>some (false,())
 |false=>match(ieq a.1 3)with
 |true=>match(ilt 0 (A2 a.2.1))with
  |true=>some (false,())
  |false=>match(!(ieq a.1 3))with
  |true=>match(ilt 0 (A2 a.2.2.1))with
   |true=>some (false,())
   |false=>match(ilt 60 (A2 a.2.1))with
   |true=>some (false,())
   |false=>match(ilt 60 (A2 a.2.2.1))with
   |true=>some (false,())
   |false=>match A' EI many (a.1,a.2.1,a.2.2.1,0,())with|none=>none|some r=>match r with
   |.inl (b,_)=>some (b,())
   |.inr r=>match r with
   |.inl (c,d,e,_)=>match A' EH many (c,d,e,0,())with|none=>none|some r=>match r with
    |.inl (f,_)=>some (f,())
    |.inr r=>match r with
    |.inl _=>some (true,())
    |.inr _=>none
   |.inr _=>none
  |false=>match(ilt 60 (A2 a.2.1))with
  |true=>some (false,())
  |false=>match(ilt 60 (A2 a.2.2.1))with
  |true=>some (false,())
  |false=>match A' EI many (a.1,a.2.1,a.2.2.1,0,())with|none=>none|some r=>match r with
  |.inl (g,_)=>some (g,())
  |.inr r=>match r with
  |.inl (h,i,j,_)=>match A' EH many (h,i,j,0,())with|none=>none|some r=>match r with
   |.inl (k,_)=>some (k,())
   |.inr r=>match r with
   |.inl _=>some (true,())
   |.inr _=>none
  |.inr _=>none
 |false=>match(!(ieq a.1 3))with
 |true=>match(ilt 0 (A2 a.2.2.1))with
  |true=>some (false,())
  |false=>match(ilt 60 (A2 a.2.1))with
  |true=>some (false,())
  |false=>match(ilt 60 (A2 a.2.2.1))with
  |true=>some (false,())
  |false=>match A' EI many (a.1,a.2.1,a.2.2.1,0,())with|none=>none|some r=>match r with
  |.inl (l,_)=>some (l,())
  |.inr r=>match r with
  |.inl (m,n,o,_)=>match A' EH many (m,n,o,0,())with|none=>none|some r=>match r with
   |.inl (p,_)=>some (p,())
   |.inr r=>match r with
   |.inl _=>some (true,())
   |.inr _=>none
  |.inr _=>none
 |false=>match(ilt 60 (A2 a.2.1))with
 |true=>some (false,())
 |false=>match(ilt 60 (A2 a.2.2.1))with
 |true=>some (false,())
 |false=>match A' EI many (a.1,a.2.1,a.2.2.1,0,())with|none=>none|some r=>match r with
 |.inl (q,_)=>some (q,())
 |.inr r=>match r with
 |.inl (s,t,u,_)=>match A' EH many (s,t,u,0,())with|none=>none|some r=>match r with
  |.inl (v,_)=>some (v,())
  |.inr r=>match r with
  |.inl _=>some (true,())
  |.inr _=>none
 |.inr _=>none
def Zx[Lk]:=lkk XK
theorem cd v:Zx v=XK v:=A0 _
abbrev AMi:A1:=[Ay,(.tmp 1,.dat Un)]
abbrev AGf:A1:=[AJ,AI,Ad1,AfM,AK,(.cell 1 1,.dat Uh),AeR]
def MF[Lk]:(Int×List U4×Int×List U4×Int×Unit)->Option ((Int×List U4×Int×List U4×Int×Unit)⊕Ud⊕(Unit)⊕Unit):=fun(f,d,g,e,a,_)=>
 match(ilt a (A2 d))with
 |true=>match idx d a with|none=>none|some b=>match idx e a with|none=>none|some c=>match(!(ieq b.1 c.1&&(ieq b.2.1 c.2.1&&(ieq b.2.2.1 c.2.2.1&&((b.2.2.2.1==c.2.2.2.1)&&true)))))with
  |true=>some (.inr (.inl (false,())))
  |false=>some (.inl (f,d,g,e,(w64 (a+1)),()))
 |false=>some (.inr (.inr (.inl ())))
def cP[Lk]:(Uc×Uc×Unit)->Option (Ud):=fun(a,b,_)=>
 match(!(ieq a.1 b.1))with
 |true=>some (false,())
 |false=>match(!(ieq (A2 a.2.1) (A2 b.2.1)))with
 |true=>some (false,())
 |false=>match A' MF many (a.1,a.2.1,b.1,b.2.1,0,())with|none=>none|some r=>match r with
 |.inl (c,_)=>some (c,())
 |.inr r=>match r with
 |.inl _=>some (true,())
 |.inr _=>none
def nD[Lk]:=lkk cP
theorem jd v:nD v=cP v:=A0 _
abbrev AB3:A1:=[AA,(.tmp 1,.own 65 U1)]
abbrev eX:List RS:=[.agg 2]
abbrev AfP:Loc×Con:=(.cell 1 1,.own 65 U1)
abbrev AfQ:Loc×Con:=(.cell 0 1,.nil U1)
abbrev AfR:Loc×Con:=(.tmp 5,.box 2)
abbrev vg:A1:=[AA,AE,AL,AI,AfQ,AfR,AK,AfP,Ad0,AQ]
abbrev ve:BJ:=[(.exit 2,[AA,AE,AL,AI,AfQ,AfR,AK,AfP,Ad0])]
def Ig[Lk]:(Int×Int×Int×Int×List U4×Int×Int×Unit)->Option ((Int×Int×Int×Int×List U4×Int×Int×Unit)⊕(Int×Int×Int×Int×List U4×Int×Unit)⊕Unit):=fun(c,d,f,g,b,a,e,_)=>
 match(ilt e c)with
 |true=>match(ilt (A2 b) d)with
  |true=>match(fits ((A2 b)+(A2 ([(a,(e,(0,((ieq a 0),()))))]:List U4))))with
   |true=>some (.inl (c,d,f,g,(B2 b ([(a,(e,(0,((ieq a 0),()))))]:List U4)),a,(w64 (e+1)),()))
   |false=>none
  |false=>some (.inr (.inl (c,d,f,g,b,a,())))
 |false=>some (.inr (.inl (c,d,f,g,b,a,())))
abbrev vh:A1:=[AA,AE,AL,AI,AfQ,AfR,AK,AfP,Ad0]
abbrev vf:BJ:=[(.exit 0,[AL,AI,AfQ,AfR,AK,AfP])]
def Ih[Lk]:(Int×Int×Int×Int×List U4×Int×Unit)->Option ((Int×Int×Int×Int×List U4×Int×Unit)⊕(Int×Int×List U4×Unit)⊕Unit):=fun(b,f,c,d,e,a,_)=>
 match(ilt a b)with
 |true=>match A' Ig many (b,f,c,d,e,a,(w64 (a+1)),())with|none=>none|some r=>match r with
  |.inl (g,h,i,j,k,l,_)=>some (.inl (g,h,i,j,k,(w64 (l+1)),()))
  |.inr _=>none
 |false=>some (.inr (.inl (c,d,e,())))
def TA[Lk]:U3->Option ((Int×List U4×Unit)):=fun(a,b,_)=>
 match A' Ih many (a,b,0,a,([]:List U4),0,())with|none=>none|some r=>match r with
 |.inl (e,c,d,_)=>some (c,d,())
 |.inr _=>none
def VG[Lk]:=lkk TA
theorem Y2 v:VG v=TA v:=A0 _
abbrev AfS:Loc×Con:=(.tmp 0,.dat (.prod Un U2))
abbrev AMg:A1:=[AfS,(.tmp 1,.dat (.prod Un U2))]
def cO[Lk]:(Vc×Vc×Unit)->Option (Ud):=fun(a,b,_)=>
 match nD ((a.1.1,(a.1.2.1,())),(b.1.1,(b.1.2.1,())),())with|none=>none|some (c,_)=>match c with
 |true=>match(ieq a.2.1 b.2.1)with
  |true=>some ((ieq a.2.2.1 b.2.2.1),())
  |false=>some (false,())
 |false=>some (false,())
def PD[Lk]:=lkk cO
theorem jc v:PD v=cO v:=A0 _
abbrev APY:A1:=[Ad6,Am,Ad8,AP,Ac,AN]
abbrev APZ:A1:=[Ad6,Am,Ad8,AP,Ac,AZ,Aa]
abbrev APX:BJ:=[(.exit 0,[Ad6,Am,Ad8,AP,Ac,AZ])]
def AUj[Lk]:=JN ((0,(0,())):U3) Bp tLt
def AXP[Lk]:=VB ((0,(0,())):U3) Bp tLt
theorem APa v:AXP v=AUj v:=A0 _
abbrev AIW:A1:=[Az,AE,AF,AS,Aq,AK,(.tmp 5,.clo 132 [])]
def AIX[Lk]:=FK ((0,(0,())):U3) Bp tLt
def AEd[Lk]:=Gj ((0,(0,())):U3) Bp tLt
theorem ABE v:AEd v=AIX v:=A0 _
abbrev AIl:A1:=[Az,AE,Ar,AK,Ad8]
def AIm[Lk]:=FL ((0,(0,())):U3) Bp tLt
def AEi[Lk]:=Gk ((0,(0,())):U3) Bp tLt
theorem ABN v:AEi v=AIm v:=A0 _
abbrev ABO:A1:=[Az,AE,Ar,AK,AfK]
def ABP[Lk]:=FL ((0,(0,())):U3) DO tLt
def uz[Lk]:=Gk ((0,(0,())):U3) DO tLt
theorem uy v:uz v=ABP v:=A0 _
abbrev jz:A1:=[Ad6,AA,AE]
def AHG[Lk]:=Ge ((0,(0,())):U3) DO tLt
def ADw[Lk]:=Nf ((0,(0,())):U3) DO tLt
theorem zo v:ADw v=AHG v:=A0 _
def ANd[Lk]:=Ge ((0,(0,())):U3) Bp tLt
def ANe[Lk]:=Nf ((0,(0,())):U3) Bp tLt
theorem AHF v:ANe v=ANd v:=A0 _
def jO{R:Type}(slot:Nat)(H:List Ob)(fz:List Bool)(k:AV->Eff->Option R)(v:AV)(e:Eff):Option R:=
 match e.heap with
 |none=>match v with
  |.win id 0 n=>match(C6 e H)[id]? with
   |some (.arr T t xs)=>match BO (FY e fz) id&&Bi (C6 e H) (FY e fz) (slot+3)&&(e.objs.any fun p=>Nat.beq p.1 id)with
    |true=>k (.own (slot+3)) { objs:=e.objs++[(id,.dead),(slot+3,.arr T t (C5 n xs))],frz:=e.frz }
    |false=>none
   |_=>none
  |_=>none
 |some _=>none
def IW(s:Spec):Spec:=fun R args H fz slot k=>s R args H fz slot (jO slot H fz k)
section
variable {P:Program} {g:FuncId}
theorem AJP{w:World}{F:Nat->Prop}{m:Mp}{H:List Ob}{fz:List Bool}(hi:HI w F m H fz){id n slot:Nat}{T:TypeId}{t:Ty}{xs:List t.den}(i:H[id]? = some (.arr T t xs))(A:BO fz id=true)
  (o:Bi H fz slot=true) {u:Value} (e:Rep w F m H (.win id 0 n) u) :
  ∃ f,BU w F m H fz w F f ((H.set id .dead).set slot (.arr T t (C5 n xs))) fz/\Rep w F f ((H.set id .dead).set slot (.arr T t (C5 n xs))) (.own slot) u:=by
 have c:=hi.obj id _ i;obtain⟨B,c⟩:=c;unfold Rep at e;rw[i]at e;obtain⟨q,e⟩:=e;rw[Abo]at q;have r:slot≠id:=pF o i;have d:=BU.kill hi (DS i A);have zero:∀ a,n=0->u = .slice a 0 0->∃ f,BU w F m H fz w F f ((H.set id .dead).set slot (.arr T t (C5 n xs))) fz/\Rep w F f ((H.set id .dead).set slot (.arr T t (C5 n xs))) (.own slot) u:=by intro a I J;subst I;subst J;obtain⟨f,s,j⟩:=E4 (w:=w) d.2 (Nu o r) T B a;exact⟨f,d.trans s,j⟩
 cases v:m id with
  |none=>rw[v]at e c;obtain⟨a,C⟩:=e;simp_all
  |some p=>
   obtain⟨b,cap⟩:=p;rw[v]at e c;obtain⟨vs,y,C,O,K,L,M,Q⟩:=c;obtain⟨a,rfl,N⟩:=e;rcases Abz cap with D|D;simp_all;have:=N D;rw[Ack]at this;subst this;have E:=fun(x:t.den) cs (h:Dat w F t x cs)=>Dat.length t h;have k:(xs.take n).length=n:=by grind
   have l:=FF E n M;have z:=B5 E l;rw[k]at z;have s:=BU.move (w':=w) hi (DS i A) v o (ob:=.arr T t (C5 n xs)) trivial (b':=b) (c':=cap) (.inl rfl) rfl rfl rfl (Aax _) (fun _ _ _=>rfl) (fun _=>⟨B,vs,y.take (n*t.size),C,by
    show(xs.take n).length<=cap;omega,K,L,l,by
    grind⟩)
   refine⟨_,s,?_⟩;have G:=BW (CF o).1;unfold Rep;rw[Bs (by grind),Ba];show Value.slice _ n (cap-0)=Value.slice _ (xs.take n).length cap;grind
theorem sD{s:Spec}(l:BS P g s):BS P g (IW s):=by
 intro R args H fz slot k r o;obtain⟨v,e,a,p,q,x⟩:=l R args H fz slot _ r o;unfold jO at a;split at a;rename_i f;split at a;rename_i id n;split at a;rename_i T t xs i;split at a;rename_i d;refine⟨_,_,a,fun E G => ?_,q,fun w F m b hi y => ?_⟩;unfold IW;rw[p];simp only[jO,f,i,d];refine(x w F m b hi y).mono ?_;rintro I w' ⟨u,rfl,z,J,j,c⟩;simp only[Aau]at d;obtain⟨A,h,B⟩:=AJP j.2 i d.1.1 d.1.2 c;have C:C6 { objs:=e.objs++[(id,.dead),(slot+3,.arr T t (C5 n xs))],frz:=e.frz } H=((C6 e H).set id .dead).set (slot+3) (.arr T t (C5 n xs)):=by rw[Cx rfl,Cx f,Yb];rfl
 have D:FY { objs:=e.objs++[(id,.dead),(slot+3,.arr T t (C5 n xs))],frz:=e.frz } fz=FY e fz:=by rw[Dj rfl,Dj f]
 refine⟨u,rfl,z,A,?_,?_⟩;rw[C,D];exact j.trans h;grind;grind;grind;grind;grind
theorem E1{np a:Nat}{its outs:A1}{rs:List RS}{f:Bd (leaves its)->Option (Bd (leaves outs))}(c:∀ x,f x=none):BS P g (BT np a its outs rs f):=by intro R args H fz slot k r b;unfold BT at b;grind
end
section
variable {S:List Nat} {H H':List Ob}
theorem H4.ru{s:Spec}(h:H4 s):G8 s:=
 fun R args H H' fz fz' slot k S c _ b=>h R args H H' fz fz' slot k ⟨fun id a=>b.heap id (c id a),b.slotH,b.slotF,b.len,fun id a=>by cases a⟩
def Yq:A1->Bool
 |[]=>true
 |(.obj _,_)::_=>false
 |_::r=>Yq r
def AX4(S:List Nat)(v:AV):Prop:=∀ id∈BV v,id∈S
def fX(S:List Nat)(a:List Bnd):Prop:=∀ b∈a,∀ id,b.id? = some id->id∈S
theorem fX.get{a:List Bnd}(h:fX S a){j:Nat}{b:Bnd}{id:Nat}(c:a[j]? = some b)(hi:b.id? = some id):id∈S:=h b (Aay c) id hi
theorem fX.snoc{c:List Bnd}(h:fX S c){b:Bnd}(d:∀ id,b.id? = some id->id∈S):fX S (c++[b]):=by intro x a id hi;rcases Aa7.1 a with a|a;exact h x a id hi;grind
theorem AEj{g:List AV}{h:List Bnd}{l:Loc}(k:∀ id∈B1 g,id∈S)(n:aw S H)(p:∀ id∈S,H[id]? = H'[id]?)(q:fX S h)(u:∀ j,l≠.obj j):
  look (lk g) H h l=look (lk g) H' h l/\∀ v,look (lk g) H h l=some v->AX4 S v:=by
 cases l with
  |tmp t=>refine⟨rfl,fun v e id d=>k id ?_⟩;exact Dl (Aay e) d
  |cell j c=>
   simp only[look];cases r:h[j]? with
    |none=>simp
    |some b=>
     cases b with
      |none=>simp
      |cut id=>simp
      |whole id=>
       have d:=q.get r (id:=id) rfl;simp only;rw[p id d];refine⟨rfl,fun v e => ?_⟩;cases s:H'[id]? with
        |none=>grind
        |some o=>
         rw[s]at e;cases o<;>simp only at e<;>first|grind|skip
         rename_i cs;intro i hi;exact n id d cs (by grind) i (Dl (Aay e) hi)
  |cap t i=>
   refine⟨rfl,fun v e => ?_⟩;simp only[look]at e;cases m:lk g t with
    |none=>grind
    |some a=>
     rw[m]at e;cases a<;>simp only at e<;>first|grind|skip
     rename_i f cs;intro id d;refine k id (Dl (Aay (show g[t]? = _ from m)) ?_);simp only[BV];exact Dl (Aay e) d;rename_i f cs;intro id d;refine k id (Dl (Aay (show g[t]? = _ from m)) ?_);simp only[BV];exact Dl (Aay e) d
  |obj j=>grind
theorem Nb{f:List Nat}{fz fz':List Bool}(a:fz.length=fz'.length){id:Nat}(h:fz.getD id false=fz'.getD id false):(BN f fz).getD id false=(BN f fz').getD id false:=by rw[Bm,Bm,h,a]
theorem AQP{y:List AV}(I:∀ id∈B1 y,id∈S)(J:aw S H)(B:∀ id∈S,H[id]? = H'[id]?):∀ (its:A1) (fz fz':List Bool) (i:List Bnd),Yq its=true->fX S i->fz.length=fz'.length->(∀ id∈S,fz.getD id false=fz'.getD id false) ->
  dec (lk y) H its fz i=dec (lk y) H' its fz' i:=by
 intro its;induction its with
  |nil=>intro fz fz' i _ _ _ _;rfl
  |cons p r F=>
   intro fz fz' i E m z G;obtain⟨l,c⟩:=p;have D:(∀ j,l≠.obj j)/\Yq r=true:=by
    cases l with
     |obj j=>cases E
     |tmp t=>exact⟨fun j h=>(by cases h),E⟩
     |cell a b=>exact⟨fun j h=>(by cases h),E⟩
     |cap a b=>exact⟨fun j h=>(by cases h),E⟩
   obtain⟨o,C⟩:=AEj I J B m D.1;have g:=fun i m=>F fz fz' i D.2 m z G;have A:∀ id∈S,BO fz id=BO fz' id:=fun id d=>by unfold BO;grind
   cases c with
    |dat t=>
     simp only[dec,<- o];cases s:look (lk y) H i l with
      |none=>rfl
      |some v=>
       simp only;rw[ZE t v fun id d=>B id (C v s id d)];cases fe H' t v with
        |none=>rfl
        |some q=>obtain⟨x,f⟩:=q;simp only;rw[F (BN f fz) (BN f fz') i D.2 m (by rw[EG,EG,z]) (fun id d=>Nb z (G id d))]
    |own T e=>
     simp only[dec,<- o];cases s:look (lk y) H i l with
      |none=>rfl
      |some v=>
       cases v with
        |nils K=>simp only;rw[g _ (m.snoc fun id h=>by cases h)]
        |own id=>have d:id∈S:=C _ s id (by simp[BV]);simp only;rw[<- B id d,A id d,g _ (m.snoc fun w h=>by simp only[Bnd.id?,Aas]at h;grind)]
        |win id off n=>
         have d:id∈S:=C _ s id (by simp[BV]);cases off with
          |succ off=>rfl
          |zero=>simp only;rw[<- B id d,A id d,g _ (m.snoc fun w h=>by simp only[Bnd.id?,Aas]at h;grind)]
        |_=>rfl
    |box n=>
     simp only[dec,<- o];cases s:look (lk y) H i l with
      |none=>rfl
      |some v=>
       cases v with
        |ptr id off=>
         have d:id∈S:=C _ s id (by simp[BV]);cases off with
          |succ off=>rfl
          |zero=>simp only;rw[<- B id d,g _ (m.snoc fun w h=>by simp only[Bnd.id?,Aas]at h;grind)]
        |_=>rfl
    |map k v=>
     simp only[dec,<- o];cases s:look (lk y) H i l with
      |none=>rfl
      |some u=>
       cases u with
        |mp id=>have d:id∈S:=C _ s id (by simp[BV]);simp only;rw[<- B id d,g _ (m.snoc fun w h=>by simp only[Bnd.id?,Aas]at h;grind)]
        |_=>rfl
    |rows T e t=>
     simp only[dec,<- o];cases s:look (lk y) H i l with
      |none=>rfl
      |some u=>
       cases u with
        |own id=>have d:id∈S:=C _ s id (by simp[BV]);simp only;rw[<- B id d,A id d,g _ (m.snoc fun w h=>by simp only[Bnd.id?,Aas]at h;grind)]
        |_=>rfl
    |mrows j e t=>
     simp only[dec,<- o];cases s:look (lk y) H i l with
      |none=>rfl
      |some u=>
       cases u with
        |mp id=>have d:id∈S:=C _ s id (by simp[BV]);simp only;rw[<- B id d,A id d,g _ (m.snoc fun w h=>by simp only[Bnd.id?,Aas]at h;grind)]
        |_=>rfl
    |aptr T e n=>
     simp only[dec,<- o];cases s:look (lk y) H i l with
      |none=>rfl
      |some u=>
       cases u with
        |aptr id L=>have d:id∈S:=C _ s id (by simp[BV]);simp only;rw[<- B id d,A id d,g _ (m.snoc fun w h=>by simp only[Bnd.id?,Aas]at h;grind)]
        |_=>rfl
    |aptr' j n=>simp only[dec,<- o,g i m]
    |bndp f j=>simp only[dec,<- o,g i m]
    |nilp=>simp only[dec,<- o,g i m]
    |own' j=>simp only[dec,<- o,g i m]
    |ptr' j off=>simp only[dec,<- o,g i m]
    |map' j=>simp only[dec,<- o,g i m]
    |sub' j=>simp only[dec,<- o,g i m]
    |win' j=>
     simp only[dec,<- o];rw[g i m];cases s:look (lk y) H i l with
      |none=>rfl
      |some v=>
       cases v with
        |own id=>have d:id∈S:=C _ s id (by simp[BV]);grind
        |win id off n=>grind
        |_=>simp
    |clo f M=>simp only[dec,<- o,g i m]
    |bnd f j=>simp only[dec,<- o,g i m]
    |prs T j=>
     simp only[dec,<- o];cases s:look (lk y) H i l with
      |none=>rfl
      |some v=>
       cases v with
        |nils K=>simp only;rw[g _ (m.snoc fun id h=>by cases h)]
        |own id=>have d:id∈S:=C _ s id (by simp[BV]);simp only;rw[<- B id d,g _ (m.snoc fun w h=>by simp only[Bnd.id?,Aas]at h;grind)]
        |_=>rfl
    |nil e=>simp only[dec,<- o,g i m]
theorem U_{fz fz':List Bool}:∀ (n:Nat) (a:List Bnd) (slot:Nat),(∀ s,slot<=s->s<slot+n->Bi H fz s=Bi H' fz' s)->Gq H fz (DQ n a slot) a=Gq H' fz' (DQ n a slot) a:=by
 intro n;induction n with
  |zero=>intro a slot _;cases a<;>rfl
  |succ n c=>
   intro a slot h;cases a with
    |nil=>simp only[DQ,Gq,List.tail_nil];grind
    |cons b a=>
     cases b with
      |whole id=>simp only[DQ,Gq,Acf];grind
      |none=>simp only[DQ,Gq,Acf];grind
      |cut id=>simp only[DQ,Gq,Acf];grind
theorem CP{np i:Nat}{its outs:A1}{rs:List RS}{f:Bd (leaves its)->Option (Bd (leaves outs))}(c:Yq its=true)(j:Nat.ble (Db outs) 4=true):G8 (BT np i its outs rs f):=by intro R args H H' fz fz' slot k S l m a;have n:=AbP j;have hd:dec (lk args) H its fz []=dec (lk args) H' its fz' []:=AQP l m a.heap its fz fz' [] c (fun b o=>by cases o) a.len a.wrF;unfold BT;rw[hd];split;rfl;rename_i x e d _;split;rfl;split;rfl;have h:∀ (g:List Nat) s,slot<=s->s<slot+Db outs->Bi H (BN g fz) s=Bi H' (BN g fz') s:=fun g s p q=>FP a p (by omega) g;unfold Hz;rw[U_ (fz:=fz) (fz':=fz') (Db outs) (e.take np) slot (h []),U_ (fz:=BN d fz) (fz':=BN d fz') (Db outs) (e.take np) slot (h d)]
theorem AJD:∀ (n:Nat) (a:List Bnd) (slot i:Nat),i∈DQ n a slot->(∃ b∈a,b.id? = some i)\/(slot<=i/\i<slot+n):=by
 intro n;induction n with
  |zero=>intro a slot i h;cases a<;>cases h
  |succ n f=>
   intro a slot i h;have next:∀ c,i∈slot::DQ n c (slot+1)->(∃ b∈c,b.id? = some i)\/(slot<=i/\i<slot+(n+1)):=by grind
   cases a with
    |nil=>exact next [] h
    |cons b a=>
     cases b with
      |whole id=>simp only[DQ]at h;rcases AbD.1 h with rfl|h;exact .inl ⟨.whole i,by simp,rfl⟩;grind
      |none=>rcases next a h with⟨b,d,e⟩|h;all_goals grind
      |cut id=>rcases next a h with⟨b,d,e⟩|h;all_goals grind
theorem AJ4{u:List AV}(B:∀ id∈B1 u,id∈S)(C:aw S H):∀ (its:A1) (fz:List Bool) (s:List Bnd) (x:Bd (leaves its)) (o:List Bnd) (y:List Nat),Yq its=true->fX S s ->
  dec (lk u) H its fz s=some (x,o,y)->fX S o:=by
 intro its;induction its with
  |nil=>intro fz s x o y _ m h;simp only[dec,Aas]at h;grind
  |cons p r g=>
   intro fz s x o y w m h;obtain⟨l,c⟩:=p;have d:(∀ j,l≠.obj j)/\Yq r=true:=by
    cases l with
     |obj j=>cases w
     |tmp t=>exact⟨fun j h=>(by cases h),w⟩
     |cell a b=>exact⟨fun j h=>(by cases h),w⟩
     |cap a b=>exact⟨fun j h=>(by cases h),w⟩
   have q:=(AEj (H':=H) B C (fun _ _=>rfl) m d.1 (l:=l)).2;have one:∀ {id:Nat} {b:Bnd},id∈S->b.id? = some id->fX S (s++[b]):=fun D A=>m.snoc fun E F=>by grind
   cases c<;>simp only[dec]at h
   case dat t=>
    grind
   case own T e=>
    split at h
    ·split at h
     ·split at h
      ·rename_i hd;cases h;exact g _ _ _ _ _ d.2 (m.snoc fun id h=>by cases h) hd
      grind
     grind
    ·rename_i id i
     split at h
     ·split at h
      ·split at h
       ·rename_i hd;cases h;exact g _ _ _ _ _ d.2 (one (q _ i id (by simp[BV])) rfl) hd
       grind
      grind
     grind
    ·rename_i id n i
     split at h
     ·split at h
      ·split at h
       ·rename_i hd;cases h;exact g _ _ _ _ _ d.2 (one (q _ i id (by simp[BV])) rfl) hd
       grind
      grind
     grind
    grind
   case prs T j=>
    split at h
    ·split at h
     ·rename_i hd;cases h;exact g _ _ _ _ _ d.2 (m.snoc fun id h=>by cases h) hd
     grind
    ·rename_i id i
     split at h
     ·split at h
      ·split at h
       ·rename_i hd;cases h;exact g _ _ _ _ _ d.2 (one (q _ i id (by simp[BV])) rfl) hd
       grind
      grind
     grind
    grind
   case box n=>
    split at h
    ·rename_i id i
     split at h
     ·split at h
      ·exact g _ _ _ _ _ d.2 (one (q _ i id (by simp[BV])) rfl) h
      grind
     grind
    grind
   case map k v=>
    split at h
    ·rename_i id i
     split at h
     ·split at h
      ·split at h
       ·rename_i hd;cases h;exact g _ _ _ _ _ d.2 (one (q _ i id (by simp[BV])) rfl) hd
       grind
      grind
     grind
    grind
   case rows T e t=>
    split at h
    ·rename_i id i
     split at h
     ·split at h
      ·split at h
       ·rename_i hd;cases h;exact g _ _ _ _ _ d.2 (one (q _ i id (by simp[BV])) rfl) hd
       grind
      grind
     grind
    grind
   case mrows j e t=>
    split at h
    ·rename_i id i
     split at h
     ·split at h
      ·split at h
       ·rename_i hd;cases h;exact g _ _ _ _ _ d.2 (one (q _ i id (by simp[BV])) rfl) hd
       grind
      grind
     grind
    grind
   case aptr T e n=>
    split at h
    ·rename_i id G i
     split at h
     ·split at h
      ·split at h
       ·rename_i hd;cases h;exact g _ _ _ _ _ d.2 (one (q _ i id (by simp[BV])) rfl) hd
       grind
      grind
     grind
    grind
   case bndp f j=>
    split at h
    ·split at h
     ·exact g _ _ _ _ _ d.2 m h
     grind
    grind
   case nilp=>
    cases z:look (lk u) H s l with
    |none=>grind
    |some v=>
     rw[z]at h
     cases v<;>simp only at h<;>first|exact g _ _ _ _ _ d.2 m h|cases h
   case aptr' j n=>
    split at h
    ·split at h
     ·exact g _ _ _ _ _ d.2 m h
     grind
    grind
   case own' j=>
    split at h
    ·split at h
     ·exact g _ _ _ _ _ d.2 m h
     grind
    grind
   case ptr' j off=>
    split at h
    ·split at h
     ·exact g _ _ _ _ _ d.2 m h
     grind
    grind
   case map' j=>
    split at h
    ·split at h
     ·exact g _ _ _ _ _ d.2 m h
     grind
    grind
   case win' j=>
    grind
   case sub' j=>
    grind
   case clo f ps=>
    split at h
    ·split at h
     ·exact g _ _ _ _ _ d.2 m h
     grind
    grind
   case bnd f j=>
    split at h
    ·split at h
     ·exact g _ _ _ _ _ d.2 m h
     grind
    grind
   case nil e=>
    cases z:look (lk u) H s l with
    |none=>grind
    |some v=>
     rw[z]at h
     cases v<;>simp only at h<;>first|exact g _ _ _ _ _ d.2 m h|cases h
theorem AR0{np K:Nat}{its outs:A1}{rs:List RS}{f:Bd (leaves its)->Option (Bd (leaves outs))}(w:Yq its=true)(L:Nat.ble (Db outs) 4=true):G8 (IW (BT np K its outs rs f)):=by
 intro R args H H' fz fz' slot k D G I c;have M:=AbP L;have hd:dec (lk args) H its fz []=dec (lk args) H' its fz' []:=AQP G I c.heap its fz fz' [] w (fun b u=>by cases u) c.len c.wrF;have z:∀ x a l,dec (lk args) H its fz []=some (x,a,l)->fX D a:=fun x a l h=>AJ4 G I its fz [] x a l w (fun b u=>by cases u) h;unfold IW BT;rw[hd]at z |-;split;rfl
 ·rename_i x a l A;have u:=z x a l A;split;rfl
  ·split;rfl
   ·rename_i y _;have J:∀ (g:List Nat) s,slot<=s->s<slot+Db outs->Bi H (BN g fz) s=Bi H' (BN g fz') s:=fun g s m B=>FP c m (by omega) g;have N:∀ (e:Eff) (v:AV),e.heap=none->(∀ p∈e.objs,p.1∈given (a.drop np)\/p.1∈DQ (Db outs) (a.take np) slot)->jO slot H fz k v e=jO slot H' fz' k v e:=by
     intro e v d O;unfold jO;rw[d];simp only;have E:Bi (C6 e H) (FY e fz) (slot+3)=Bi (C6 e H') (FY e fz') (slot+3):=by rw[Cx d,Cx d,Dj d,Dj d];unfold Bi;rw[H7 e.objs H H' (c.slotH (slot+3) (by omega) (by omega)),Nb c.len (c.slotF (slot+3) (by omega) (by omega))]
     cases v with
      |win id off n=>
       cases off with
        |succ off=>rfl
        |zero=>
         simp only;cases o:(e.objs.any fun p=>Nat.beq p.1 id)with
          |false=>grind
          |true=>
           rw[Ads]at o;obtain⟨p,F,q⟩:=o;have q:=AbZ q;subst q;have C:(∃ b∈a,b.id? = some p.1)\/(slot<=p.1/\p.1<slot+Db outs):=by rcases O p F with h|h;obtain⟨j,P⟩:=Xq.1 h;exact .inl ⟨_,Acl (Aay P),rfl⟩;·rcases AJD _ _ _ _ h with⟨b,m,B⟩|h;all_goals grind
           have m:H[p.1]? = H'[p.1]? := by
            rcases C with⟨b,r,t⟩|⟨m,B⟩
            exact c.heap _ (u b r _ t);exact c.slotH _ m (by omega)
           have B:fz.getD p.1 false=fz'.getD p.1 false:=by
            rcases C with⟨b,r,t⟩|⟨m,B⟩
            exact c.wrF _ (u b r _ t);exact c.slotF _ m (by omega)
           have Q:(C6 e H)[p.1]? = (C6 e H')[p.1]? := by rw[Cx d,Cx d];exact H7 e.objs H H' m
           have T:BO (FY e fz) p.1=BO (FY e fz') p.1:=by rw[Dj d,Dj d];unfold BO;rw[Nb c.len B]
           grind
      |_=>rfl
    have mem:∀ p∈(given (a.drop np)).map (fun i=>(i,Ob.dead))++(DQ (Db outs) (a.take np) slot).zip ((encode (cellsOf rs) outs y).heap.map (Eo (DQ (Db outs) (a.take np) slot))),p.1∈given (a.drop np)\/p.1∈DQ (Db outs) (a.take np) slot:=by intro p F;rcases Aa7.1 F with h|h;grind;exact .inr (List.of_mem_zip h).1
    unfold Hz;rw[U_ (fz:=fz) (fz':=fz') (Db outs) (a.take np) slot (J []),U_ (fz:=BN l fz) (fz':=BN l fz') (Db outs) (a.take np) slot (J l)];split;·split;all_goals grind
    ·split;all_goals grind
end
def AXQ(i:Nat)(args:List AV):Option FuncId:=
 match args[i]? with
 |some (.clo f _)=>some f
 |some (.bnd f _)=>some f
 |_=>none
def Env.Xv(E:Env)(g:FuncId)(i:Nat)(c:FuncId)(s:Spec):Env where
 spec x:=match Nat.beq x g with
  |true=>fun R args H fz slot k=>match AXQ i args with
   |some c'=>match Nat.beq c' c with
    |true=>s R args H fz slot k
    |false=>E.spec x R args H fz slot k
   |.none=>Option.none
  |false=>E.spec x
 loc x:=match Nat.beq x g with
  |true=>false
  |false=>E.loc x
 Hi x:=match Nat.beq x g with
  |true=>E.Hi g
  |false=>E.Hi x
 pan x:=match Nat.beq x g with
  |true=>.none
  |false=>E.pan x
theorem Env.Q7{P:Program}{E:Env}{g:FuncId}{i:Nat}{c:FuncId}{s:Spec}(h:BC P E)(o:BS P g s)(f:G8 s):BC P (E.Xv g i c s):=by
 refine⟨?_,⟨?_,?_⟩,fun x p a => ?_⟩;intro x;simp only[Env.Xv];cases a:Nat.beq x g with
  |false=>exact h.1 x
  |true=>have:=AbZ a;subst this;intro R args H fz slot k r d;simp only at d;split at d;rename_i c' q;split at d;rename_i b;obtain⟨v,e,t,j,u,w⟩:=o R args H fz slot k r d;grind;rename_i b;obtain⟨v,e,t,j,u,w⟩:=h.1 x R args H fz slot k r d;grind;grind
 intro x a;simp only[Env.Xv]at a |-;cases b:Nat.beq x g with
  |true=>grind
  |false=>rw[b]at a;exact h.2.1.1 x a
 intro x a;simp only[Env.Xv]at a |-;cases b:Nat.beq x g with
  |true=>rw[b]at a;have:=AbZ b;subst this;have j:=h.2.1.2 x a;intro R args H H' fz fz' slot k S l m n;simp only;split;split;exact f R args H H' fz fz' slot k S l m n;exact j R args H H' fz fz' slot k S l m n;rfl
  |false=>rw[b]at a;exact h.2.1.2 x a
 simp only[Env.Xv]at a |-;cases b:Nat.beq x g with
  |true=>grind
  |false=>rw[b]at a;exact h.2.2 x p a
def vI:List Value->Option (List (IntKind×Int))
 |[]=>some []
 |.int k n::r=>(vI r).map ((k,n) :: ·)
 |_::_=>none
def ARd:Exit->Option PV
 |.panic [⟨.iface T (.agg a),false,false⟩]=>(vI a.toList).map fun l=>(T,l)
 |_=>none
def s8(T:TypeId)(a:List IntKind)(e:Exit):Option (List Int):=
 match ARd e with
 |some (T',l)=>match decide (T'=T)&&decide (l.map (·.1)=a)with
  |true=>some (l.map (·.2))
  |false=>none
 |none=>none
def ARX:List IntKind->List Int->List (IntKind×Int)
 |[],_=>[]
 |k::ks,ns=>(k,ns.headD 0)::ARX ks ns.tail
def AGy(T:TypeId)(a:List IntKind)(b:List Int):PV:=(T,ARX a b)
theorem AOy:∀ {vs:List Value} {l:List (IntKind×Int)},vI vs=some l->vs=l.map fun p=>Value.int p.1 p.2:=by
 intro vs;induction vs with
  |nil=>intro l h;simp only[vI,Aas]at h;grind
  |cons v vs b=>intro l h;unfold vI at h;split at h;grind;rename_i k n r a;cases a;simp only[Aa0]at h;grind;grind
theorem ADP{e:Exit}{p:PV}(h:ARd e=some p):e = .panic [DC p]:=by unfold ARd at h;split at h;rename_i T a;simp only[Aa0]at h;obtain⟨l,b,rfl⟩:=h;have:=AOy b;simp only[DC,Ll];rw[<- this];grind
theorem s7{T:TypeId}{a:List IntKind}{e:Exit}{b:List Int}(h:s8 T a e=some b):e = .panic [DC (AGy T a b)]:=by
 unfold s8 at h;split at h;rename_i g l d;split at h;rename_i c;simp only[Aau,Aat]at c;obtain⟨rfl,rfl⟩:=c;simp only[Aas]at h;subst h;rw[ADP d];unfold AGy;have:∀ l:List (IntKind×Int),ARX (l.map (·.1)) (l.map (·.2))=l:=by
  intro l;induction l with
   |nil=>rfl
   |cons p l f=>simp only[AbL,ARX,AdV,Acf,f]
 rw[this];grind;grind
noncomputable section
abbrev ARN(os:BJ)(pits:A1):Type:=QK os⊕(List Int×Bd (leaves pits))
def XJ(np b:Nat)(its:A1)(os:BJ)(T:TypeId)(f:List IntKind)(a:A1)(e:Exit)(st:St):Option (Bd (leaves its)⊕ARN os a):=
 match e with
 |.normal=>match decode np b st its with
  |some d=>some (.inl d)
  |none=>none
 |.panic c=>match s8 T f (.panic c)with
  |some g=>match decode np b st a with
   |some d=>some (.inr (.inr (g,d)))
   |none=>none
  |none=>none
 |e=>match Yo np b e st os with
  |some x=>some (.inr (.inl x))
  |none=>none
def ABm(b:Nat){R:Type}(T:TypeId)(c:List IntKind)(a:A1)(k:Exit->St->Option R)(os:BJ):ARN os a->Option R
 |.inl r=>eM b k os r
 |.inr q=>k (.panic [DC (AGy T c q.1)]) (encode b a q.2)
def Np[Lk](np b:Nat)(its:A1)(os:BJ)(T:TypeId)(c:List IntKind)(a:A1)(step:Bd (leaves its)->Option (Bd (leaves its)⊕ARN os a)):fm:=fun R st k=>
 match decode np b st its with
 |none=>none
 |some v=>match A' step many v with
  |none=>none
  |some r=>ABm b T c a k os r
def KS[Lk](P:Program)(E:Env)(h:Hints)(n np c:Nat)(b:Code)(its:A1)(os:BJ)(T:TypeId)(d:List IntKind)(a:A1)(v:Bd (leaves its)):Option (Bd (leaves its)⊕ARN os a):=
 Bb P E h _ b n (encode c its v) (XJ np c its os T d a)
def DW[Lk](np:Nat)(P:Program)(E:Env)(h:Hints)(fn:Func)(its outs:A1)(rs:List RS)(T:TypeId)(b:List IntKind)(a:A1)(x:Bd (leaves its)):Option (Bd (leaves outs)⊕(List Int×Bd (leaves a))):=
 match fn.body with
 |none=>none
 |some c=>Bb P E h _ c 0 (encode fn.ntmps its x) fun e st=>
  match e with
  |.normal=>match finish np P fn outs rs st with
   |some y=>some (.inl y)
   |none=>none
  |.ret=>match finish np P fn outs rs st with
   |some y=>some (.inl y)
   |none=>none
  |.panic c=>match s8 T b (.panic c)with
   |some d=>match dec (lk []) st.heap a st.frz []with
    |some (z,bs,_)=>match pins np 0 bs&&(st.heap.take np).all CK with
     |true=>some (.inr (d,z))
     |false=>none
    |none=>none
   |none=>none
  |_=>none
def I_(np b:Nat)(its outs:A1)(rs:List RS)(T:TypeId)(c:List IntKind)(a:A1)(f:Bd (leaves its)->Option (Bd (leaves outs)⊕(List Int×Bd (leaves a)))):NH:=fun R args H fz slot k kp=>
 match dec (lk args) H its fz []with
 |none=>none
 |some (x,bs,fr)=>match bs.all Bnd.rm&&decide (bs.length=Db its)&&decide (args.length=b)&&(Fe its&&Fe outs&&Fe a)with
  |false=>none
  |true=>match f x with
   |none=>none
   |some (.inl y)=>Hz R (given (bs.drop np)) (bs.take np) fr rs (encode (cellsOf rs) outs y) (DQ (Db outs) (bs.take np) slot) H fz k
   |some (.inr q)=>Hz R (given (bs.drop np)) (bs.take np) fr [] (encode 0 a q.2) (DQ (Db a) (bs.take np) slot) H fz fun _ e=>kp (AGy T c q.1) e
def Dd{α β:Type}:Option (α⊕β)->Option α
 |some (.inl y)=>some y
 |_=>none
end
section
variable {P:Program} {E:Env}
theorem df[DfI]{S:Hints}(hE:∀ g,BS P g (E.spec g))(hL:FA E)(hP:G7 P E){np p n:Nat}{b:Code}{its:A1}{os:BJ}{T:TypeId}{G:List IntKind}{f:A1}{stp:Bd (leaves its)->Option (Bd (leaves its)⊕ARN os f)}
  (A:∀ v,stp v=KS P E S n np p b its os T G f v) (hl:Bz P np S b n):Fg P np (.loop b) (Np np p its os T G f stp):=by
 intro R st k r B;unfold Np at B;split at B;cases B;rename_i v hv;split at B;cases B;rename_i x hx;have H:∃ e st',k e st'=some r/\∀ (I:Type) (C:Exit->St->Option I),ABm p T G f C os x=C e st':=by
  cases x with
   |inl x=>exact kW os x B
   |inr q=>exact⟨_,_,B,fun _ _=>rfl⟩
 obtain⟨e,st',h1,h2⟩:=H;refine⟨e,st',h1,fun I C=>by simp only[Np,hv,hx];grind,?_⟩
 have U:∀ (i:Nat) (v:Bd (leaves its)),BK stp i v=some x->∀ (w:World) (F:Nat->Prop) (m:Mp) (a:Act) (Q:Exit->Act->World->Prop),SI w F m (encode p its v) a ->
   (∀ t w' V W,SI w' V W st' t->I9 np w F m (encode p its v).heap (encode p its v).frz w' V W st'.heap st'.frz->Q e t w')->Code.rounds P b Q i a w:=by
  intro i
  induction i with
  |zero=>intro v h;simp[BK]at h
  |succ i ih=>
   intro v h w F m a Q X O
   simp only[BK]at h
   rw[A v]at h
   cases Y:KS P E S n np p b its os T G f v with
   |none=>grind
   |some y=>
    rw[Y]at h
    unfold KS at Y
    obtain⟨u,J,s,_,g3⟩:=DD hE hL hP b n hl _ _ _ _ Y
    show b.wp P (Exit.then (Code.rounds P b Q i) Q) a w
    refine g3 w F m a _ X fun t w' V W s1 x1 => ?_
    have fin:∀ (j:A1) (d:Bd (leaves j)),decode np p J j=some d->(∀ (I:Type) (C:Exit->St->Option I),ABm p T G f C os x=C u (encode p j d))->Q u t w':=by
     intro j d Z o2
     obtain⟨K,L,M,N⟩:=Hs s1 Z
     have e3:=(h2 (Exit×St) fun e st=>some (e,st)).symm.trans (o2 (Exit×St) fun e st=>some (e,st))
     simp only[Aas,Aa4]at e3
     obtain⟨rfl,rfl⟩:=e3
     exact O t w' K L M (x1.trans N)
    have o:u≠.normal->(∀ c,u≠.panic c)->Q u t w':=by
     intro hn hp
     have D:(match Yo np p u J os with
      |some x=>some (Sum.inr (Sum.inl x))
      |none=>none)=some y:=by
      cases u<;>first|grind|exact absurd rfl (hp _)|exact s
     split at D
     ·rename_i z hz
      simp only[Aas]at D;subst D
      simp only[Aas]at h;subst h
      obtain⟨j,d,Z,o2⟩:=ue os _ hz
      exact fin j d Z o2
     grind
    cases u with
    |normal=>
     simp only[XJ]at s
     split at s
     ·rename_i d hd
      simp only[Aas]at s;subst s
      obtain⟨K,L,M,N⟩:=Hs s1 hd
      show Code.rounds P b Q i t w'
      exact ih d h w' K L t Q M fun a3 w3 F3 m3 s3 x3=>O a3 w3 F3 m3 s3 (x1.trans (N.trans x3))
     grind
    |panic c=>
     simp only[XJ]at s
     split at s
     ·rename_i ns hns
      split at s
      ·rename_i d hd
       simp only[Aas]at s;subst s
       simp only[Aas]at h;subst h
       exact fin f d hd fun I C=>by rw[s7 hns];rfl
      grind
     grind
    |exit id=>exact o (by simp) (by simp)
    |goto l=>exact o (by simp) (by simp)
    |ret=>exact o (by simp) (by simp)
    |outgrown=>exact o (by simp) (by simp)
 intro w F m a Q X O;obtain⟨K,L,M,N⟩:=Hs X hv;exact wp_loop_rounds many (U many v (by rw[<- Bo];exact hx) w K L a Q M fun a3 w3 F3 m3 s3 x3=>O a3 w3 F3 m3 s3 (N.trans x3))
variable {h:Hints} {g:FuncId} {fn:Func} {c:Code}
theorem tK(d:∀ g,BS P g (E.spec g))(e:FA E)(f:G7 P E)(i:fn.body=some c){np:Nat}{its outs:A1}{rs:List RS}{T:TypeId}{j:List IntKind}{a:A1}(k:Bz P np h c 0)(x:Bd (leaves its)){y:Bd (leaves outs)}
  (b:DW np P E h fn its outs rs T j a x=some (.inl y)):Cq np P E h fn its outs rs x=some y:=by unfold DW at b;unfold Cq;rw[i]at b |-;simp only at b |-;obtain⟨l,st',m,n,_⟩:=DD d e f c 0 k _ _ _ _ b;grind
theorem AT7(e:∀ g,BS P g (E.spec g))(f:FA E)(i:G7 P E)(j:fn.body=some c){np:Nat}{its outs:A1}{rs:List RS}{T:TypeId}{l:List IntKind}{b:A1}(k:Bz P np h c 0)(x:Bd (leaves its)):
  Dd (DW np P E h fn its outs rs T l b x)=Cq np P E h fn its outs rs x:=by
 cases d:DW np P E h fn its outs rs T l b x with
  |some y=>
   cases y with
    |inl y=>exact(tK e f i j k x d).symm
    |inr q=>
     cases a:Cq np P E h fn its outs rs x with
      |none=>rfl
      |some y=>exfalso;unfold Cq at a;unfold DW at d;rw[j]at d a;simp only at d a;obtain⟨m,st',n,o,_⟩:=DD e f i c 0 k _ _ _ _ a;grind
  |none=>
   cases a:Cq np P E h fn its outs rs x with
    |none=>rfl
    |some y=>exfalso;unfold Cq at a;unfold DW at d;rw[j]at d a;simp only at d a;obtain⟨m,st',n,o,_⟩:=DD e f i c 0 k _ _ _ _ a;grind
theorem MY(hE:∀ g,BS P g (E.spec g))(hL:FA E)(hP:G7 P E)(hf:P.funcs[g]? = some fn)(Y:fn.body=some c)(hc:I0 P g)
  {np I:Nat} (J:I<=fn.ntmps) {its outs:A1} {rs:List RS} {T:TypeId} {K:List IntKind} {b:A1} {f:Bd (leaves its)->Option (Bd (leaves outs)⊕(List Int×Bd (leaves b)))} (B:∀ x,f x=DW np P E h fn its outs rs T K b x) (hl:Bz P np h c 0) :
  IH P g (BT np I its outs rs fun x=>Dd (f x)) (I_ np I its outs rs T K b f):=by
 intro R args H fz slot k kp r j;simp only[I_]at j;split at j;cases j;rename_i x bs fr d;split at j;cases j;rename_i s;simp only[Aau,Aat]at s;obtain⟨⟨⟨a,t⟩,l⟩,⟨n,u⟩,v⟩:=s;split at j;cases j;rename_i y o;left;obtain⟨e,L,_,_,h5,_⟩:=Vw j;refine⟨_,e,L,fun Z k' M => ?_,fun Z k' => ?_⟩;simp only[I_,d,a,t,l,n,u,v,o,Aa6,Aby];grind;simp only[BT,d,a,t,l,n,u,o,Dd,Aa6,Aby];grind;rename_i q o;right;obtain⟨ns,z⟩:=q;simp only at j;obtain⟨e,L,N,O,h5,Q,S,U⟩:=Vw j;refine⟨_,e,L,fun Z k' M => ?_,hc,fun w F m vals hi hr => ?_⟩;simp only[I_,d,a,t,l,n,u,v,o,Aa6,Aby];grind;rw[B x]at o;unfold DW at o;rw[Y]at o;simp only at o;obtain⟨ex,st',A,_,g3⟩:=DD hE hL hP c 0 hl _ _ _ _ o;have C:∃ i p,ex = .panic [DC (AGy T K ns)]/\dec (lk []) st'.heap b st'.frz []=some (z,i,p)/\pins np 0 i=true:=by
  cases ex with
   |normal=>grind
   |ret=>grind
   |panic ch=>simp only at A;split at A;rename_i ns' V;split at A;rename_i z' i p hd;split at A;rename_i G;simp only[Aas,Sum.inr.injEq,Aa4]at A;obtain⟨rfl,rfl⟩:=A;rw[Aau]at G;exact⟨i,p,s7 V,hd,G.1⟩;grind;grind;grind
   |_=>grind
 obtain⟨i,p,rfl,W,G⟩:=C;refine calls_of_wp hf Y ?_;obtain⟨F2,m2,gA,D,X⟩:=TJ hi hr l J d;refine g3 w F2 m2 _ _ X fun a' w' F' m' s1 x1 => ?_;obtain⟨F3,m3,hg,_⟩:=fW (rs:=[]) hi gA D a n v rfl rfl N O Q S U s1.heap x1 (vs:=[]) (us:=[]) NG rfl W G;exact⟨s1.defers,rfl,F3,m3,hg⟩
theorem MW (hE : BC P E) (hf : P.funcs[g]? = some fn) (hb : fn.body.isSome = true) (hn : (fn.name == "runtime.NumGoroutine") = false) {np na : Nat} (hna : Nat.ble na fn.ntmps = true) {its outs : A1} {rs : List RS} {T : TypeId} {ks : List IntKind} {pits : A1}
  {f:Bd (leaves its)->Option (Bd (leaves outs)⊕(List Int×Bd (leaves pits)))} (hfun:∀ x,f x=DW np P E h fn its outs rs T ks pits x) (hl:Bz P np h (Bu fn) 0):BS P g (BT np na its outs rs fun x=>Dd (f x)):=
 En hE hf hb hn hna (fun x=>by rw[hfun];exact AT7 hE.1 hE.2.1 hE.2.2 (Fv hb) hl x) hl
def Env.pM(E:Env)(g:FuncId)(Hi:Bool)(a:Spec)(s:NH):Env where
 spec x:=match Nat.beq x g with
  |true=>a
  |false=>E.spec x
 loc x:=match Nat.beq x g with
  |true=>false
  |false=>E.loc x
 Hi x:=match Nat.beq x g with
  |true=>Hi
  |false=>E.Hi x
 pan x:=match Nat.beq x g with
  |true=>some s
  |false=>E.pan x
theorem Env.aL{Hi:Bool}{d:Spec}{s:NH}(h:BC P E)(i:BS P g d)(j:IH P g d s)(e:Hi=true->G8 d):BC P (E.pM g Hi d s):=by
 refine⟨?_,⟨?_,?_⟩,fun x f a => ?_⟩;intro x;simp only[Env.pM];cases a:Nat.beq x g with
  |true=>simp_all
  |false=>exact h.1 x
 intro x a;simp only[Env.pM]at a |-;cases b:Nat.beq x g with
  |true=>grind
  |false=>rw[b]at a;exact h.2.1.1 x a
 intro x a;simp only[Env.pM]at a |-;cases b:Nat.beq x g with
  |true=>grind
  |false=>rw[b]at a;exact h.2.1.2 x a
 simp only[Env.pM]at a |-;cases b:Nat.beq x g with
  |true=>simp_all
  |false=>rw[b]at a;exact h.2.2 x f a
def AKL(i:Nat)(c:FuncId)(s:NH)(a:Option NH):NH:=fun R args H fz slot k kp=>
 match AXQ i args with
 |some c'=>match Nat.beq c' c with
  |true=>s R args H fz slot k kp
  |false=>match a with
   |some a=>a R args H fz slot k kp
   |none=>none
 |none=>none
def Env.Y3(E:Env)(g:FuncId)(i:Nat)(c:FuncId)(a:Spec)(s:NH):Env:=
 { E.Xv g i c a with pan:=fun x=>match Nat.beq x g with
  |true=>some (AKL i c s (E.pan g))
  |false=>E.pan x }
theorem Env.vj{i:Nat}{c:FuncId}{j:Spec}{s:NH}(h:BC P E)(C:BS P g j)(D:IH P g j s)(y:G8 j):BC P (E.Y3 g i c j s):=by
 have B:=Env.Q7 (i:=i) (c:=c) h C y;refine⟨B.1,B.2.1,fun x z q => ?_⟩;simp only[Env.Y3]at q;cases w:Nat.beq x g with
  |false=>
   rw[w]at q;have e:(E.Y3 g i c j s).spec x=E.spec x:=by simp only[Env.Y3,Env.Xv,w]
   rw[e];exact h.2.2 x z q
  |true=>
   rw[w]at q;have:=AbZ w;subst this;simp only[Aas]at q;subst q;intro R args H fz slot k kp r t;unfold AKL at t;split at t;rename_i c' a;have e:∀ (b:Type) (f:AV->Eff->Option b),(E.Y3 x i c j s).spec x b args H fz slot f=match Nat.beq c' c with
     |true=>j b args H fz slot f
     |false=>E.spec x b args H fz slot f:=by
    intro b f
    simp only[Env.Y3,Env.Xv,Nat.beq_refl,a]<;>grind
   split at t;rename_i d;rcases D R args H fz slot k kp r t with⟨v,l,m,A,u⟩|⟨p,l,m,A,u⟩
   exact .inl ⟨v,l,m,fun b f n=>by simp only[AKL,a,d];grind,fun b f=>by grind⟩;exact .inr ⟨p,l,m,fun b f n=>by simp only[AKL,a,d];grind,u⟩;rename_i d;split at t;rename_i z o;rcases h.2.2 x z o R args H fz slot k kp r t with⟨v,l,m,A,u⟩|⟨p,l,m,A,u⟩
   exact .inl ⟨v,l,m,fun b f n=>by simp only[AKL,a,d,o];grind,fun b f=>by grind⟩;exact .inr ⟨p,l,m,fun b f n=>by simp only[AKL,a,d,o];grind,u⟩;grind;grind
end
end
end Go.Pev
end
section
namespace Go.Pev
open Go.RowKit
noncomputable section
def pY:List Oper->Option (FuncId×List Operand×Tmp)
 |[o0,o1]=>match o0.op,o0.dst,o0.guard with
  |.makeFunc (.func g) first cs,some t,none=>match o1.op,o1.dst,o1.guard with
   |.defer c,none,none=>match c.callee with
    |.value (.tmp t')=>match Nat.beq t' t&&(c.args.isEmpty&&first.isEmpty)with
     |true=>some (g,cs.toList,t)
     |false=>none
    |_=>none
   |_,_,_=>none
  |_,_,_=>none
 |_=>none
def isRec(o:Oper):Bool:=match o.op,o.guard with
 |.call { callee:=.builtin .recover,args,.. },none=>args.isEmpty
 |_,_=>false
def XQ[Lk](P:Program)(E:Env)(h:Hints)(R:Type)(fnC:Func)(rv:AV)(caps:List AV)(H:List Ob)(fz:List Bool)(k:St->Option R):Option R:=
 match fnC.body with
 |some (.seq (.region _ ops false) rest)=>match ops.toList with
  |[]=>none
  | o :: os => match isRec o && (Nat.beq (loops rest) 0 && (fnC.results.toList.isEmpty && (Nat.ble caps.length fnC.ntmps && !(fnC.name == "runtime.NumGoroutine")))) with
   |false=>none
   |true=>Gf P E R (o::os) os H.length ((({ tmps:=.of caps fnC.ntmps,heap:=H,frz:=fz }:St).pad (DE (o::os))).put o.dst rv) fun st=>Bb P E h R rest 0 st fun e st=>match e with
    |.normal=>k st
    |.ret=>k st
    |_=>none
 |_=>none
def Ng[Lk](P:Program)(E:Env)(h:Hints)(R:Type):Nat->Code->St->(Exit->St->Option R)->(List Oper->Code->St->Option R)->Option R
 |0,.seq (.region _ ops false) b,st,_,kd=>kd ops.toList b st
 |m+1,.seq a b,st,ke,kd=>match Nat.beq (loops a) 0 with
  |true=>Bb P E h R a 0 st fun e st=>match e with
   |.normal=>Ng P E h R m b st ke kd
   |e=>ke e st
  |false=>none
 |_,_,_,_,_=>none
def fY(H:List Ob):AV->Bool
 |.ptr i 0=>Gn H i
 |_=>false
def ADx(np:Nat):AV->Bool
 |.ptr i 0=>decide (i<np)
 |_=>false
def wR:Nat->Code->Code
 |0,.seq _ b=>b
 |m+1,.seq _ b=>wR m b
 |_,c=>c
def AaA(t:Tmp):Operand->Bool
 |.tmp t' => !(Nat.beq t' t)
 |_=>true
def Sf[Lk](P:Program)(E:Env)(fn:Func)(m:Nat)(its outs:A1)(rs:List RS)(l n j:Hints)(d:A1)(k:Nat)(x:Bd (leaves its)):Option (Bd (leaves outs)):=
 match fn.body with
 |none=>none
 |some c=>Ng P E l _ m c (encode fn.ntmps its x)
  (fun e st=>match e with
   |.ret=>finish 0 P fn outs rs st
   |_=>none)
  fun ops b st=>match pY ops with
   |none=>none
   |some (g,cs,t)=>match P.funcs[g]? with
    |none=>none
    |some i=>match decode 0 fn.ntmps (st.put (some t) (.clo g (cs.map (Bc st.tmps)))) d with
     |none=>none
     |some v=>match(Nat.blt t fn.ntmps&&cs.all (AaA t))&&(cs.map (Bc (encode fn.ntmps d v).tmps)).all fun a=>ADx k a&&fY (encode fn.ntmps d v).heap a with
      |false=>none
      |true=>Bb P E n _ b 0 (encode fn.ntmps d v) fun e f=>match(cs.map (Bc (encode fn.ntmps d v).tmps)).all (fY f.heap)with
       |false=>none
       |true=>match e with
        |.normal=>XQ P E j _ i (.ifc none) (cs.map (Bc (encode fn.ntmps d v).tmps)) f.heap f.frz fun h=>finish 0 P fn outs rs { tmps:=f.tmps,heap:=h.heap,frz:=h.frz }
        |.ret=>XQ P E j _ i (.ifc none) (cs.map (Bc (encode fn.ntmps d v).tmps)) f.heap f.frz fun h=>finish 0 P fn outs rs { tmps:=f.tmps,heap:=h.heap,frz:=h.frz }
        |.panic o=>match ARd (.panic o)with
         |some p=>XQ P E j _ i (.ifc (some p)) (cs.map (Bc (encode fn.ntmps d v).tmps)) f.heap f.frz fun h=>finish 0 P fn outs rs { tmps:=f.tmps,heap:=h.heap,frz:=h.frz }
         |none=>none
        |_=>none
end
section
variable {P:Program} {E:Env} {h:Hints}
theorem zt{R:Type}{r:R}(M:∀ g,BS P g (E.spec g)){ops:Array Oper}{Q:Exit->Act->List Frame->World->Prop}{cs:List Frame}{k:St->Option R}:∀ (b c:List Oper) (slot:Nat) (st:St) (w:World) (F:Nat->Prop) (m:Mp) (a:Act),ops.toList=c++b ->
  Gf P E R ops.toList b slot st k=some r->SI w F m st a->(∀ f w',AVr r k w F m st.heap st.frz f w'->Q .normal f cs w')->wpOpsS P ops Q (List.range' c.length b.length) a cs w:=by
 intro b;induction b with
  |nil=>intro c slot st w F m a _ h y t;exact t a w ⟨st,F,m,h,y,Ext.refl ..⟩
  |cons o b I=>
   intro c slot st w F m a q h y t;simp only[Gf]at h;have s:ops[c.length]? = some o:=by rw[<- Abw,q];simp
   have d:ops.toList=(c++[o])++b:=by grind
   have J:(c++[o]).length=c.length+1:=by simp
   rw[Aa1,AcW];simp only[wpOpsS,s];obtain⟨st',i,z,A,N⟩:=S8 y h;rcases N with⟨B,O⟩|⟨B,S⟩
   rw[Aa5 B];obtain⟨v,e,T,_,U⟩:=FU M o.op R _ _ _ _ _ _ _ O;have j:o.wp P a w (fun f w'=>wpOpsS P ops Q (List.range' (c.length+1) b.length) f cs w') (fun e f w'=>Q e f cs w'):=by
    refine U w F m a o _ _ rfl rfl i.heap (fun x=>Fp i.tmps x) fun u w' V W K X => ?_;have l:=(i.go K).put X o.dst;have:=I (c++[o]) _ _ w' V W (a.put o.dst u) d T l fun f n ⟨p,C,D,G,H,Y⟩=>t f n ⟨p,C,D,G,H,by
     have L:=K.1;rw[z,A]at L;refine L.trans ?_;have:((st'.app e).put o.dst v).heap=C6 e st.heap/\((st'.app e).put o.dst v).frz=FY e st.frz:=by cases o.dst<;>simp[St.put,St.app,z,A]
     grind⟩
    grind
   unfold Oper.wp at j;generalize (execOp a.eval o).run P w=res at j |-;split;simp[Oper.upon]at j;omega;rw[Aa2 (by simp[B])];have l:SI w F m (st'.put o.dst CW) (a.put o.dst undef):=i.put Tp o.dst;have:=I (c++[o]) _ _ w F m (a.put o.dst undef) d S l fun f n ⟨p,C,D,G,H,Y⟩=>t f n ⟨p,C,D,G,H,by
    have:(st'.put o.dst CW).heap=st.heap/\(st'.put o.dst CW).frz=st.frz:=by cases o.dst<;>simp[St.put,z,A]
    grind⟩
   grind
theorem I9.ext{w:World}{F:Nat->Prop}{m:Mp}{H:List Ob}{fz:List Bool}{w':World}{a:Nat->Prop}{b:Mp}{H':List Ob}{fz':List Bool}(x:I9 H.length w F m H fz w' a b H' fz'):Ext w F m H fz w' a b H' fz':=
 ⟨x.os,x.tape,x.output,x.size,x.keep,x.sub,x.bnd,x.own,fun i o c d=>x.comp i o (BW c) c d⟩
theorem I9.AaT{np:Nat}{w:World}{F:Nat->Prop}{m:Mp}{H:List Ob}{fz:List Bool}{w':World}{a:Nat->Prop}{b:Mp}{H':List Ob}{fz':List Bool}(x:I9 np w F m H fz w' a b H' fz'):I9 0 w F m H fz w' a b H' fz':=
 ⟨x.os,x.tape,x.output,x.size,x.keep,x.sub,x.bnd,x.own,fun i o h=>absurd h (Nat.not_lt_zero _)⟩
theorem AHM(U:∀ g,BS P g (E.spec g))(hL:FA E)(hP:G7 P E){R:Type}{r:R}{g:FuncId}{b:Func}{I:AV}{d:List AV}{H:List Ob}{fz:List Bool}{k:St->Option R}(hf:P.funcs[g]? = some b)(y:XQ P E h R b I d H fz k=some r):
  ∃ a,k a=some r/\I0 P g/\∀ (w:World) (F:Nat->Prop) (m:Mp) (c:List Value) (u:FrameMode),HI w F m H fz->BG w F m H d c->((u = .returning/\I = .ifc none)\/∃ p,u = .panicking [DC p]/\I = .ifc (some p)) ->
   CallsD P g c.toArray u w fun q f w'=>(∃ v,q = .returned v)/\settle f = .returning/\∃ j l,BU w F m H fz w' j l a.heap a.frz:=by
 unfold XQ at y;split at y;rename_i id ops i hb;split at y;cases y;rename_i o os s;split at y;cases y;rename_i hc;simp only[Aau]at hc;obtain⟨K,z,hres,L,hnm⟩:=hc;have z:=AbZ z;have L:=AbP L;obtain⟨M,h1,h2⟩:=c8 U _ _ _ _ y;obtain⟨e,a,g1,_,g3⟩:=DD U hL hP (np:=M.heap.length) i 0 (OH i 0 z) R _ _ r h1;have x:k a=some r/\(e = .normal\/e = .ret):=by grind
 refine⟨a,x.1,Cj hf (by grind) (by grind),fun w F m c u hi hr hu => ?_⟩;have N:=Be hr;have V:SI w F m { tmps:=.of d b.ntmps,heap:=H,frz:=fz } { tmps:=c.toArray++Array.replicate (b.ntmps-c.toArray.size) undef,defers:=[] }:=by refine⟨fun t => ?_,?_,hi,rfl⟩;have:=mV hr (b.ntmps-d.length) t;simp only[Ab9,N];exact this;simp[N,Tm.of];omega
 obtain⟨W,X⟩:=V.pad (DE (o::os));refine callsD_of_wpS hf hb fun n cs O => ?_;refine wpS_seq (wpS_region ?_);have A:o.guard=none/\∃ args ts,o.op = .call { callee:=.builtin .recover,args:=args,argTypes:=ts }/\args.isEmpty=true:=by unfold isRec at K;grind
 obtain⟨hg,args,ts,A,Y⟩:=A;have B:ops.size=os.length+1:=by rw[<- AbH,s];rfl
 have h0:ops[0]? = some o:=by rw[<- Abw,s];rfl
 rw[B,AcL,AcW];simp only[wpOpsS,h0];rw[Aa5 (by simp[Region.wanted,hg])];have S:(execOp (Act.eval { tmps:=c.toArray++Array.replicate (b.ntmps-c.toArray.size) undef,defers:=[] }) o).run P w = .ok .recover w:=by
  have ha:args = #[]:=by grind
  subst ha;simp[execOp,A,resolve,invoke,builtin]
 rw[S];simp only
 have go:∀ (v:Value) (J:Frame) (f:FrameMode),Rep w F m ((St.pad { tmps:=.of d b.ntmps,heap:=H,frz:=fz } (DE (o::os))).heap) I v->J = { n with mode:=f }->settle f = .returning ->
   wpOpsS P ops (Exit.thenS (i.wpS P (bodyPostS P b n cs fun q f w'=>(∃ v,q = .returned v)/\settle f = .returning/\∃ j l,BU w F m H fz w' j l a.heap a.frz)) (bodyPostS P b n cs fun q f w'=>(∃ v,q = .returned v)/\settle f = .returning/\∃ j l,BU w F m H fz w' j l a.heap a.frz))
    (List.range' 1 os.length) (Act.put { tmps:=c.toArray++Array.replicate (b.ntmps-c.toArray.size) undef,defers:=[] } o.dst v) (J::cs) w:=by
  intro v J f Z hc1 hst
  have hs3:=W.put Z o.dst
  have h3:Gf P E St ops.toList os H.length ((St.pad { tmps:=.of d b.ntmps,heap:=H,frz:=fz } (DE (o::os))).put o.dst I) some=some M:=by
   grind
  have:=zt (cs:=J::cs) U os [o] _ _ w F m _ (by grind) h3 hs3 (Q:=(Exit.thenS (i.wpS P (bodyPostS P b n cs fun q f w'=>(∃ v,q = .returned v)/\settle f = .returning/\∃ j l,BU w F m H fz w' j l a.heap a.frz)) (bodyPostS P b n cs fun q f w'=>(∃ v,q = .returned v)/\settle f = .returning/\∃ j l,BU w F m H fz w' j l a.heap a.frz))) fun a' w' hp => ?_
  ·omega
  ·obtain⟨st',j,l,e1,s1,x1⟩:=hp
   cases e1
   show i.wpS P _ a' (J::cs) w'
   refine wpS_of_wp (g3 w' j l a' _ s1 fun a2 T F2 m2 s2 x2 => ?_)
   have hx:Ext w F m H fz T F2 m2 a.heap a.frz:=by
    have hh:=Fi (St.pad { tmps:=.of d b.ntmps,heap:=H,frz:=fz } (DE (o::os))) o.dst I
    rw[hh.1,hh.2]at x1
    exact X.trans (x1.trans x2.ext)
   have C:b.results.toList=[]:=by grind
   obtain⟨us,r1,_⟩:=Nd (P:=P) s2 (fn:=b) (vs:=[]) (by rw[C];rfl)
   have D:a2.defers=[]/\∃ f,(J::cs:List Frame) = { n with mode:=f }::cs/\∃ v,(results b a2.tmps).run P T = .ok v T/\((∃ v',Ending.returned v = .returned v')/\settle f = .returning/\∃ j l,BU w F m H fz T j l a.heap a.frz):=
    ⟨s2.defers,f,by rw[hc1],_,r1,⟨_,rfl⟩,hst,F2,m2,hx,s2.heap⟩
   rcases x.2 with rfl|rfl<;>exact D
 rcases hu with⟨rfl,rfl⟩|⟨p,rfl,rfl⟩
 have G:recoverD (n::cs)=none:=by simp[recoverD,O]
 rw[G];simp only;exact go .nilIface n .returning (by unfold Rep;rfl) (by cases n;grind) rfl;have G:recoverD (n::cs)=some (Ll (some p),{ n with mode:=.panicking [{ v:=Ll (some p),recovered:=true }] }::cs):=by simp[recoverD,O,DC]
 rw[G];simp only;exact go _ _ (.panicking [{ v:=Ll (some p),recovered:=true }]) (by unfold Rep;rfl) rfl rfl;grind
theorem AHK(L:∀ g,BS P g (E.spec g))(M:FA E)(N:G7 P E){R:Type}{r:R}{v:Exit->St->Option R}{J:List Oper->Code->St->Option R}:∀ (m:Nat) (c:Code) (st:St),Ng P E h R m c st v J=some r ->
  (∃ e st',e≠.normal/\v e st'=some r/\AaQ P 0 c st e st') \/
  (∃ id ops b st',J ops.toList b st'=some r/\wR m c=b/\∀ (w:World) (F:Nat->Prop) (m:Mp) (a:Act) (Q:Exit->Act->World->Prop),SI w F m st a ->
   (∀ i w' j k,SI w' j k st' i->I9 0 w F m st.heap st.frz w' j k st'.heap st'.frz->(Code.seq (.region id ops false) b).wp P Q i w')->c.wp P Q a w):=by
 intro m;induction m with
  |zero=>
   intro c st f;cases c with
    |seq a b=>cases a with
     |region id ops s=>cases s with
      |false=>
       simp only[Ng]at f
       exact .inr ⟨id,ops,b,st,f,rfl,fun w F m a Q l n=>n a w F m l (I9.refl ..)⟩
      |true=>simp[Ng]at f
     |_=>simp[Ng]at f
    |_=>simp[Ng]at f
  |succ m O=>
   intro c st f;cases c with
    |seq a b=>
     simp only[Ng]at f;split at f;rename_i o;have o:=AbZ o;obtain⟨e,p,S,_,x⟩:=DD L M N (np:=0) a 0 (OH a 0 o) R _ _ r f;by_cases K:e = .normal;subst K;rcases O b p S with⟨T,q,y,z,U⟩|⟨id,ops,b',q,y,V,z⟩
     refine .inl ⟨T,q,y,z,fun w F m d Q l n=>wp_seq ?_⟩;refine x w F m d _ l fun i w' j k t u => ?_;exact U w' j k i Q t fun A B C D G H=>n A B C D G (u.trans H);refine .inr ⟨id,ops,b',q,y,V,fun w F m d Q l n=>wp_seq ?_⟩;refine x w F m d _ l fun i w' j k t u => ?_;exact z w' j k i Q t fun A B C D G H=>n A B C D G (u.trans H);have I:v e p=some r:=by grind
     refine .inl ⟨e,p,K,I,fun w F m d Q l n=>wp_seq ?_⟩;refine x w F m d _ l fun i w' j k t u => ?_;have:=n i w' j k t u;cases e<;>first|grind|exact this
     grind
    |_=>simp[Ng]at f
variable {g0:FuncId} {fn:Func} {c:Code}
theorem pX{ops:List Oper}{g:FuncId}{cs:List Operand}{t:Tmp}(h:pY ops=some (g,cs,t)):∃ a b,ops=[a,b]/\a.guard=none/\a.dst=some t/\(∃ d fst,a.op = .makeFunc (.func g) fst d/\fst.toList=[]/\d.toList=cs) /\
  b.guard=none/\b.dst=none/\∃ args ts,b.op = .defer { callee:=.value (.tmp t),args:=args,argTypes:=ts }/\args.toList=[]:=by
 unfold pY at h;split at h;rename_i a b;split at h;rename_i i first f t' j k l
 split at h;rename_i cl m n o;split at h;rename_i p q;split at h;rename_i e;simp only[Aau]at e;simp only[Aas,Aa4]at h;obtain⟨rfl,rfl,rfl⟩:=h;have:=AbZ e.1;subst this;obtain⟨callee,args,ts⟩:=cl;grind;grind;grind;grind;grind;grind
theorem zp{np:Nat}{H:List Ob}{v:AV}(h:(ADx np v&&fY H v)=true):∃ i cs,v = .ptr i 0/\i<np/\H[i]? = some (.box cs):=by rw[Aau]at h;obtain⟨a,b⟩:=h;unfold ADx at a;split at a;rename_i i;refine⟨i,?_⟩;simp only[Aat]at a;simp only[fY,Gn]at b;grind;grind
theorem AKV{np:Nat}{w w':World}{F g:Nat->Prop}{m j:Mp}{H H':List Ob}{fz fz':List Bool}(x:I9 np w F m H fz w' g j H' fz'):∀ {vs:List AV} {us:List Value},(vs.all fun a=>ADx np a&&fY H a)=true->vs.all (fY H')=true->BG w F m H vs us->BG w' g j H' vs us:=by
 intro vs;induction vs with
  |nil=>intro us _ _ h;unfold BG at *;exact h
  |cons v vs o=>
   intro us b d h;simp only[List.all_cons]at b d;rw[Aau]at b d;unfold BG at h |-;obtain⟨u,e,rfl,k,p⟩:=h;refine⟨u,e,rfl,?_,o b.2 d.2 p⟩;obtain⟨i,cs,rfl,hi,l⟩:=zp b.1;have n:=d.1;simp only[fY,Gn]at n;split at n
   ·rename_i q f;unfold Rep H0 at k |-;rw[l]at k;rw[f];rcases x.comp i _ hi l (by simp)with r|⟨_,o',r,s,t,_⟩
    all_goals grind
   grind
theorem ur(hE:∀ g,BS P g (E.spec g))(hL:FA E)(hP:G7 P E)(hf:P.funcs[g0]? = some fn)(hb:fn.body=some c)(hc:I0 P g0)
  {m:Nat} {na:Nat} (hna:na<=fn.ntmps) {its outs:A1} {rs:List RS} {hA hB hC:Hints} {j:A1} {npB:Nat} {f:Bd (leaves its)->Option (Bd (leaves outs))} (hfun:∀ x,f x=Sf P E fn m its outs rs hA hB hC j npB x)
  (hl:∀ [DfI],Bz P npB hB (wR m c) 0):BS P g0 (BT 0 na its outs rs f):=by
 intro R args H fz slot k r J;simp only[BT]at J;split at J;cases J;rename_i x bs fr N;split at J;cases J;rename_i O;simp only[Aau,Aat]at O;obtain⟨⟨⟨l,hbl⟩,hal⟩,hri,hro⟩:=O;split at J;cases J;rename_i y hy;generalize Q:DQ (Db outs) (bs.take 0) slot=ids at J;generalize hgv:given (bs.drop 0)=gv at J;obtain⟨e,h4,he1,he2,h5,hok,hnd,hfl⟩:=Vw J;refine⟨_,e,h4,fun R' k' => ?_,hc,fun w F mm vals hi hr => ?_⟩;simp only[BT,N,l,hbl,hal,hri,hro,hy,Aa6,Aby,Q,hgv];grind;rw[hfun x]at hy;unfold Sf at hy;rw[hb]at hy;simp only at hy;refine calls_of_wp_defers hf hb ?_;obtain⟨F2,m2,gA,invA,hsi⟩:=TJ hi hr hal hna N
 have fin:∀ (w':World) (o:Nat->Prop) (q:Mp) (st':St) (tm:Array Value),SI w' o q st' { tmps:=tm,defers:=[] }->I9 0 w F2 m2 (encode fn.ntmps its x).heap (encode fn.ntmps its x).frz w' o q st'.heap st'.frz->finish 0 P fn outs rs st'=some y ->
   Leaves P fn tm (fun en w'=>∃ u,en = .returned u/\∃ o q,BU w F mm H fz w' o q (C6 e H) (FY e fz)/\Rep w' o q (C6 e H) (single (FG rs (K1 ids (encode (cellsOf rs) outs y).tmps.list))) u) [] .returning w':=by
  intro w' o q st' tm hs x1 hfin
  obtain⟨vs,tm',bs',fr',hvs,htm,hd',hp⟩:=Y0 hfin
  rw[Aau]at hp
  obtain⟨us,r1,r2⟩:=Nd hs hvs
  exact⟨_,r1,_,rfl,fW hi gA invA l hri hro Q hgv he1 he2 hok hnd hfl hs.heap x1 r2 htm hd' hp.1⟩
 rcases AHK hE hL hP m c _ hy with⟨ex,st',L,hke,s⟩|⟨id,ops,b,st',i,hcb,s⟩
 have hex:ex = .ret/\finish 0 P fn outs rs st'=some y:=by grind
 obtain⟨rfl,hke⟩:=hex;refine s w F2 m2 _ _ hsi fun d w' o q S x1 => ?_;show Leaves P fn d.tmps _ d.defers .returning w';rw[show d.defers=[]from S.defers];exact fin w' o q st' d.tmps ⟨S.tmps,S.size,S.heap,rfl⟩ x1 hke;split at i;cases i;rename_i g cs t hdf;split at i;cases i;rename_i fnC hfC;split at i;cases i;rename_i v hv;split at i;cases i;rename_i A;rw[Aau,Aau]at A;obtain⟨⟨htn,hnt⟩,hcap⟩:=A;refine s w F2 m2 _ _ hsi fun d w' o q S x1 => ?_;obtain⟨o0,o1,B,hg0,hd0,⟨a,fst,hop0,hfst,hcs⟩,hg1,hd1,T,ts1,hop1,hargs1⟩:=pX hdf;have U:ops.size=2:=by rw[<- AbH,B];rfl
 have h0:ops[0]? = some o0:=by rw[<- Abw,B];rfl
 have h1:ops[1]? = some o1:=by rw[<- Abw,B];rfl
 have V:fst = #[]:=by grind
 have C:T = #[]:=by grind
 subst V;subst C;subst hcs;have W:(execOp d.eval o0).run P w' = .ok (.value (.func (.func g) #[] (a.map d.eval))) w':=by simp[execOp,hop0,Instr.makeFunc]
 have hcr:BG w' o q st'.heap (a.toList.map (Bc st'.tmps)) (a.map d.eval).toList:=fg (fun x=>Fp S.tmps x) a;have hrc:Rep w' o q st'.heap (.clo g (a.toList.map (Bc st'.tmps))) (.func (.func g) #[] (a.map d.eval)):=by unfold Rep;grind
 have s2:=S.put hrc (some t);obtain⟨F3,m3,s3,x3⟩:=Hs s2 hv;have hev:(d.put (some t) (.func (.func g) #[] (a.map d.eval))).eval (.tmp t) = .func (.func g) #[] (a.map d.eval):=by
  have h1:t<d.tmps.size:=by
   have h2:(st'.put (some t) (.clo g (a.toList.map (Bc st'.tmps)))).tmps.n=fn.ntmps:=by unfold decode at hv;grind
   rw[<- S.size];rw[show st'.tmps.n=fn.ntmps from h2];simp_all
  simp[Act.eval,Act.put,h1]
 have X:(execOp (d.put (some t) (.func (.func g) #[] (a.map d.eval))).eval o1).run P w' = .ok (.defer { target:=.fn (.func g) (a.map d.eval),args:=#[] }) w':=by simp[execOp,hop1,resolve,hev,Deferred.ofValue]
 refine wp_seq (wp_region ?_);rw[U];refine NN h0 hg0 (C3 W ?_);rw[hd0];refine NN h1 hg1 ?_;unfold Oper.wp;rw[X,Oper.upon_defer,hd1];have e0:(d.put (some t) (.func (.func g) #[] (a.map d.eval))).defers=[]:=s2.defers;have s3t:=s3.tmps;have s3s:=s3.size;have s3h:=s3.heap;letI D:DfI:=⟨[{ target:=.fn (.func g) (a.map d.eval),args:=#[] }]⟩
 have s4:@SI D w' F3 m3 (encode fn.ntmps j v) { (d.put (some t) (.func (.func g) #[] (a.map d.eval)))with defers:={ target:=.fn (.func g) (a.map d.eval),args:=#[] }::(d.put (some t) (.func (.func g) #[] (a.map d.eval))).defers }:=
  @SI.mk D _ _ _ _ _ s3t s3s s3h (by rw[e0];rfl)
 obtain⟨ex,M,g1,_,g3⟩:=DD hE hL hP b 0 (hcb▸hl) _ _ _ _ i;have Y:BG w' F3 m3 (encode fn.ntmps j v).heap (a.toList.map (Bc (encode fn.ntmps j v).tmps)) (a.map d.eval).toList:=by
  have h1:a.map d.eval=a.map (d.put (some t) (.func (.func g) #[] (a.map d.eval))).eval:=by
   apply Array.map_congr_left;intro z hz;rw[AbK]at hnt;have:=hnt z (by grind);cases z with
    |tmp t'=>
     have L:t≠t':=by rintro rfl;simp[AaA]at this
     simp[Act.eval,Act.put,Array.getElem?_setIfInBounds_ne L]
    |_=>rfl
  rw[h1];exact fg (fun x=>Fp s3t x) a
 refine g3 w' F3 m3 _ _ s4 fun K w2 F4 m4 s5 x5 => ?_;split at g1;cases g1;rename_i hal2
 have closing:∀ (rv:AV) (u:FrameMode),u≠.run->((u = .returning/\rv = .ifc none)\/∃ p,u = .panicking [DC p]/\rv = .ifc (some p)) ->
   XQ P E hC _ fnC rv (a.toList.map (Bc (encode fn.ntmps j v).tmps)) M.heap M.frz (fun G=>finish 0 P fn outs rs { tmps:=M.tmps,heap:=G.heap,frz:=G.frz })=some y ->
   Leaves P fn K.tmps (fun en w'=>∃ u,en = .returned u/\∃ o q,BU w F mm H fz w' o q (C6 e H) (FY e fz)/\Rep w' o q (C6 e H) (single (FG rs (K1 ids (encode (cellsOf rs) outs y).tmps.list))) u) [{ target:=.fn (.func g) (a.map d.eval),args:=#[] }] u w2:=by
  intro rv u L Z hclo
  obtain⟨G,k1,kc,k2⟩:=AHM hE hL hP hfC hclo
  refine leaves_cons (f:=g) (args:=a.map d.eval) L (by simp[invoke,kc _ w2]) ?_
  have I:=k2 w2 F4 m4 _ u s5.heap (AKV x5 hcap hal2 Y) Z
  rw[Ac0]at I
  refine I.mono fun en u' w3 ⟨⟨v',hen⟩,hset,F5,m5,hgo⟩ => ?_
  subst hen
  show Leaves P fn K.tmps _ [] (settle u') w3
  rw[hset]
  refine fin w3 F5 m5 { tmps:=M.tmps,heap:=G.heap,frz:=G.frz } K.tmps (@SI.mk noDf _ _ _ _ _ (fun t=>hgo.1.rep s5.heap (s5.tmps t)) s5.size hgo.2 rfl) ?_ k1
  exact x1.trans (x3.trans (x5.AaT.trans (hgo.1.toN 0)))
 have hdf2:K.defers=[{ target:=.fn (.func g) (a.map d.eval),args:=#[] }]:=s5.defers;cases ex with
  |normal=>show Leaves P fn K.tmps _ K.defers .returning w2;grind
  |ret=>show Leaves P fn K.tmps _ K.defers .returning w2;grind
  |panic ch=>simp only at g1;split at g1;rename_i p hp;have:=ADP hp;simp only[Exit.panic.injEq]at this;subst this;show Leaves P fn K.tmps _ K.defers (.panicking [DC p]) w2;grind;grind
  |_=>grind
end
theorem DR[DfI]{P:Program}{np:Nat}{h:Hints}:∀ (c:Code) (n:Nat),loops c=0->Bz P np h c n:=by
 intro c;induction c with
  |seq a b e f=>intro n d;simp only[loops]at d;exact⟨e n (by omega),f _ (by omega)⟩
  |cond c a b e f=>intro n d;simp only[loops]at d;exact⟨e n (by omega),f _ (by omega)⟩
  |block id c g=>intro n d;simp only[loops]at d;exact g n d
  |scope c g=>intro n d;simp only[loops]at d;exact g n d
  |loop c g=>intro n d;simp only[loops]at d;omega
  |_=>intro n _;trivial
def YQ[DfI](P:Program)(np:Nat)(h:Hints):List (Nat×Code)->Prop
 |[]=>True
 |p::l=>Fg P np (.loop p.2) (h.loop p.1)/\YQ P np h l
theorem gO[DfI]{P:Program}{np:Nat}{h:Hints}:∀ {a b:List (Nat×Code)},YQ P np h (a++b)->YQ P np h a/\YQ P np h b:=by
 intro a;induction a with
  |nil=>exact fun h=>⟨trivial,h⟩
  |cons p a c=>intro b h;exact⟨⟨h.1,(c h.2).1⟩,(c h.2).2⟩
theorem qd[DfI]{P:Program}{np:Nat}{h:Hints}:∀ (c:Code) (n:Nat),YQ P np h (CD c n)->Bz P np h c n:=by
 intro c;induction c with
  |seq a b e f=>intro n d;have:=gO d;exact⟨e n this.1,f _ this.2⟩
  |cond c a b e f=>intro n d;have:=gO d;exact⟨e n this.1,f _ this.2⟩
  |block id c g=>intro n d;exact g n d
  |scope c g=>intro n d;exact g n d
  |loop c g=>intro n d;exact d.1
  |_=>intro n _;trivial
theorem ZG[DfI]{P:Program}{np:Nat}{h:Hints}{c:Code}{n:Nat}{l:List (Nat×Code)}(e:CD c n=l)(a:YQ P np h l):Bz P np h c n:=qd c n (by grind)
def VE:List (Nat×List (List Nat))->Nat->List (List Nat)
 |[],_=>[]
 |(k,x)::l,n=>match Nat.beq k n with
  |true=>x
  |false=>VE l n
end Go.Pev
end
section
namespace Go.Pev
open Go.RowKit
noncomputable section
def XE:List AV->List AV->Bool
 |[],[]=>true
 |.ptr i o::ps,.ptr j u::qs=>decide (i=j)&&decide (o=u)&&XE ps qs
 |_,_=>false
def zD:Option Ob->Ob->Bool
 |some (.box [.clo f ps]),.box [.clo g qs]=>decide (f=g)&&XE ps qs
 |_,_=>false
def O8(ids:List Nat)(H:List Ob)(e:Eff):Eff:=
 match e.heap.isNone&&Fc (e.objs.map (·.1))with
 |true=>{ e with objs:=e.objs.filter fun p => !(ids.contains p.1&&zD H[p.1]? p.2) }
 |false=>e
def thin(s:Spec):Spec:=fun R args H fz slot k=>s R args H fz slot fun v e=>k v (O8 (B1 args) H e)
theorem jb:∀ {c d:List AV},XE c d=true->c=d
 |[],[],_=>rfl
 |[],_::_,h=>by simp[XE]at h
 |a::c,[],h=>by cases a<;>simp[XE]at h
 |a::c,b::d,h=>by cases a<;>cases b<;>simp only[XE,Aau,Aat,AbB]at h;obtain⟨⟨rfl,rfl⟩,h⟩:=h;rw[jb h]
theorem AGd{o:Option Ob}{o':Ob}(h:zD o o'=true):o=some o':=by unfold zD at h;split at h;simp only[Aau,Aat]at h;rw[h.1,jb h.2];cases h
theorem uk{i:Nat}{l:List Nat}(h:Fc (i::l)=true):i∉l/\Fc l=true:=by simpa [Fc]using h
theorem cG{q:Nat×Ob->Bool}:∀ (l:List (Nat×Ob)) (H:List Ob),Fc (l.map (·.1))=true->(∀ p∈l,q p=false->H[p.1]? = some p.2)->Bq (l.filter q) H=Bq l H:=by
 intro l;induction l with
  |nil=>intros;rfl
  |cons p l d=>
   intro H m h;obtain⟨i,o⟩:=p;obtain⟨n,f⟩:=uk m;rw[Ac6];cases r:q (i,o)with
    |true=>simp only[Abc,Bq];refine d _ f fun p a b => ?_;have c:i≠p.1:=fun e=>n (AbA.2 ⟨p,a,e.symm⟩);rw[Ac1 c];exact h p (Ab3 _ a) b
    |false=>
     have g:=h _ (List.mem_cons_self ..) r;simp only[AbB,AbE,Bq];have e:H.set i o=H:=by apply Abe;intro j;by_cases k:i=j;subst k;rw[Adl (BW g)];exact g.symm;rw[Ac1 k]
     rw[e];exact d _ f fun p a=>h p (Ab3 _ a)
theorem ARy(ids:List Nat)(H:List Ob)(e:Eff):C6 (O8 ids H e) H=C6 e H:=by unfold O8;split;rename_i h;rw[Aau,Option.isNone_iff_eq_none]at h;have b:∀ l,C6 { heap:=e.heap,objs:=l,frz:=e.frz } H=Bq l H:=fun l=>Cx (e:={ heap:=e.heap,objs:=l,frz:=e.frz }) h.1 H;refine(b _).trans (Eq.trans ?_ (Cx h.1 H).symm);refine cG _ _ h.2 fun p _ a => ?_;simp only[Bool.not_eq_false',Aau]at a;exact AGd a.2;rfl
theorem ARz(ids:List Nat)(H:List Ob)(e:Eff)(fz:List Bool):FY (O8 ids H e) fz=FY e fz:=by unfold O8;split<;>rfl
theorem ADW{P:Program}{g:FuncId}{s:Spec}(h:BS P g s):BS P g (thin s):=by intro R args H fz slot k r b;obtain⟨v,e,c,d,f,i⟩:=h R args H fz slot _ r b;refine⟨v,O8 (B1 args) H e,c,fun j n=>d j _,f,fun w F m a hi l => ?_⟩;rw[ARy,ARz];exact i w F m a hi l
theorem r9{ids:List Nat}{H H':List Ob}(h:∀ id∈ids,H[id]? = H'[id]?)(e:Eff):O8 ids H e=O8 ids H' e:=by
 unfold O8;split;congr 1;refine Acb fun p _ => ?_;by_cases a:p.1∈ids;rw[h _ a];have:ids.contains p.1=false:=by simpa using a
 rw[this];rfl;rfl
theorem ADX{s:Spec}(h:G8 s):G8 (thin s):=by
 intro R args H H' fz fz' slot k S b d c;unfold thin;rw[h R args H H' fz fz' slot _ S b d c];have:(fun v e=>k v (O8 (B1 args) H e))=fun v e=>k v (O8 (B1 args) H' e):=by funext v e;rw[r9 (fun id a=>c.heap id (b id a)) e]
 rw[this]
noncomputable def QC(n:Nat):Spec:=fun R args _ _ _ k=>
 match args with
 |[.data (.slice e) xs]=>match decide (e.size=n)with
  |true=>k (.clip e xs) {}
  |false=>none
 |_=>none
structure ld(P:Program)(fn:Func)(T e:TypeId)(n:Nat):Prop where
 body:fn.body=some (.seq (.region 0 #[Ce fn 0 0] false) (.seq (.region 1 #[Ce fn 1 0,Ce fn 1 1,Ce fn 1 2,Ce fn 1 3,Ce fn 1 4,Ce fn 1 5,Ce fn 1 6] false) .ret))
 nt:fn.ntmps=9
 res:fn.results = #[.tmp 2]
 d:(Ce fn 0 0).dst=some 2/\(Ce fn 1 0).dst=some 3/\(Ce fn 1 1).dst=some 4/\(Ce fn 1 2).dst=some 5/\(Ce fn 1 3).dst=some 6/\(Ce fn 1 4).dst=some 7/\(Ce fn 1 5).dst=some 8/\(Ce fn 1 6).dst=some 2
 g:(Ce fn 0 0).guard=none/\(Ce fn 1 0).guard=none/\(Ce fn 1 1).guard=none/\(Ce fn 1 2).guard=none/\(Ce fn 1 3).guard=none/\(Ce fn 1 4).guard=none/\(Ce fn 1 5).guard=none/\(Ce fn 1 6).guard=none
 o00:(Ce fn 0 0).op = .assign (.const (.slice none 0 0))
 o10:(Ce fn 1 0).op = .move (.tmp 0)
 o11:(Ce fn 1 1).op = .move (.tmp 0)
 o12:(Ce fn 1 2).op = .call { callee:=.builtin .len,args:=#[.tmp 4],argTypes:=#[T] }
 o13:(Ce fn 1 3).op = .move (.tmp 0)
 o14:(Ce fn 1 4).op = .call { callee:=.builtin .len,args:=#[.tmp 6],argTypes:=#[T] }
 o15:(Ce fn 1 5).op = .slice T (.tmp 3) none (some (.tmp 5)) (some (.tmp 7))
 o16:(Ce fn 1 6).op = .assign (.tmp 8)
 sl:P.underlying T=some (.slice e)
 sz:CO P e=some n
section
variable {P:Program} {g:FuncId} {fn:Func} {T e:TypeId} {n:Nat}
theorem AVP (hs : ld P fn T e n) (hf : P.funcs[g]? = some fn) (hn : (fn.name == "runtime.NumGoroutine") = false) : BS P g (QC n) := by
 intro R args H fz slot k r hk;unfold QC at hk;split at hk;rename_i t xs;split at hk;rename_i hsz;refine⟨_,_,hk,fun R' k'=>by simp only[QC,hsz],Cj hf (by rw[hs.body];rfl) hn,fun w F m vals hi hr => ?_⟩;simp only[Aat]at hsz;obtain⟨i,hi0,hsz'⟩:=B0 hs.sz;unfold BG at hr;obtain⟨v,vs',rfl,hrv,hnil⟩:=hr;unfold BG at hnil;subst hnil;have hrv:Dat w F (.slice t) xs [v]:=hrv;obtain⟨a,cap,e1,e2,e3⟩:=hrv;simp only[AbR,AdG]at e1;subst e1;refine calls_of_wp hf hs.body ?_;obtain⟨d0,d1,d2,d3,d4,d5,d6,d7⟩:=hs.d;obtain⟨g0,g1,g2,g3,g4,g5,g6,g7⟩:=hs.g;have hres:∀ (tm:Array Value) (w0:World),(results fn tm).run P w0 = .ok (tm.getD 2 undef) w0:=fun tm w0=>by simp[results,hs.res]
 refine wp_seq (wp_region ?_);simp only[Ab9,Aa1,Aa8,AbJ,AdD,AbW];refine DI (by rfl) g0 (C3 (Ii hs.o00) ?_);refine wp_seq (wp_region ?_);simp only[Ab9,Aa1,Aa8,AbJ,AdD,AbW,AbO];refine DI (by rfl) g1 (C3 (Ms hs.o10) ?_);refine DI (by rfl) g2 (C3 (Ms hs.o11) ?_);refine DI (by rfl) g3 (C3 (u:=.int .i64 (List.length (α:=t.den) xs)) (w':=w) (by simp[execOp,hs.o12,resolve,invoke,builtin,Act.eval,Act.put,d0,d1,d2,hs.nt,Cc hs.sl]) ?_);refine DI (by rfl) g4 (C3 (Ms hs.o13) ?_);refine DI (by rfl) g5 (C3 (u:=.int .i64 (List.length (α:=t.den) xs)) (w':=w) (by simp[execOp,hs.o14,resolve,invoke,builtin,Act.eval,Act.put,d0,d1,d2,d3,d4,hs.nt,Cc hs.sl]) ?_);have hrun:=PE (P:=P) (w:=w) (kh:=.i64) (km:=.i64) hs.sl hi0 a (List.length (α:=t.den) xs) cap (l:=0) (h:=(List.length (α:=t.den) xs:Int)) (.inl ⟨rfl,rfl⟩) (by omega) (by omega) (by omega);refine DI (by rfl) g6 (C3 (u:=.slice a (List.length (α:=t.den) xs) (List.length (α:=t.den) xs)) (w':=w) (by simp[execOp,hs.o15,Act.eval,Act.put,d0,d1,d2,d3,d4,d5,hs.nt,hrun];intro _;cases a<;>rfl) ?_)
 refine DI (by rfl) g7 (C3 (Ii hs.o16) ?_);refine wp_ret ?_;refine⟨by simp[Act.put,d0,d1,d2,d3,d4,d5,d6,d7],_,hres _ _,?_⟩;refine⟨_,rfl,F,m,BU.refl hi,?_⟩;have:Rep w F m H (.clip t xs) (.slice a (List.length (α:=t.den) xs) (List.length (α:=t.den) xs)):=by unfold Rep;exact⟨⟨a,_,rfl,Aax _,e3⟩,a,rfl⟩
 show Rep _ _ _ H _ _;simpa [Act.put,Act.eval,d0,d1,d2,d3,d4,d5,d6,d7,hs.nt]using this;grind;grind
theorem QB(n:Nat):H4 (QC n):=fun _ _ _ _ _ _ _ _ _=>rfl
end
abbrev Tab:=Nat->A1×BJ
def E3[Lk](P:Program)(E:Env)(np e:Nat)(d:Tab):Code->Nat->Hints->Hints
 |.seq a b,n,h=>E3 P E np e d a n (E3 P E np e d b (n+loops a) h)
 |.cond _ a b,n,h=>E3 P E np e d a n (E3 P E np e d b (n+loops a) h)
 |.block _ c,n,h=>E3 P E np e d c n h
 |.scope c,n,h=>E3 P E np e d c n h
 |.loop c,n,h=>{ fp:=h.fp,loop:=fun m=>match Nat.beq m n with
   |true=>Gl np e (d n).1 (d n).2 (roundOf P E (E3 P E np e d c (n+1) h) (n+1) np e c (d n).1 (d n).2)
   |false=>(E3 P E np e d c (n+1) h).loop m }
 |_,_,h=>h
theorem eI(P:Program)(E:Env)(np j:Nat)(f:Tab):∀ (c:Code) (n:Nat) (h:Hints) (m:Nat),(m<n\/n+loops c<=m)->(E3 P E np j f c n h).loop m=h.loop m:=by
 intro c;induction c with
  |seq a b g i=>intro n h m d;simp only[E3,loops]at *;grind
  |cond c a b g i=>intro n h m d;simp only[E3,loops]at *;grind
  |block id c e=>intro n h m d;exact e n h m d
  |scope c e=>intro n h m d;exact e n h m d
  |loop c e=>
   intro n h m d;simp only[E3,loops]at *;have:Nat.beq m n=false:=by
    cases k:Nat.beq m n with
     |true=>have:=AbZ k;omega
     |false=>rfl
   grind
  |_=>intro n h m d;rfl
theorem SJ{P:Program}{np:Nat}{h l:Hints}:∀ (c:Code) (n:Nat),(∀ m,n<=m->m<n+loops c->l.loop m=h.loop m)->Bz P np h c n->Bz P np l c n:=by
 intro c;induction c with
  |seq a b f g=>intro n d e;simp only[loops]at d;exact⟨f n (fun m i k=>d m i (by omega)) e.1,g _ (fun m i k=>d m (by omega) (by omega)) e.2⟩
  |cond c a b f g=>intro n d e;simp only[loops]at d;exact⟨f n (fun m i k=>d m i (by omega)) e.1,g _ (fun m i k=>d m (by omega) (by omega)) e.2⟩
  |block id c j=>intro n d e;exact j n d e
  |scope c j=>intro n d e;exact j n d e
  |loop c j=>intro n d e;simp only[loops]at d;unfold Bz at *;grind
  |_=>intro n d e;trivial
theorem AJF{P:Program}{E:Env}(j:BC P E){np i:Nat}{d:Tab}:∀ (c:Code) (n:Nat) (h:Hints),Bz P np (E3 P E np i d c n h) c n:=by
 intro c;induction c with
  |seq a b e f=>intro n h;refine⟨e n _,?_⟩;refine SJ b _ (fun m k l => ?_) (f (n+loops a) h);simp only[E3];exact eI P E np i d a n _ m (by omega)
  |cond c a b e f=>intro n h;refine⟨e n _,?_⟩;refine SJ b _ (fun m k l => ?_) (f (n+loops a) h);simp only[E3];exact eI P E np i d a n _ m (by omega)
  |block id c g=>intro n h;exact g n h
  |scope c g=>intro n h;exact g n h
  |loop c g=>intro n h;unfold Bz;simp only[E3];rw[show Nat.beq n n=true from Nat.beq_refl n];exact IA j (fun _=>rfl) (g (n+1) h)
  |_=>intro n h;trivial
def pG{R:Type}(n:Int)(k:Int->R):R:=match n with
 |.ofNat m=>nf m fun m=>k (.ofNat m)
 |.negSucc m=>nf m fun m=>k (.negSucc m)
def Xs{α:Type}(f:(R:Type)->α->(α->R)->R):List α->(R:Type)->(List α->R)->R
 |[],_,k=>k []
 |x::xs,R,k=>f R x fun x=>Xs f xs R fun xs=>k (x::xs)
def Pu:(t:Ty)->(R:Type)->t.den->(t.den->R)->R
 |.unit,_,_,k=>k ()
 |.bool,_,b,k=>match b with
  |true=>k true
  |false=>k false
 |.int _,_,n,k=>pG n k
 |.slice e,R,xs,k=>Xs (Pu e) xs R k
 |.prod a b,R,d,k=>Pu a R d.1 fun x=>Pu b R d.2 fun y=>k (x,y)
 |.arr _ e,R,xs,k=>Xs (Pu e) xs R k
 |.nul _,_,_,k=>k ()
 |.mapi _ e,R,xs,k=>Xs (fun R (p:Int×e.den) k=>pG p.1 fun i=>Pu e R p.2 fun y=>k (i,y)) xs R k
def BE:(ts:List Ty)->(R:Type)->Bd ts->(Bd ts->R)->R
 |[],_,_,k=>k ()
 |t::ts,R,d,k=>Pu t R d.1 fun x=>BE ts R d.2 fun y=>k (x,y)
theorem kZ{R:Type}(n:Int)(k:Int->R):pG n k=k n:=by cases n<;>simp only[pG,Pb]
theorem Xr{α:Type}{f:(R:Type)->α->(α->R)->R}(a:∀ R x k,f R x k=k x):∀ (xs:List α) (R:Type) (k:List α->R),Xs f xs R k=k xs:=by
 intro xs;induction xs with
  |nil=>intro R k;rfl
  |cons x xs b=>intro R k;simp only[Xs,a,b]
theorem AJa:∀ (t:Ty) (R:Type) (d:t.den) (k:t.den->R),Pu t R d k=k d:=by
 intro t;induction t with
  |unit=>intro R d k;rfl
  |bool=>intro R d k;cases d<;>rfl
  |int j=>intro R d k;exact kZ _ _
  |slice e c=>intro R d k;exact Xr c _ _ _
  |prod a b f g=>intro R d k;simp only[Pu,f,g]
  |arr n e c=>intro R d k;exact Xr c _ _ _
  |nul e=>intro R d k;rfl
  |mapi j e c=>intro R d k;exact Xr (fun R x k=>by simp only[kZ,c]) _ _ _
theorem A5:∀ (ts:List Ty) (R:Type) (d:Bd ts) (k:Bd ts->R),BE ts R d k=k d:=by
 intro ts;induction ts with
  |nil=>intro R d k;rfl
  |cons t ts a=>intro R d k;simp only[BE,AJa,a]
structure Row where
 g:FuncId
 k:Nat:=0
 np:Nat:=0
 na:Nat:=0
 fl:Nat:=0
 clo:Option (Nat×FuncId):=none
 its:A1:=[]
 os:BJ:=[]
 rs:List RS:=[]
 fp:List (Nat×List (List Nat)):=[]
 tab:List (Nat×A1×BJ):=[]
def AP2{α:Type}(d:α):List (Nat×α)->Nat->α
 |[],_=>d
 |p::l,n=>match Nat.beq p.1 n with
  |true=>p.2
  |false=>AP2 d l n
def Row.outs(r:Row):A1:=match r.os with
 |[]=>[]
 |o::_=>o.2
def Row.mark(r:Row)(i:Nat):Bool:=Nat.testBit r.fl i
def Row.hint[Lk](r:Row)(P:Program)(E:Env)(fn:Func):Hints:=
 E3 P E r.np fn.ntmps (AP2 ([],[]) r.tab) (Bu fn) 0 { fp:=AP2 [] r.fp }
def Row.loc(r:Row):Bool:=fG r.its&&(Nat.ble (Db r.outs) 4 && !r.mark 3)
def Row.Hi(r:Row):Bool:=Yq r.its&&Nat.ble (Db r.outs) 4
def Row.call(r:Row)(f:Bd (leaves r.its)->Option (Bd (leaves r.outs))):Spec:=BT r.np r.na r.its r.outs r.rs f
def Row.self[Lk](r:Row)(P:Program)(E:Env)(fn:Func):Bd (leaves r.its)->Option (Bd (leaves r.outs)):=
 Cq r.np P E (r.hint P E fn) fn r.its r.outs r.rs
def Row.put[Lk](r:Row)(E:Env)(s:Spec):Env:=
 match r.clo with
 |none=>E.ext r.g r.loc r.Hi (match r.mark 3 with
  |true=>IW s
  |false=>s)
 |some (i,c)=>E.Xv r.g i c (match r.mark 3 with
  |true=>IW s
  |false=>s)
def Row.okF(r:Row)(fn:Func):Bool:=
 fn.body.isSome && (!(fn.name == "runtime.NumGoroutine") && (Nat.ble r.na fn.ntmps && (match r.k with
  |1=>Nat.beq (loops (Bu fn)) 0
  |_=>true)&&(match r.clo with
  |none=>true
  |some _=>r.Hi)))
theorem Row.AYB{P:Program}{E:Env}{r:Row}(e:BC P E){f:Bd (leaves r.its)->Option (Bd (leaves r.outs))}(j:BS P r.g (r.call f))(k:(match r.clo with
  |none=>true
  |some _=>r.Hi)=true):BC P (r.put E (r.call f)):=by
 have a:r.Hi=true->G8 (match r.mark 3 with
  |true=>IW (r.call f)
  |false=>r.call f):=by
  intro h
  simp only[Row.Hi,Aau]at h
  cases r.mark 3 with
  |true=>exact AR0 h.1 h.2
  |false=>exact CP h.1 h.2
 have b:BS P r.g (match r.mark 3 with
  |true=>IW (r.call f)
  |false=>r.call f):=by
  cases r.mark 3 with
  |true=>exact sD j
  |false=>exact j
 unfold Row.put;split;refine Env.B7 e b (fun h => ?_) a;simp only[Row.loc,Aau]at h;have l:r.mark 3=false:=by grind
 rw[l];exact Nm h.1 h.2.1;rename_i i c d;rw[d]at k;exact Env.Q7 e b (a k)
theorem Row.AGW {P : Program} {E : Env} {r : Row} {fn : Func} (hE : BC P E) (hf : P.funcs[r.g]? = some fn) (hb : fn.body.isSome = true) (hn : (fn.name == "runtime.NumGoroutine") = false) (ha : Nat.ble r.na fn.ntmps = true)
  {f:Bd (leaves r.its)->Option (Bd (leaves r.outs))} (he:∀ x,f x=r.self P E fn x):BS P r.g (r.call f):=
 En hE hf hb hn ha he (AJF hE _ _ _)
variable {P:Program} {E:Env} {r:Row} {fn:Func}
def Row.ev[Lk](r:Row)(E:Env):Env:={ E with keep:=r.mark 0,rows:=r.mark 1,arrs:=r.mark 2 }
def Row.Bh[Lk](r:Row)(E:Env)(f:Bd (leaves r.its)->Option (Bd (leaves r.outs))):Env:=r.put E (r.call f)
theorem Row.BB(r:Row)(b:BC P E)(c:P.funcs[r.g]? = some fn){f d:Bd (leaves r.its)->Option (Bd (leaves r.outs))}(e:∀ x,f x=d x)
  (a:r.okF fn=true:=by kernel_rfl) (hd:∀ x,d x=r.self P (r.ev E) fn x:=by intro _;kernel_rfl):BC P (r.Bh E f):=by simp only[Row.okF,Aau,Ab8]at a;obtain⟨h,i,⟨j,l⟩,k⟩:=a;exact Row.AYB b (Row.AGW (E:=r.ev E) b c h i j fun x=>(e x).trans (hd x)) k
structure Chn(P:Program)where
  e:[Lk]->Env
  h:BC P e
def Chn.g{P:Program}{fn:Func}(c:Chn P)(r:Row)(f:[Lk]->Bd (leaves r.its)->Option (Bd (leaves r.outs)))(i:P.funcs[r.g]? = some fn){d:Bd (leaves r.its)->Option (Bd (leaves r.outs))}(k:∀ x,f x=d x)(a:r.okF fn=true:=by kernel_rfl)(b:∀ x,d x=r.self P (r.ev c.e) fn x:=by intro _;kernel_rfl):Chn P:=⟨r.Bh c.e f,Row.BB r c.h i k a b⟩
structure Ma{α β:Type}(f:α->β)where
 d:α->β
 h:∀ v,f v=d v
end
end Go.Pev
end
section
namespace Go.Pev
open Go.Proofs
noncomputable section
abbrev AT6:Row:=⟨269,0,0,1,0,none,Z',[(.ret,Bg)],A8,[],[]⟩
def AFU[Lk]:Env:=Env.none.ext 269 true true (BT 0 1 Z' Bg A8 AEl)
theorem ADF:BC Tryz.prog AFU:=Row.BB AT6 Env.ATr Tryz.func269 vC
def AKk:=Chn.g ⟨AFU,ADF⟩ ⟨208,0,0,1,0,none,Z',[(.ret,Bg)],A8,[],[]⟩ bitsLen Tryz.func208 fa
def AFY:=Chn.g AKk ⟨299,0,1,1,0,none,AFX,[(.ret,AFW)],A8,[(3,[[],[0],[0],[],[0],[0],[],[],[0],[1]]),(2,[[],[0],[0],[],[0],[0],[],[],[0],[1]]),(1,[[],[0],[0],[],[0],[0],[],[],[0],[1]])],[]⟩ xorNext Tryz.func299 ay
def kC:=Chn.g AFY ⟨298,0,0,1,0,none,Bg,[(.ret,Z')],A8,[],[]⟩ Z7 Tryz.func298 dU
theorem AQX : (Tryz.f67.name == "runtime.NumGoroutine") = false := by kernel_rfl
theorem pz:FE Tryz.prog Tryz.f67 88 161 (.prod (.int .i64) (.prod (.int .i64) (.prod (.slice (.prod (.int .i64) (.prod (.int .i64) .unit))) .unit))) where
 body:=by kernel_rfl
 nt:=by kernel_rfl
 res:=by kernel_rfl
 d:=⟨by kernel_rfl,by kernel_rfl,by kernel_rfl,by kernel_rfl,by kernel_rfl,by kernel_rfl,by kernel_rfl,by kernel_rfl⟩
 g:=⟨by kernel_rfl,by kernel_rfl,by kernel_rfl,by kernel_rfl,by kernel_rfl,by kernel_rfl,by kernel_rfl,by kernel_rfl⟩
 o00:=by kernel_rfl
 o10:=by kernel_rfl
 o11:=by kernel_rfl
 o20:=by kernel_rfl
 o30:=by kernel_rfl
 o31:=by kernel_rfl
 o32:=by kernel_rfl
 o33:=by kernel_rfl
 sl:=by kernel_rfl
 z:=by kernel_rfl
 by1:=by kernel_rfl
def xz[Lk]:Env:=kC.e.ext 67 true true (Di 161 (.prod (.int .i64) (.prod (.int .i64) (.prod (.slice (.prod (.int .i64) (.prod (.int .i64) .unit))) .unit))))
theorem xy:BC Tryz.prog xz:=Env.B7 kC.h (Ku pz Tryz.func67 AQX) (fun _=>Bw _ _) (fun _=>(Bw _ _).ru)
def ALO:=Chn.g ⟨xz,xy⟩ ⟨196,0,0,1,0,none,Bg,[(.ret,BX)],A8,[],[]⟩ SO Tryz.func196 jI
def AZh:=Chn.g ALO ⟨204,0,0,2,0,none,R0,[(.ret,BX)],A8,[],[]⟩ tin Tryz.func204 ALm
def AXk:=Chn.g AZh ⟨305,0,0,3,0,none,ALs,[(.ret,Bg)],A8,[],[]⟩ ALt Tryz.func305 ADY
def ALN:=Chn.g AXk ⟨255,0,0,2,0,none,R0,[(.ret,ALM)],TY,[],[]⟩ mR Tryz.func255 jH
def ARo:=Chn.g ALN ⟨210,0,0,1,0,none,Bg,[(.ret,ARn)],ADT,[],[(0,ALc,ALb)]⟩ ADU Tryz.func210 ry
def AO7:=Chn.g ARo ⟨149,0,0,2,0,none,Pm,[(.ret,Bg)],A8,[],[(0,AI8,J1)]⟩ Xj Tryz.func149 kP
def wM:=Chn.g AO7 ⟨74,0,0,2,0,none,Pm,[(.ret,BX)],A8,[],[]⟩ J9 Tryz.func74 VV
def AYZ:=Chn.g wM ⟨147,0,0,1,0,none,dW,[(.ret,Bg)],A8,[],[(0,ATx,AEX)]⟩ AOd Tryz.func147 AEY
def AUo:=Chn.g AYZ ⟨273,0,0,2,0,none,AUn,[(.ret,Gr)],A8,[],[]⟩ AEn Tryz.func273 vT
def RA:=Chn.g AUo ⟨224,0,0,1,0,none,AKF,[(.ret,Gr)],A8,[],[(0,ACf,ACd),(1,ACe,ACc)]⟩ RB Tryz.func224 fK
theorem AGt:Tryz.f212.body.isSome=true:=by kernel_rfl
theorem AGs : (Tryz.f212.name == "runtime.NumGoroutine") = false := by kernel_rfl
theorem AGr:loops (Bu Tryz.f212)=0:=by kernel_rfl
def ZL[Lk]:Env:=RA.e.ext 212 false false (CJ Tryz.prog RA.e {} Tryz.f212)
theorem gG:BC Tryz.prog ZL:=Env.B7 RA.h (Br RA.h Tryz.func212 AGt AGs AGr) (by simp) (by simp)
def eG:=Chn.g ⟨ZL,gG⟩ ⟨206,0,0,2,0,some (1,212),Po,[(.ret,Bg)],A8,[],[(0,ZW,J1)]⟩ Nx Tryz.func206 Oe
def AYV:=Chn.g eG ⟨213,0,0,1,0,none,dW,[(.ret,BX)],A8,[],[(0,ATo,ATn)]⟩ once Tryz.func213 AER
def TX:=Chn.g AYV ⟨334,0,0,2,0,none,Pm,[(.ret,Gr)],A8,[(1,[[],[],[],[],[],[],[],[0]])],[]⟩ bQ Tryz.func334 jG
theorem AF0:Tryz.f259.body.isSome=true:=by kernel_rfl
theorem AFz : (Tryz.f259.name == "runtime.NumGoroutine") = false := by kernel_rfl
theorem AFy:loops (Bu Tryz.f259)=0:=by kernel_rfl
def ZK[Lk]:Env:=TX.e.ext 259 false false (CJ Tryz.prog TX.e {} Tryz.f259)
theorem fx:BC Tryz.prog ZK:=Env.B7 TX.h (Br TX.h Tryz.func259 AF0 AFz AFy) (by simp) (by simp)
def Xm:=Chn.g ⟨ZK,fx⟩ ⟨258,0,1,2,0,some (1,259),Xl,[(.ret,Xk)],A8,[],[(0,US,UR)]⟩ Kf Tryz.func258 LN
def Ta:=Chn.g Xm ⟨205,0,0,2,0,none,O3,[(.ret,Bg)],A8,[],[]⟩ Wz Tryz.func205 jK
theorem AVq:Tryz.f256.body.isSome=true:=by kernel_rfl
theorem AVp : (Tryz.f256.name == "runtime.NumGoroutine") = false := by kernel_rfl
theorem AVo:loops (Bu Tryz.f256)=0:=by kernel_rfl
def lZ[Lk]:Env:=Ta.e.ext 256 false false (CJ Tryz.prog Ta.e {} Tryz.f256)
theorem rW:BC Tryz.prog lZ:=Env.B7 Ta.h (Br Ta.h Tryz.func256 AVq AVp AVo) (by simp) (by simp)
def AYr:=Chn.g ⟨lZ,rW⟩ ⟨197,0,0,2,0,none,AYq,[(.ret,BX)],A8,[(8,[[],[],[],[],[],[],[],[],[1000003],[],[],[],[],[],[],[],[],[0],[0],[0],[],[0],[0],[0],[2,26],[],[2,26],[2,26]]),(13,[[],[0],[0],[0],[2],[],[],[],[0],[0],[0],[6],[],[0],[0],[0],[4]]),(3,[[],[],[],[],[],[],[],[],[11],[],[],[],[8,10,12]])],[(0,AUu,AUt)]⟩ goes Tryz.func197 AEo
end
end Go.Pev
end
