/- A part of the proofs of this seat: PevCall2 PevCall3 PevCall4 PevTop PevClone GLM1 GLM2 GLM3 PevTake PevPanC PevDefer PevClip PevRaw PevRow GLP1 GLP2 GLP3 GLP4 GLP5 GLP6 GLP7 GLP8. -/
import Derived.Test.YthlfbbnpdfjdiaaGreatDoorP55ab9a1b0f
import Derived.Laws.Sem
import Derived.KernelRfl
import Derived.Lib.SliceRun
import Derived.Recover
import Derived.Test.YthlfbbnpdfjdiaaGreatDoorProg
set_option linter.unusedVariables false
set_option linter.unusedSimpArgs false
set_option linter.unusedSectionVars false
set_option maxRecDepth 100000
section
namespace Go.Pev
open Go.RowKit
noncomputable section
theorem bO{H:List Ob}{fz:List Bool}{i:Nat}{o:Ob}(h:H[i]? = some o)(a:alive o)(b:fz.getD i false=false):owned H fz i:=by
 simp only[owned,Cu];rw[h];cases o with
  |free=>exact a.elim
  |dead=>exact a.elim
  |box cs=>trivial
  |arr T t xs=>exact b
  |map k v c=>trivial
  |prs T t d=>trivial
  |rows T e t xs ver out=>exact b
theorem vb{o:Ob}(h:alive o):o≠.free/\o≠.dead:=by constructor<;>rintro rfl<;>exact h
theorem M_{H:List Ob}{fz:List Bool}{ids:List Nat}{i:Ix}(h:owned H (BJ ids fz) i):owned H fz i:=Qs h
theorem eN{o a:Ob}{ids:List Nat}(h:sameShape o a):sameShape o (Em ids a):=by cases o<;>cases a<;>simp only[sameShape,Em]at *<;>exact h
theorem Wo{i:Nat}:∀ {a:List Bnd},i∈given a↔∃ j:Nat,a[j]? = some (.whole i):=by
 intro a;induction a with
  |nil=>simp[given]
  |cons b a c=>
   have step:(∃ j:Nat,(b::a)[j]? = some (.whole i))↔b = .whole i\/∃ j:Nat,a[j]? = some (.whole i):=by constructor;grind;rintro (h|⟨j,d⟩);exact⟨0,by grind⟩;exact⟨j+1,by grind⟩
   rw[step];cases b with
    |whole id=>simp only[given,AZJ,c,Bnd.whole.injEq];grind
    |none=>simp[given,c]
    |cut id=>simp[given,c]
theorem XR(a b:List (Nat×Ob)):∀ H,Bo (a++b) H=Bo b (Bo a H):=by
 induction a with
  |nil=>intro H;rfl
  |cons p a c=>intro H;obtain⟨i,o⟩:=p;simp only[AZe,Bo];grind
def EO(a:List Nat)(H:List Ob):List Ob:=Bo (a.map fun i=>(i,.dead)) H
theorem bt{a:List Nat}{i:Nat}{H:List Ob}(h:i∉a):(EO a H)[i]? = H[i]? :=
 CW _ _ fun p b=>by grind
theorem AHi:∀ {b:List Nat} {i:Nat} {H:List Ob},i∈b->i<H.length->(EO b H)[i]? = some .dead:=by
 intro b;induction b with
  |nil=>simp
  |cons a b d=>intro i H h e;by_cases c:i∈b;exact d (H:=H.set a .dead) c (by grind);have:(EO b (H.set a .dead))[i]? = (H.set a .dead)[i]? := bt c;rcases AZJ.1 h with rfl|h;show(EO b (H.set i .dead))[i]? = _;grind;grind
theorem bu(a:List Nat)(H:List Ob):(EO a H).length=H.length:=XQ ..
section
variable {w w':World} {F F2 F3 FR:Nat->Prop} {m m3:Mp} {H H1:List Ob} {fz fz1 fzR:List Bool} {bs:List Bnd} {ids fr:List Nat} {np:Nat}
theorem AJe(hiC:HI w F m H fz)(gA:BT w F m H fz w F2 m H (BJ fr fz))
  (O:∀ (j id:Nat),bs[j]? = some (.whole id)->owned H (BJ fr fz) id)
  (inj:∀ (i j id:Nat),bs[i]? = some (.whole id)->bs[j]? = some (.whole id)->i=j)
  (pin:∀ (j id:Nat),(bs.take np)[j]? = some (.whole id)->∃ o d,H[id]? = some o/\alive o/\H1[j]? = some d/\sameShape o d/\m3 j=m id)
  (blk:∀ (j b c:Nat),owned H1 fz1 j->m3 j=some (b,c)->(∃ id c':Nat,(bs.take np)[j]? = some (.whole id)/\m id=some (b,c'))\/(∃ k id c':Nat,np<=k/\bs[k]? = some (.whole id)/\m id=some (b,c'))\/w.heap.size<=b)
  (os:w'.os=w.os) (tape:w'.tape=w.tape) (output:w'.output=w.output) (size:w.heap.size<=w'.heap.size)
  (keep:∀ b,b<w.heap.size->(∀ (j id:Nat) (c:Nat),bs[j]? = some (.whole id)->m id≠some (b,c))->w'.heap[b]? = w.heap[b]?)
  (sub:∀ b,F2 b->F3 b) (bnd:∀ b,F3 b->F2 b\/(∃ (j id c:Nat),bs[j]? = some (.whole id)/\m id=some (b,c))\/w.heap.size<=b)
  (hi1:HI w' F3 m3 H1 fz1) (al1:∀ (j:Nat) (o:Ob),H1[j]? = some o->alive o) (pl1:∀ (j:Nat) (o:Ob),H1[j]? = some o->CH o=true) (fr1:∀ j,fz1.getD j false=false)
  (hlen:ids.length=H1.length) (hok:Gp H fzR ids (bs.take np)=true) (hnd:FW ids=true)
  (hR:(FR=F/\fzR=fz/\H1.all O7=true)\/(FR=F3/\fzR=BJ fr fz)) :
  BT w F m H fz w' FR (mOf ids m3 m) (Bo (ids.zip (H1.map (Em ids))) (EO (given (bs.drop np)) H)) fzR/\vf ids H1 (Bo (ids.zip (H1.map (Em ids))) (EO (given (bs.drop np)) H)) m3 (mOf ids m3 m):=by
 have hiR:∃ FB,HI w FB m H fzR/\(∀ b,F b->FB b)/\(∀ b,FB b->FR b)/\(∀ b,FB b->F2 b):=by
  rcases hR with⟨G,W,_⟩|⟨G,W⟩
  exact⟨F,by grind,fun _ h=>h,fun _ h=>by grind,gA.1.sub⟩;exact⟨F2,by rw[W];exact gA.2,gA.1.sub,fun b h=>by grind,fun _ h=>h⟩
 obtain⟨FB,P,X,U,hB2⟩:=hiR;have ownR:∀ {i},owned H fzR i->owned H fz i:=by
  intro i h;rcases hR with⟨_,W,_⟩|⟨_,W⟩
  grind;rw[W]at h;exact M_ h
 have pinR:∀ {id},owned H (BJ fr fz) id->owned H fzR id:=by
  intro id h;rcases hR with⟨_,W,_⟩|⟨_,W⟩
  rw[W];exact M_ h;grind
 have FR3:∀ b,FR b->F3 b:=by grind
 have tk:∀ {j id:Nat},(bs.take np)[j]? = some (.whole id)->j<np/\bs[j]? = some (.whole id):=by grind
 have tk':∀ {j id:Nat},j<np->bs[j]? = some (.whole id)->(bs.take np)[j]? = some (.whole id):=by grind
 have gvI:∀ {i:Nat},i∈given (bs.drop np)->∃ k,np<=k/\bs[k]? = some (.whole i):=by intro i h;obtain⟨j,f⟩:=Wo.1 h;grind
 have gvO:∀ {i k:Nat},np<=k->bs[k]? = some (.whole i)->i∈given (bs.drop np):=by intro i k hk h;refine Wo.2 ⟨k-np,?_⟩;grind
 have S:∀ {j i:Nat},ids[j]? = some i->(∃ o,H[i]? = some o)/\((bs.take np)[j]? = some (.whole i)\/((∀ (id:Nat),(bs.take np)[j]?≠some (.whole id))/\H[i]? = some .free/\fzR.getD i false=false)):=by
  intro j i f;rcases jR hok f with h|⟨M,N⟩
  grind;obtain⟨h3,h4⟩:=CA N;grind
 have gvN:∀ {i:Nat},i∈ids->i∉given (bs.drop np):=by
  intro i hi g;obtain⟨j,f⟩:=Aaz hi;obtain⟨k,hk,u⟩:=gvI g;rcases(S f).2 with h|⟨_,h,_⟩
  grind;obtain⟨o,M,N,_⟩:=GL (O k i u);grind
 have hunf:∀ {j i:Nat},ids[j]? = some i->∀ {d:Ob},H1[j]? = some d->∀ {T:TypeId} {t:Ty} {xs:List t.den},d = .arr T t xs->fzR.getD i false=false:=by
  intro j i f d a T t xs V;rcases(S f).2 with h|⟨_,_,h⟩
  obtain⟨o,o2,n,_,Y,hs,_⟩:=pin j i h;rw[a]at Y;cases Y;subst V;have N:=pinR (O j i (tk h).2);simp only[owned,Cu]at N;rw[n]at N;cases o<;>simp only[sameShape]at hs;exact N;omega
 have hwhole:∀ {j id:Nat},(bs.take np)[j]? = some (.whole id)->ids[j]? = some id:=by
  intro j id u;obtain⟨o,d,_,_,a,_⟩:=pin j id u;have hl:=BW a;rw[<- hlen]at hl;have g:ids[j]? = some ids[j]:=AZE hl;rcases jR hok g with h|⟨h,_⟩
  all_goals grind
 have hgv:∀ {i:Nat},i∈given (bs.drop np)->(EO (given (bs.drop np)) H)[i]? = some .dead:=by intro i hi;obtain⟨k,_,u⟩:=gvI hi;obtain⟨o,n,_⟩:=GL (O k i u);exact AHi hi (BW n)
 have y:∀ {j i:Nat} {d:Ob},ids[j]? = some i->H1[j]? = some d->(Bo (ids.zip (H1.map (Em ids))) (EO (given (bs.drop np)) H))[i]? = some (Em ids d):=by intro j i d f a;obtain⟨⟨o,n⟩,_⟩:=S f;exact qf ids _ _ j hnd f (by grind) (by rw[bu];grind)
 have Z:∀ {i:Nat},i∉ids->(Bo (ids.zip (H1.map (Em ids))) (EO (given (bs.drop np)) H))[i]? = (EO (given (bs.drop np)) H)[i]? := by intro i hi;exact CW _ _ fun p hp=>by rintro rfl;exact hi (List.of_mem_zip hp).1
 have q:∀ {i:Nat},i∉ids->i∉given (bs.drop np)->(Bo (ids.zip (H1.map (Em ids))) (EO (given (bs.drop np)) H))[i]? = H[i]? := by intro i hi g;rw[Z hi,bt g]
 have getGv:∀ {i:Nat},i∈given (bs.drop np)->(Bo (ids.zip (H1.map (Em ids))) (EO (given (bs.drop np)) H))[i]? = some .dead:=by grind
 have mIn:∀ {j i:Nat},ids[j]? = some i->mOf ids m3 m i=m3 j:=by intro j i f;simp only[mOf];rw[AIY hnd f]
 have A:∀ {x:Ix},x.id∉ids->mOf ids m3 m x=m x:=by
  intro x hi;cases x with
   |r i k=>rfl
   |o i=>
    simp only[mOf];cases hf:Lb ids i with
     |none=>rfl
     |some j=>exact absurd (AY9 (Xw hf)) hi
 have z:∀ i:Nat,(∃ j:Nat,ids[j]? = some i)\/i∈given (bs.drop np)\/(i∉ids/\i∉given (bs.drop np)):=by intro i;by_cases h:i∈ids;obtain⟨j,f⟩:=Aaz h;grind;grind
 have notGv:∀ {i:Ix},i.id∈given (bs.drop np)->¬ owned (Bo (ids.zip (H1.map (Em ids))) (EO (given (bs.drop np)) H)) fzR i:=by intro i g n;obtain⟨o,M,_,h3⟩:=EN n;grind
 have I:∀ {j i:Nat},ids[j]? = some i->∃ d,H1[j]? = some d:=by grind
 have plR:∀ {d:Ob},CH d=true->CH (Em ids d)=true:=by intro d h;cases d<;>first|exact h|rfl
 have cls:∀ x:Ix,owned (Bo (ids.zip (H1.map (Em ids))) (EO (given (bs.drop np)) H)) fzR x->(∃ i j:Nat,∃ d,x = .o i/\ids[j]? = some i/\H1[j]? = some d)\/(x.id∉ids/\x.id∉given (bs.drop np)):=by
  intro x hx;rcases z x.id with⟨j,f⟩|g|h;obtain⟨d,a⟩:=I f;cases x with
   |o i=>exact .inl ⟨i,j,d,rfl,f,a⟩
   |r i k=>exact absurd hx (GJ (y f a) (plR (pl1 j d a)))
  all_goals grind
 have J:∀ {j:Nat} {d:Ob},H1[j]? = some d->owned H1 fz1 j:=fun h=>bO h (al1 _ _ h) (fr1 _);have blkNe:∀ {i b c:Nat},i∉ids->i∉given (bs.drop np)->(∃ o,H[i]? = some o/\o≠.free/\o≠.dead)->m i=some (b,c)->∀ {j id c':Nat},bs[j]? = some (.whole id)->m id≠some (b,c'):=by
  intro i b c hi g ⟨o,n,M,N⟩ K j id c' u V;have hp:=O j id u;have hne:i≠id:=by grind
  exact gA.2.ne hp V n M N K hne rfl
 have Q:DU H (Bo (ids.zip (H1.map (Em ids))) (EO (given (bs.drop np)) H)) m (mOf ids m3 m):=by
  intro i o n hf;rcases z i with⟨j,f⟩|g|⟨hi,g⟩
  rcases(S f).2 with h|⟨_,h,_⟩
  obtain⟨o',d,ho',ha,a,hs,K⟩:=pin j i h;rw[n]at ho';cases ho';exact .inr ⟨(vb ha).2,_,y f a,eN hs,by grind,fun _ _ _=>rfl⟩;grind;grind;rcases DU.refl H m i o n hf with h|⟨hd,o',M,N,_⟩
  grind;exact .inr ⟨hd,o',by grind,N,A (x:=.o i) hi,fun _ _ _=>rfl⟩
 have C:vf ids H1 (Bo (ids.zip (H1.map (Em ids))) (EO (given (bs.drop np)) H)) m3 (mOf ids m3 m):=by intro j o n;grind
 have hkeepF:∀ b,FB b->w'.heap[b]? = w.heap[b]? := by intro b u;refine keep b (P.lt b u) fun j id c f V => ?_;exact gA.2.off id b c (O j id f) V (hB2 b u)
 have R:∀ k,F k->w'.heap[k]? = w.heap[k]? := fun k ha=>hkeepF _ (X _ ha);have D:∀ {i:Ix},i.id∉ids->i.id∉given (bs.drop np)->owned (Bo (ids.zip (H1.map (Em ids))) (EO (given (bs.drop np)) H)) fzR i->owned H fzR i:=by intro i hi g h;exact(Dp (q hi g)).1 h
 have blkNe':∀ {x:Ix} {b c:Nat},x.id∉ids->x.id∉given (bs.drop np)->owned H fzR x->m x=some (b,c)->∀ {j id c':Nat},bs[j]? = some (.whole id)->m id≠some (b,c'):=by
  intro x b c hi g n K j id c' u V;cases x with
   |o i=>exact blkNe hi g (GL n) K u V
   |r i k=>exact gA.2.neX (O j id u) V n.there K (by simp) rfl
 have bOut:∀ {x:Ix} {b c:Nat},x.id∉ids->x.id∉given (bs.drop np)->owned H fzR x->m x=some (b,c)->∀ {j:Nat} {d:Ob} {c':Nat},H1[j]? = some d->m3 j≠some (b,c'):=by intro x b c hi g n K j d c' a V;rcases blk j b c' (J a) V with⟨id,c2,u,hm2⟩|⟨k,id,c2,_,u,hm2⟩|hge;grind;grind;have:=P.KI n K;omega
 refine⟨⟨⟨os,tape,output,size,fun b u hn=>keep b u fun j id c f V => ?_,fun b h=>U b (X b h),?_,?_,Q⟩,⟨?_,?_,?_,?_,?_,?_,?_,hiC.glo.mono R (fun b h=>U b (X b h)),?_⟩⟩,C⟩;grind
 ·-- what is frozen
  intro b u;rcases hR with⟨G,_,_⟩|⟨G,_⟩
  grind;·rw[G]at u;rcases bnd b u with h|⟨j,id,c,M,N⟩|h;exact gA.1.bnd b h;all_goals grind
 intro i b c n K;rcases cls i n with⟨i,j,d,rfl,f,a⟩|⟨hi,g⟩
 rw[mIn f]at K;rcases blk j b c (J a) K with⟨id,c',M,N⟩|⟨k,id,c',_,M,N⟩|h;grind;grind;omega;grind;-- objects
 intro i o n;rcases z i with⟨j,f⟩|g|⟨hi,g⟩
 obtain⟨d,a⟩:=I f;rw[y f a]at n;cases n;rw[mIn f];have L:=hi1.obj j d a;cases d with
  |free=>trivial
  |dead=>trivial
  |box cs=>
   obtain⟨b,c,vs,T,a1,a2,a3,a4⟩:=L;refine⟨b,c,vs,T,a1,a2,BD.ren C cs ?_,a4⟩;rcases hR with⟨G,_,E⟩|⟨G,_⟩
   rw[AZR]at E;exact BD.flat cs (by simpa [O7]using E _ (AY9 a)) a3;grind
  |arr T t xs=>
   rcases hR with⟨G,_,E⟩|⟨G,_⟩
   rw[AZR]at E;have hft:t.flat=true:=by simpa [O7]using E _ (AY9 a)
   obtain⟨h0,M⟩:=L;refine⟨h0,?_⟩;cases hm3:m3 j with
    |none=>grind
    |some p=>obtain⟨b,cap⟩:=p;rw[hm3]at M;obtain⟨vs,row,a1,a2,a3,a4,a5,a6⟩:=M;exact⟨vs,row,a1,a2,a3,a4,B' (fun x _ cs hx=>hx.flat t hft) a5,a6⟩
   rw[G];exact L
  |map k v es=>
   obtain⟨b,c,ms,clock,a1,a2,a3,a4⟩:=L;refine⟨b,c,ms,clock,a1,a2,?_,a4⟩;rcases hR with⟨G,_,E⟩|⟨G,_⟩
   rw[AZR]at E;have hft:k.flat=true/\v.flat=true:=by simpa [O7]using E _ (AY9 a)
   exact AIb hft.1 hft.2 a3;grind
  |prs T tgt is=>
   simp only[Em];cases hm3:m3 j with
    |none=>rw[hm3]at L;exact L
    |some p=>
     obtain⟨b,cap⟩:=p;rw[hm3]at L;obtain⟨vs,us,a1,a2,a3,a4,a5,a6,a7⟩:=L;refine⟨vs,us,a1,a2,a3,a4,?_,a6,a7⟩;rw[<- ALt];refine BD.ren C _ ?_;rcases hR with⟨G,_,E⟩|⟨G,_⟩
     exact BD.flat _ (AIU tgt is) a5;grind
  |rows T e t xs ver out=>exact absurd (pl1 j _ a) (by simp[CH])
 rw[getGv g]at n;cases n;trivial;rw[q hi g]at n;rw[A (x:=.o i) hi];refine ObI.mono R (fun b h=>U b (X b h)) Q (fun M N b c K hlt=>keep b hlt fun j id c' f=>blkNe hi g ⟨o,n,M,N⟩ K f) (hiC.obj i o n);-- rows
 intro i;rcases z i with⟨j,f⟩|g|⟨hi,g⟩
 obtain⟨d,a⟩:=I f;exact C_.plain (y f a) (plR (pl1 j d a));exact C_.plain (getGv g) rfl
 refine C_.mono R (fun b h=>U b (X b h)) Q (q hi g) (fun x hx=>A (by grind))
  (fun x hx hox b c K hlt=>keep b hlt fun j id c' f V => ?_) (hiC.row i)
 refine gA.2.neX (O j id f) V hox K ?_ rfl;grind;intro i T e t xs ver out B hf x hx ht b c K;rcases z i with⟨j,f⟩|g|⟨hi,g⟩
 obtain⟨d,a⟩:=I f;rw[y f a]at B;have:=plR (pl1 j d a);rw[Option.some.inj B]at this;cases this;grind;rw[A (x:=x) (by grind)]at K;have M:=q hi g;exact U b (P.rfz i T e t xs ver out (M▸B) hf x hx ((Dl (by grind)).1 ht) b c K);-- apart
 intro i j b c b' c' hoi hoj hij s hmj;rcases cls i hoi with⟨i,k,d,rfl,hk,a⟩|⟨hi,hgi⟩
 rw[mIn hk]at s;rcases cls j hoj with⟨j,l,o2,rfl,hl,Y⟩|⟨f,hgj⟩
 rw[mIn hl]at hmj;have hkl:k≠l:=by grind
 exact hi1.sep k l b c b' c' (J a) (J Y) (ASt hkl) s hmj;grind;rw[A hi]at s;rcases cls j hoj with⟨j,l,o2,rfl,hl,Y⟩|⟨f,hgj⟩
 grind;rw[A f]at hmj;exact P.sep i j b c b' c' (D hi hgi hoi) (D f hgj hoj) hij s hmj;-- none of them frozen
 intro i b c hoi s u;rcases cls i hoi with⟨i,k,d,rfl,hk,a⟩|⟨hi,g⟩
 rw[mIn hk]at s;exact hi1.off k b c (J a) s (FR3 b u);rw[A hi]at s;have n:=D hi g hoi;rcases hR with⟨G,W,_⟩|⟨G,W⟩
 rw[G]at u;exact hiC.off i b c (ownR n) s u;rw[G]at u;rcases bnd b u with h|⟨j,id,c',M,N⟩|h;rw[W]at n;exact gA.2.off i b c n s h;grind;have:=P.KI n s;omega;intro i T t xs b c B hf s;rcases z i with⟨k,hk⟩|g|⟨hi,g⟩
 obtain⟨d,a⟩:=I hk;rw[y hk a]at B;have:d = .arr T t xs:=by cases d<;>simp only[Em,AY1]at B<;>first|exact B|cases B
 grind;grind;rw[q hi g]at B;rw[A (x:=.o i) hi]at s;exact U b (P.froz i T t xs b c B hf s);intro b u;exact hi1.lt b (FR3 b u);rw[XQ,bu];exact P.len
end
section
variable [DfI] {P:Program} {w:World} {F:Nat->Prop} {m:Mp} {st:St} {a:Act}
def l8(b:Array Value):ResultVar->Sem Value
 |.tmp t=>pure (b.getD t undef)
 |.cell x t=>do loadVar t (<- asAddr (b.getD x undef))
theorem rK(e:SI w F m st a){g:ResultVar}{v:AV}(h:Sv P st g=some v):
  ∃ u,(l8 a.tmps g).run P w = .ok u w/\Rep w F m st.heap v u:=by
 cases g with
  |tmp t=>simp only[Sv,AY1]at h;subst h;exact⟨_,rfl,e.tmps t⟩
  |cell x T=>
   simp only[Sv]at h;split at h;rename_i id off n ag o p q;split at h;rename_i cs k;have d:=e.tmps x;have r:st.tmps.f x = .ptr id off:=o;rw[r]at d;unfold Rep Hl at d;rw[k]at d;obtain⟨b,c,s,y⟩:=d;obtain⟨b',c',vs,E,l,z,A,B⟩:=e.heap.obj id _ k;rw[s]at l;cases l;obtain⟨u,C,D⟩:=D4 (P:=P) p q h (GY A off) (ad:=⟨b,off,none⟩) (fun u i=>B u (Aav i)) (fun j u i=>by rw[Abn]at i;rw[DJ];simp only[World.cell?,z];grind)
   refine⟨u,?_,D⟩;simp[l8,y,asAddr,C];grind;grind
theorem l7(d:SI w F m st a):∀ {b:List ResultVar} {vs:List AV},Ed P st b=some vs ->
  ∃ us,(b.mapM (l8 a.tmps)).run P w = .ok us w/\BD w F m st.heap vs us:=by
 intro b;induction b with
  |nil=>intro vs h;simp only[Ed,AY1]at h;subst h;exact⟨[],by simp,Mm⟩
  |cons i b e=>intro vs h;simp only[Ed]at h;split at h;cases h;rename_i v f;split at h;cases h;rename_i g c;simp only[AY1]at h;subst h;obtain⟨u,j,k⟩:=rK d f;obtain⟨us,l,n⟩:=e c;refine⟨u::us,?_,by unfold BD;grind⟩;simp_all
def nC(us:List Value):Value:=if h:us.toArray.size=1 then us.toArray[0]else .tuple us.toArray
theorem M6(b:SI w F m st a){fn:Func}{vs:List AV}(h:Ed P st fn.results.toList=some vs):
  ∃ us,(results fn a.tmps).run P w = .ok (nC us) w/\BD w F m st.heap vs us:=by
 obtain⟨us,c,d⟩:=l7 b h;refine⟨us,?_,d⟩
 have e:results fn a.tmps=(do
   let vs <- fn.results.mapM (l8 a.tmps)
   pure (if h:vs.size=1 then vs[0]else .tuple vs)):=by
  unfold results
  congr 2
 rw[e,Abi];simp only[Sem.run_bind,map_eq_pure_bind];rw[c];rfl
theorem iG{H:List Ob}{vs:List AV}{us:List Value}(h:BD w F m H vs us):Rep w F m H (single vs) (nC us):=by
 have b:=Bd h;unfold nC;match vs,us,b with
 |[],[],_=>
  simp only[single]
  unfold Rep
  simp_all
 |[v],[u],_=>
  simp only[single]
  unfold BD at h
  grind
 |v::v'::vs,u::u'::us,_=>
  simp only[single]
  unfold Rep
  simp_all
def LD:List RS->List Value->List Value
 |.one::r,u::us=>u::LD r us
 |.agg _::r,u::us=>u.cells.toList++LD r us
 |_,_=>[]
theorem xh{H:List Ob}:∀ {rs:List RS} {vs:List AV} {us:List Value} {z:List AV},Gs rs vs=some z->BD w F m H vs us ->
  BD w F m H z (LD rs us)/\(LD rs us).length=cellsOf rs/\∀ (i:World) (j:Nat->Prop) (k:Mp) (o:List Ob) (g:List AV),BD i j k o g (LD rs us)->BD i j k o (FD rs g) us:=by
 intro rs;induction rs with
  |nil=>
   intro vs us z h c;cases vs with
    |nil=>simp only[Gs,AY1]at h;subst h;unfold BD at c;subst c;exact⟨Mm,rfl,fun _ _ _ _ _ _=>Mm⟩
    |cons v vs=>simp[Gs]at h
  |cons r rs E=>
   intro vs us z h c;cases vs with
    |nil=>cases r<;>simp[Gs]at h
    |cons v vs=>
     unfold BD at c;obtain⟨u,A,rfl,f,c⟩:=c;cases r with
      |one=>
       simp only[Gs]at h;split at h;rename_i l B;simp only[AY1]at h;subst h;obtain⟨G,C,I⟩:=E B c;refine⟨by simp only[LD];unfold BD;grind,by simp[LD,cellsOf,RS.cells,C];omega,fun i j k o g b => ?_⟩;simp only[LD]at b;cases g with
        |nil=>unfold BD at b;cases b
        |cons x g=>unfold BD at b;obtain⟨y,ys,e,M,N⟩:=b;cases e;simp only[FD,Abk,Aar];unfold BD;grind
       grind
      |agg n=>
       simp only[Gs]at h;split at h;rename_i cs p q;split at h;rename_i K;simp only[AY2]at K;split at h;rename_i l B;simp only[AY1]at h;subst h;obtain⟨G,C,I⟩:=E B c;have J:=cells?_ok q f;have O:=cells?_one q f;have D:=Bd J;have Q:u = .agg u.cells:=by
        cases v<;>simp only[Q5]at p<;>try grind
        rename_i t d;unfold Rep Cm at f;rw[AZA p]at f;obtain⟨x,rfl,_⟩:=f;rfl;unfold Rep at f;obtain⟨x,rfl,_⟩:=f;rfl
       refine⟨by simp only[LD];exact Ii J G,by simp[LD,cellsOf,RS.cells,C]at D |-;omega,fun i j k o g b => ?_⟩;simp only[LD]at b;have L:=QR b n;have hd:=GY b n;have s:u.cells.toList.length=n:=by omega
       rw[List.take_left' s]at L;rw[List.drop_left' s]at hd;simp only[FD];unfold BD;refine⟨u,A,rfl,?_,I i j k o _ hd⟩;unfold Rep;grind;grind;grind;grind
end
theorem Cj {P : Program} {g : FuncId} {fn : Func} (hf : P.funcs[g]? = some fn) (hb : fn.body.isSome = true) (hn : (fn.name == "runtime.NumGoroutine") = false) : Ip P g := by
 intro args w;obtain⟨c,hc⟩:=AaJ.1 hb;have hn' : ¬ fn.name = "runtime.NumGoroutine" := by grind
 simp[callFunc,hf,hn',hc]
theorem Nh{P:Program}{np:Nat}{h:Hints}:∀ (c:Code) (n:Nat),loops c=0->B0 P np h c n:=by
 intro c;induction c with
  |seq a b e f=>intro n d;simp only[loops]at d;exact⟨e n (by omega),f _ (by omega)⟩
  |cond c a b e f=>intro n d;simp only[loops]at d;exact⟨e n (by omega),f _ (by omega)⟩
  |block id c g=>intro n d;simp only[loops]at d;exact g n d
  |scope c g=>intro n d;simp only[loops]at d;exact g n d
  |loop c g=>intro n d;simp only[loops]at d;omega
  |_=>intro n _;trivial
section
variable {P:Program} {E:Env} {h:Hints} {g:FuncId} {fn:Func} {c:Code}
theorem lN{w:World}{F:Nat->Prop}{m:Mp}{H:List Ob}{args:List AV}{a:List Value}(d:BD w F m H args a)(n:Nat)(t:Nat):
  Rep w F m H (args.getD t .DG) ((a.toArray++Array.replicate n undef).getD t undef):=by
 have j:=Bd d;have e:(a.toArray++Array.replicate n undef).getD t undef=(a++List.replicate n undef).getD t undef:=by rw[AZg,AZK,<- AaE];simp
 rw[e,AZK,AZK];rcases Aa7 t args.length with b|b;rw[Aau (by omega)];obtain⟨v,k,f⟩:=Dc d (i:=t) (c:=args[t]) (AZE b);grind;rw[AaV b];exact(by unfold Rep;trivial:Rep w F m H .DG _)
theorem tI(I:∀ g,BS P g (E.spec g))(J:E_ E)(K:G6 P E)(q:P.funcs[g]? = some fn)(s:fn.body=some c)(L:Ip P g)(M:loops c=0):
  BS P g (CE P E h fn):=by
 intro R args H fz slot k r p;simp only[CE,s]at p;split at p;cases p;rename_i f;simp only[AY2]at f;obtain⟨e,st',V,W,N⟩:=DZ I J K (np:=H.length) c 0 (Nh c 0 M) R _ _ r p;have x:∃ vs,Ed P st' fn.results.toList=some vs/\k (single vs) { heap:=some (st'.heap,st'.frz) }=some r/\(e = .normal\/e = .ret):=by grind
 obtain⟨vs,y,O,Q⟩:=x;refine⟨_,_,O,fun X Y => ?_,L,fun w F m b hi C => ?_⟩;simp only[CE,s,f,AZD];grind;have j:=Bd C;refine calls_of_wp q s ?_;have z:SI w F m { tmps:=.of args fn.ntmps,heap:=H,frz:=fz } { tmps:=b.toArray++Array.replicate (fn.ntmps-b.toArray.size) undef,defers:=[] }:=by refine⟨fun t => ?_,?_,hi,rfl⟩;have:=lN C (fn.ntmps-args.length) t;simp only[AaT,j];exact this;simp[j,Tm.of];omega
 refine N w F m _ _ z fun D w' l n A a => ?_;obtain⟨us,S,T⟩:=M6 A y;have B:BT w F m H fz w' l n st'.heap st'.frz:=⟨⟨a.os,a.tape,a.output,a.size,a.keep,a.sub,a.bnd,a.own,fun i o G q=>a.comp i o (BW G) G q⟩,A.heap⟩
 have d:D.defers=[]/\∃ v,(results fn D.tmps).run P w' = .ok v w'/\(fun(U:Ending) (w':World)=>∃ u,U = .returned u/\∃ l n,BT w F m H fz w' l n (C9 { heap:=some (st'.heap,st'.frz) } H) (FT { heap:=some (st'.heap,st'.frz) } fz)/\Rep w' l n (C9 { heap:=some (st'.heap,st'.frz) } H) (single vs) u) (.returned v) w':=
  ⟨A.defers,_,S,_,rfl,l,n,B,iG T⟩
 rcases Q with rfl|rfl<;>exact d
theorem jz{w:World}{F:Nat->Prop}{m:Mp}{H:List Ob}{fz:List Bool}{i:List Bnd}{s:Mp}{E:St}{val:Nat->Value}(h:Inv w F m H fz i s E val){j:Nat}{o:Ob}(l:E.heap[j]? = some o):alive o:=by
 have f:=BW l;rw[h.lenH]at f;have u:i[j]? = some i[j]:=AZE f;have a:=h.ob j _ u;cases p:i[j]with
  |none=>rw[p]at a;simp only[CC]at a;obtain⟨_,⟨T,e,q,_⟩|⟨T,e,q⟩⟩:=a<;>(rw[l]at q;cases q;trivial)
  |whole id=>rw[p]at a;simp only[CC]at a;rcases a.2 with⟨T,t,xs,_,d,_⟩|⟨k,v,y,_,d⟩|⟨cs,x,b,c,vs,T,_,d,_⟩|⟨_,_,_,_,_,d,_⟩|⟨_,_,_,_,_,_,d,_⟩<;>(rw[l]at d;cases d;trivial)
  |cut id=>rw[p]at a;simp only[CC]at a;obtain⟨T,t,xs,n,_,_,r,_⟩:=a;rw[l]at r;cases r;trivial
theorem GG{st:St}(h:st.heap.all CH=true)(v:AV)(l:Loc):(place st v l).heap.all CH=true:=by
 cases l with
  |cell j c=>simp only[place];split;rw[AZR]at h |-;intro o a;rcases List.mem_or_eq_of_mem_set a with b|rfl;grind;rfl;omega
  |_=>exact h
theorem L7{st:St}(h:st.heap.all CH=true){o:Ob}(a:CH o=true):(E9 st o).heap.all CH=true:=by simp[E9,h,a]
theorem AFm:∀ (a:A1) (d:Bf (leaves a)) (st:St),HT a=true->st.heap.all CH=true->(enc a d st).heap.all CH=true:=by
 intro a;induction a with
  |nil=>intro d st _ h;exact h
  |cons p r f=>
   intro d st b h;obtain⟨l,c⟩:=p;cases c with
    |rows T e t=>simp[HT]at b
    |mrows j e t=>simp[HT]at b
    |aptr T e n=>exact f _ _ b (GG (L7 h rfl) _ _)
    |own T e=>exact f _ _ b (GG (L7 h rfl) _ _)
    |box n=>exact f _ _ b (GG (L7 h rfl) _ _)
    |map k v=>exact f _ _ b (GG (L7 h rfl) _ _)
    |prs T j=>exact f _ _ b (GG (L7 h rfl) _ _)
    |_=>exact f _ _ b (GG h _ _)
theorem Py{a:A1}{d:Bf (leaves a)}{n:Nat}(b:HT a=true){j:Nat}{o:Ob}(h:(encode n a d).heap[j]? = some o):CH o=true:=
 AZR.1 (AFm a d (blank n) b rfl) o (AY9 h)
theorem rZ{a:A1}{d:Bf (leaves a)}{n:Nat}(e:HT a=true){fz:List Bool}{x:Ix}(h:owned (encode n a d).heap fz x):x = .o x.id:=by
 cases x with
  |o i=>rfl
  |r i k=>obtain⟨o,b,_⟩:=EN h;exact absurd h (GJ b (Py e b))
theorem Xv{np:Nat}{outs:A1}{rs:List RS}{st:St}{y:Bf (leaves outs)}(h:finish np P fn outs rs st=some y):
  ∃ vs a b d,Ed P st fn.results.toList=some vs/\Gs rs vs=some a/\dec (lk a) st.heap outs st.frz []=some (y,b,d)/\(pins np 0 b&&(st.heap.take np).all CH)=true:=by unfold finish at h;grind
theorem UH{R:Type}{r:R}{l:List Nat}{m:List Bnd}{n:List Nat}{rs:List RS}{X:St}{ids:List Nat}{H:List Ob}{fz:List Bool}{k:AV->Eff->Option R}(d:Kh R l m n rs X ids H fz k=some r):
  ∃ e,k (single (FD rs (Km ids X.tmps.list))) e=some r/\e.heap=none/\e.objs=l.map (fun i=>(i,.dead))++ids.zip (X.heap.map (Em ids)) /\
   (∀ f (j:AV->Eff->Option f),Kh f l m n rs X ids H fz j=j (single (FD rs (Km ids X.tmps.list))) e) /\
   Gp H (BJ e.frz fz) ids m=true/\FW ids=true /\
   ((e.frz=[]/\LF X.tmps.list=true/\X.heap.all O7=true)\/e.frz=n):=by unfold Kh at d;split at d;rename_i a;split at d;rename_i b;simp only[AY3]at b a;refine⟨_,d,rfl,rfl,fun f j=>by simp only[Kh,a.1,a.2,b.1,b.2,AaC],b.1,b.2,.inl ⟨rfl,a.1,a.2⟩⟩;grind;rename_i a;split at d;rename_i b;simp only[AY3]at b;refine⟨_,d,rfl,rfl,fun f j=>by simp only[Kh,a,b.1,b.2,AaC],b.1,b.2,.inr rfl⟩;grind
theorem R9{w:World}{F:Nat->Prop}{m:Mp}{H:List Ob}{fz:List Bool}{args:List AV}{a:List Value}{n:Nat}{b:A1}{x:Bf (leaves b)}{k:List Bnd}{j:List Nat}(hi:HI w F m H fz)(o:BD w F m H args a)(q:args.length=n)(r:n<=fn.ntmps)(f:dec (lk args) H b fz []=some (x,k,j)):
  ∃ e i,BT w F m H fz w e m H (BJ j fz)/\Inv w e m H (BJ j fz) k i (encode fn.ntmps b x) (fun t=>(a.toArray++Array.replicate (fn.ntmps-a.toArray.size) undef).getD t undef) /\
   SI w e i (encode fn.ntmps b x) { tmps:=a.toArray++Array.replicate (fn.ntmps-a.toArray.size) undef,defers:=[] }:=by
 have s:=Bd o
 obtain⟨e,i,p,d,_⟩:=AA8 (val:=fun t=>(a.toArray++Array.replicate (fn.ntmps-a.toArray.size) undef).getD t undef) b fz [] F (fun _=>none) (blank fn.ntmps) x k j hi
  (fun t v u=>by
   have:=lN o (fn.ntmps-a.toArray.size) t
   rw[AZK,show args[t]? = some v from u]at this
   grind) (Inv.blank fn.ntmps) f
 have l:SI w e i (encode fn.ntmps b x) { tmps:=a.toArray++Array.replicate (fn.ntmps-a.toArray.size) undef,defers:=[] }:=by refine⟨d.tmps,?_,d.hi p.2,rfl⟩;rw[PA];grind
 exact⟨e,i,p,d,l⟩
theorem dL{w:World}{F:Nat->Prop}{m:Mp}{H:List Ob}{fz:List Bool}{val:Nat->Value}{np n:Nat}{f outs:A1}{rs:List RS}{x:Bf (leaves f)}{y:Bf (leaves outs)}{p C:List Bnd}{Q S:List Nat}{F2:Nat->Prop}{U:Mp}{slot:Nat}{e:Eff}{ids gv:List Nat}
  (hi:HI w F m H fz) (gA:BT w F m H fz w F2 m H (BJ Q fz)) (s:Inv w F2 m H (BJ Q fz) p U (encode n f x) val)
  (r:p.all Bnd.ABz=true) (M:HT f=true) (V:HT outs=true) (W:Df (Dw outs) (p.take np) slot=ids) (hgv:given (p.drop np)=gv)
  (X:e.heap=none) (he2:e.objs=gv.map (fun i=>(i,.dead))++ids.zip ((encode (cellsOf rs) outs y).heap.map (Em ids))) (hok:Gp H (BJ e.frz fz) ids (p.take np)=true) (hnd:FW ids=true)
  (hfl:(e.frz=[]/\LF (encode (cellsOf rs) outs y).tmps.list=true/\(encode (cellsOf rs) outs y).heap.all O7=true)\/e.frz=Q)
  {w':World} {N:Nat->Prop} {R:Mp} {st':St} (s1h:HI w' N R st'.heap st'.frz) (A:I3 np w F2 U (encode n f x).heap (encode n f x).frz w' N R st'.heap st'.frz)
  {vs:List AV} {us:List Value} {tm:List AV} (r2:BD w' N R st'.heap vs us) (htm:Gs rs vs=some tm) (hd':dec (lk tm) st'.heap outs st'.frz []=some (y,C,S)) (hp:pins np 0 C=true) :
  ∃ N R,BT w F m H fz w' N R (C9 e H) (FT e fz)/\Rep w' N R (C9 e H) (single (FD rs (Km ids (encode (cellsOf rs) outs y).tmps.list))) (nC us):=by
 obtain⟨q1,q2,q3⟩:=xh htm r2
 obtain⟨F3,Y,gC,d,_⟩:=AA8 (val:=fun t=>(LD rs us).getD t undef) outs st'.frz [] N (fun _=>none) (blank (cellsOf rs)) y C S s1h
  (fun t v ht=>by
   obtain⟨u,hu,hru⟩:=Dc q1 ht
   grind) (Inv.blank (cellsOf rs)) hd'
 have Z:∀ {j:Ix} {b c},owned (encode n f x).heap (encode n f x).frz j->U j=some (b,c)->∃ id:Nat,p[j.id]? = some (.whole id)/\owned H (BJ Q fz) id/\m id=some (b,c):=by
  intro j b c B D;have G:=rZ M B;obtain⟨y,id,k1,k2,k3,k4⟩:=s.src B D;rw[G]at k3 k4;rw[AZR]at r;have:=r y (AY9 k1);cases y with
   |none=>simp[Bnd.id?]at k2
   |whole i=>simp only[Bnd.id?,AY1]at k2;subst k2;exact⟨_,k1,k3,k4⟩
   |cut i=>simp[Bnd.ABz]at this
 have hinj:∀ (i j id:Nat),p[i]? = some (.whole id)->p[j]? = some (.whole id)->i=j:=fun i j id h1 h2=>s.inj i j _ _ id h1 h2 rfl rfl;have z:∀ (j id:Nat),p[j]? = some (.whole id)->U j=m id/\∃ o o0,H[id]? = some o/\alive o/\(encode n f x).heap[j]? = some o0/\sameShape o o0/\alive o0/\owned H (BJ Q fz) id:=by
  intro j id G;have hA:=s.ob j _ G;simp only[CC]at hA;obtain⟨eA,hA⟩:=hA;refine⟨eA,?_⟩;rcases hA with⟨T,t,xs,q,l,a3⟩|⟨k,v,es,q,l⟩|⟨cs,cs',b,cc,vs,T,q,l,_⟩|⟨_,_,_,_,q,l,_⟩|⟨_,_,_,_,_,_,l,_⟩
  exact⟨_,_,q,trivial,l,⟨rfl,rfl⟩,trivial,bO q trivial a3⟩;exact⟨_,_,q,trivial,l,trivial,trivial,by simp only[owned,Cu];grind⟩;rotate_left;exact⟨_,_,q,trivial,l,rfl,trivial,by simp only[owned,Cu];grind⟩;exact absurd (Py M l) (by simp[CH]);exact⟨_,_,q,trivial,l,trivial,trivial,by simp only[owned,Cu];grind⟩
 have J:∀ (j id:Nat),(p.take np)[j]? = some (.whole id)->∃ o K,H[id]? = some o/\alive o/\(encode (cellsOf rs) outs y).heap[j]? = some K/\sameShape o K/\Y j=m id:=by
  intro j id I;rw[AbJ]at I;split at I;case isFalse=>cases I
  rename_i hjn;obtain⟨eA,o,o0,s1,s2,s3,s4,s5,s6⟩:=z j id I;have hC:=d.ob j _ (by have:=re _ 0 C hp j hjn;rw[AZ3]at this;exact this);simp only[CC]at hC;obtain⟨eC,hC⟩:=hC;have mid:=A.comp j o0 hjn s3 (vb s5).1;have fin:∃ o2 K,st'.heap[j]? = some o2/\alive o2/\(encode (cellsOf rs) outs y).heap[j]? = some K/\sameShape o2 K:=by
   rcases hC with⟨T,t,xs,q,l,a3⟩|⟨k,v,es,q,l⟩|⟨cs,cs',b,cc,vs,T,q,l,_⟩|⟨_,_,_,_,q,l,_⟩|⟨_,_,_,_,_,_,l,_⟩
   exact⟨_,_,q,trivial,l,⟨rfl,rfl⟩⟩;exact⟨_,_,q,trivial,l,trivial⟩;rotate_left;exact⟨_,_,q,trivial,l,rfl⟩;exact absurd (Py V l) (by simp[CH]);exact⟨_,_,q,trivial,l,trivial⟩
  obtain⟨o2,K,t1,t2,t3,t4⟩:=fin;rcases mid with md|⟨_,o2',md1,md2,md3,_⟩
  grind;rw[t1]at md1;cases md1;exact⟨o,K,s1,s2,t3,(s4.trans md2).trans t4,by grind⟩
 have L:=d.hi gC.2;have hblk:∀ j b cc:Nat,owned (encode (cellsOf rs) outs y).heap (encode (cellsOf rs) outs y).frz j->Y j=some (b,cc)->(∃ id c':Nat,(p.take np)[j]? = some (.whole id)/\m id=some (b,c'))\/(∃ k id c':Nat,np<=k/\p[k]? = some (.whole id)/\m id=some (b,c'))\/w.heap.size<=b:=by
  intro j b cc B D;obtain⟨_,i',k1,k2,k3,k4⟩:=d.src B D;rcases A.own i' b cc (M_ k3) k4 with⟨i,c0,l1,l2⟩|h;obtain⟨id,n1,n2,n3⟩:=Z l1 l2;have hio:=rZ M l1;generalize i.id=i0 at n1 hio;subst hio;rcases Aa7 i0 np with hin|hin;left;have n1':(p.take np)[i0]? = some (.whole id):=by grind
  obtain⟨o,K,p1,p2,p3,p4,p5⟩:=J i0 id n1';have hoi:owned (encode (cellsOf rs) outs y).heap (encode (cellsOf rs) outs y).frz i0:=bO p3 (jz d p3) (d.frz i0);by_cases hij:j=i0;grind;exact absurd rfl (L.sep j i0 b cc b c0 B hoi (ASt hij) D (by grind));grind;omega
 have O:∀ b,b<w.heap.size->(∀ (j id:Nat) (c:Nat),p[j]? = some (.whole id)->m id≠some (b,c))->w'.heap[b]? = w.heap[b]? := by intro b hb hn;refine A.keep b hb fun i cc B D => ?_;grind
 have hbnd:∀ b,F3 b->F2 b\/(∃ (j id c:Nat),p[j]? = some (.whole id)/\m id=some (b,c))\/w.heap.size<=b:=by
  have hx:∀ {i:Ix} {b cc:Nat},owned (encode n f x).heap (encode n f x).frz i->U i=some (b,cc)->∃ (j id c:Nat),p[j]? = some (.whole id)/\m id=some (b,c):=by grind
  intro b hb;rcases gC.1.bnd b hb with h|⟨i,cc,B,D⟩|h;·rcases A.bnd b h with h|⟨i,cc,B,D⟩|h;all_goals grind
  ·rcases A.own i b cc B D with⟨i',c0,B,D⟩|h;all_goals grind
  grind
 have hidl:ids.length=(encode (cellsOf rs) outs y).heap.length:=by rw[<- W,AH4];unfold encode;rw[APB];simp[blank]
 obtain⟨FR,hFR,hRR⟩:∃ FR,((FR=F/\BJ e.frz fz=fz/\(encode (cellsOf rs) outs y).heap.all O7=true)\/(FR=F3/\BJ e.frz fz=BJ Q fz))/\BD w' FR Y (encode (cellsOf rs) outs y).heap (encode (cellsOf rs) outs y).tmps.list (LD rs us):=by
  have hrt:BD w' F3 Y (encode (cellsOf rs) outs y).heap (encode (cellsOf rs) outs y).tmps.list (LD rs us):=by refine EU (by rw[Tm.ANh,PA,q2]) fun i a u ha hu => ?_;have:=d.tmps i;rw[AZK,hu]at this;rw[Tm.ANi ha];exact this
  rcases hfl with⟨f1,f2,f3⟩|f1;exact⟨F,.inl ⟨rfl,by rw[f1];rfl,f3⟩,BD.flat _ f2 hrt⟩;grind
 obtain⟨hgo,hmv⟩:=AJe (ids:=ids) (np:=np) hi gA (fun j id G=>(z j id G).2.elim fun _ h=>h.elim fun _ h=>h.2.2.2.2.2) hinj J hblk A.os A.tape A.output A.size O (fun b h=>gC.1.sub b (A.sub b h)) hbnd L (fun j o G=>jz d G) (fun j o G=>Py V G) d.frz hidl hok hnd hFR;rw[hgv]at hgo hmv;have hH:C9 e H=Bo (ids.zip ((encode (cellsOf rs) outs y).heap.map (Em ids))) (EO gv H):=by rw[Cx X,he2,XR];rfl
 have hZ:FT e fz=BJ e.frz fz:=Dk X fz;refine⟨FR,mOf ids Y m,?_,?_⟩;grind;rw[hH];exact iG (q3 _ _ _ _ _ (BD.ren hmv _ hRR))
theorem AGs(hE:∀ g,BS P g (E.spec g))(hL:E_ E)(hP:G6 P E)(hf:P.funcs[g]? = some fn)(Y:fn.body=some c)(hc:Ip P g)
  {np Z:Nat} (G:Z<=fn.ntmps) {n outs:A1} {rs:List RS} {f:Bf (leaves n)->Option (Bf (leaves outs))} (q:∀ x,f x=Dn np P E h fn n outs rs x) (hl:B0 P np h c 0) :
  BS P g (BX np Z n outs rs f):=by
 intro R args H fz slot k r d;simp only[BX]at d;split at d;cases d;rename_i x bs fr i;split at d;cases d;rename_i j;simp only[AY3,AY2]at j;obtain⟨⟨⟨a,I⟩,s⟩,t,z⟩:=j;split at d;cases d;rename_i y p;generalize l:Df (Dw outs) (bs.take np) slot=ids at d;generalize A:given (bs.drop np)=gv at d;obtain⟨e,h4,J,K,h5,L,M,N⟩:=UH d;refine⟨_,e,h4,fun R' k' => ?_,hc,fun w F m vals hi hr => ?_⟩;simp only[BX,i,a,I,s,t,z,p,AZD,AaC,l,A];grind;have hlv:=Bd hr;rw[q x]at p;unfold Dn at p;rw[Y]at p;simp only at p;obtain⟨ex,st',g1,_,g3⟩:=DZ hE hL hP c 0 hl _ _ _ _ p;have b:finish np P fn outs rs st'=some y/\(ex = .normal\/ex = .ret):=by grind
 obtain⟨b,O⟩:=b;obtain⟨vs,tm,bs',fr',Q,S,T,D⟩:=Xv b;rw[AY3]at D;replace D:=D.1;refine calls_of_wp hf Y ?_;obtain⟨F2,m2,gA,B,U⟩:=R9 hi hr s G i;refine g3 w F2 m2 _ _ U fun a' w' V W X x1 => ?_;obtain⟨us,r1,r2⟩:=M6 X Q;have C:=dL hi gA B a t z l A J K L M N X.heap x1 r2 S T D
 have o:a'.defers=[]/\∃ v,(results fn a'.tmps).run P w' = .ok v w'/\(fun(en:Ending) (w':World)=>∃ u,en = .returned u/\∃ V W,BT w F m H fz w' V W (C9 e H) (FT e fz)/\Rep w' V W (C9 e H) (single (FD rs (Km ids (encode (cellsOf rs) outs y).tmps.list))) u) (.returned v) w':=
  ⟨X.defers,_,r1,_,rfl,C⟩
 rcases O with rfl|rfl<;>exact o
end
def K5:Code->Nat->Option Code
 |.seq a b,n=>match K5 a n with
  |some c=>some c
  |none=>K5 b (n-loops a)
 |.cond _ a b,n=>match K5 a n with
  |some c=>some c
  |none=>K5 b (n-loops a)
 |.block _ c,n=>K5 c n
 |.scope c,n=>K5 c n
 |.loop c,n=>match n with
  |0=>some c
  |n+1=>K5 c n
 |_,_=>none
def B5(f:Func):Code:=match f.body with
 |some c=>c
 |none=>.skip
def C6(f:Func)(n:Nat):Code:=(K5 (B5 f) n).getD .skip
def Ca:Code->Nat->List (Nat×Code)
 |.seq a b,n=>Ca a n++Ca b (n+loops a)
 |.cond _ a b,n=>Ca a n++Ca b (n+loops a)
 |.block _ c,n=>Ca c n
 |.scope c,n=>Ca c n
 |.loop c,n=>[(n,c)]
 |_,_=>[]
def kG(P:Program)(np:Nat)(h:Hints):List (Nat×Code)->Prop
 |[]=>True
 |p::l=>I4 P np (.loop p.2) (h.loop p.1)/\kG P np h l
theorem kF{P:Program}{np:Nat}{h:Hints}:∀ {a b:List (Nat×Code)},kG P np h (a++b)->kG P np h a/\kG P np h b:=by
 intro a;induction a with
  |nil=>exact fun h=>⟨trivial,h⟩
  |cons p a c=>intro b h;exact⟨⟨h.1,(c h.2).1⟩,(c h.2).2⟩
theorem vg{P:Program}{np:Nat}{h:Hints}:∀ (c:Code) (n:Nat),kG P np h (Ca c n)->B0 P np h c n:=by
 intro c;induction c with
  |seq a b e f=>intro n d;have:=kF d;exact⟨e n this.1,f _ this.2⟩
  |cond c a b e f=>intro n d;have:=kF d;exact⟨e n this.1,f _ this.2⟩
  |block id c g=>intro n d;exact g n d
  |scope c g=>intro n d;exact g n d
  |loop c g=>intro n d;exact d.1
  |_=>intro n _;trivial
theorem Dd{P:Program}{np:Nat}{h:Hints}{c:Code}{n:Nat}{l:List (Nat×Code)}(e:Ca c n=l)(a:kG P np h l):B0 P np h c n:=vg c n (by grind)
def BH(P:Program)(E:Env):Prop:=(∀ g,BS P g (E.spec g))/\E_ E/\G6 P E
def Env.none:Env:={ spec:=fun _ _ _ _ _ _ _=>Option.none,loc:=fun _=>false,HW:=fun _=>true }
theorem Env.ASu{P:Program}:BH P Env.none:=⟨fun g R args H fz slot k r h=>by simp[Env.none]at h,⟨fun g h=>by simp[Env.none]at h,fun g _ R args H H' fz fz' slot k S _ _ _=>rfl⟩,fun g s h=>by cases h⟩
def Env.ext(E:Env)(g:FuncId)(loc HW:Bool)(s:Spec):Env where
 spec x:=match Nat.beq x g with
  |true=>s
  |false=>E.spec x
 loc x:=match Nat.beq x g with
  |true=>loc
  |false=>E.loc x
 HW x:=match Nat.beq x g with
  |true=>HW
  |false=>E.HW x
 pan x:=match Nat.beq x g with
  |true=>.none
  |false=>E.pan x
theorem Env.CB{P:Program}{E:Env}{g:FuncId}{loc HW:Bool}{s:Spec}(h:BH P E)(e:BS P g s)(f:loc=true->Hm s)(c:HW=true->G7 s):BH P (E.ext g loc HW s):=by
 refine⟨?_,⟨?_,?_⟩,fun x d a => ?_⟩;intro x;simp only[Env.ext];cases a:Nat.beq x g with
  |true=>simp_all
  |false=>exact h.1 x
 intro x a;simp only[Env.ext]at a |-;cases b:Nat.beq x g with
  |true=>grind
  |false=>rw[b]at a;exact h.2.1.1 x a
 intro x a;simp only[Env.ext]at a |-;cases b:Nat.beq x g with
  |true=>grind
  |false=>rw[b]at a;exact h.2.1.2 x a
 simp only[Env.ext]at a |-;cases b:Nat.beq x g with
  |true=>grind
  |false=>rw[b]at a;exact h.2.2 x d a
section
variable {P:Program} {E:Env} {h:Hints} {g:FuncId} {fn:Func}
theorem G2(a:fn.body.isSome=true):fn.body=some (B5 fn):=by unfold B5;grind
theorem GW (hE : BH P E) (hf : P.funcs[g]? = some fn) (hb : fn.body.isSome = true) (hn : (fn.name == "runtime.NumGoroutine") = false)
  {np na:Nat} (hna:(Nat.ble na fn.ntmps)=true) {its outs:A1} {rs:List RS} {f:Bf (leaves its)->Option (Bf (leaves outs))} (hfun:∀ x,f x=Dn np P E h fn its outs rs x) (hl:B0 P np h (B5 fn) 0) :
  BS P g (BX np na its outs rs f):=
 AGs hE.1 hE.2.1 hE.2.2 hf (G2 hb) (Cj hf hb hn) (AZn hna) hfun hl
theorem Bq (hE : BH P E) (hf : P.funcs[g]? = some fn) (hb : fn.body.isSome = true) (hn : (fn.name == "runtime.NumGoroutine") = false) (hl : loops (B5 fn) = 0) : BS P g (CE P E h fn) :=
 tI hE.1 hE.2.1 hE.2.2 hf (G2 hb) (Cj hf hb hn) hl
theorem P2{e:Hints}(d:BH P E){np f n:Nat}{a:Code}{b:A1}{os:BF}{stp:Bf (leaves b)->Option (Bf (leaves b)⊕dY os)}
  (c:∀ v,stp v=roundOf P E e n np f a b os v) (i:B0 P np e a n):I4 P np (.loop a) (LX np f b os stp):=AHa d.1 d.2.1 d.2.2 c i
def c8:A1->Bool
 |[]=>true
 |(.tmp _,.dat _)::r=>c8 r
 |_::_=>false
theorem AI4{H H':List Ob}{d:List AV}(j:∀ id∈Bz d,H[id]? = H'[id]?):∀ (b:A1) (fz fz':List Bool),c8 b=true->dec (lk d) H b fz []=dec (lk d) H' b fz' []:=by
 intro b;induction b with
  |nil=>intro fz fz' _;rfl
  |cons p r k=>
   intro fz fz' hd;obtain⟨l,c⟩:=p;cases l<;>cases c<;>simp only[c8]at hd<;>try (cases hd;done)
   rename_i t ty;simp only[dec,look];cases f:lk d t with
    |none=>rfl
    |some v=>
     have e:∀ id∈BU v,H[id]? = H'[id]? := fun id i=>j id (by
      clear k hd j;unfold lk at f;induction d generalizing t with
       |nil=>grind
       |cons a d m=>
        cases t with
         |zero=>simp at f;subst f;simp[Bz,i]
         |succ t=>simp only[Bz,AY5];grind)
     simp only;rw[X' ty v e];grind
theorem AH2:∀ (n slot:Nat),Df n [] slot=List.range' slot n:=by
 intro n;induction n with
  |zero=>intro slot;rfl
  |succ n a=>intro slot;simp only[Df,Aai];rw[a]
theorem Xo{H H':List Ob}{fz fz':List Bool}:∀ (ids:List Nat),(∀ i∈ids,Bh H fz i=Bh H' fz' i)->Gp H fz ids []=Gp H' fz' ids []:=by
 intro ids;induction ids with
  |nil=>intro _;rfl
  |cons a ids b=>intro h;simp only[Gp,List.tail_nil];grind
theorem AA9{H:List Ob}{f:List AV}:∀ (a:A1) (fz:List Bool) (d:List Bnd) (x:Bf (leaves a)) (b:List Bnd) (e:List Nat),c8 a=true->dec (lk f) H a fz d=some (x,b,e)->b=d:=by
 intro a;induction a with
  |nil=>intro fz d x b e _ h;simp only[dec,AY1]at h;grind
  |cons p r i=>
   intro fz d x b e hd h;obtain⟨l,c⟩:=p;cases l<;>cases c<;>simp only[c8]at hd<;>try (cases hd;done)
   simp only[dec]at h;grind
theorem NB{np l:Nat}{a outs:A1}{rs:List RS}{f:Bf (leaves a)->Option (Bf (leaves outs))}(hd:c8 a=true)(m:Nat.ble (Dw outs) 4=true):Hm (BX np l a outs rs f):=by
 intro R args H H' fz fz' slot k e;unfold BX;rw[AI4 e.heap a fz fz' hd];split;rfl;rename_i x n j c;have d:=AA9 a fz' [] x n j hd c;subst d;split;rfl;split;rfl;rename_i y o;simp only[List.take_nil,List.drop_nil];have b:∀ (g:List Nat) (i:Nat),i∈Df (Dw outs) [] slot->Bh H (BJ g fz) i=Bh H' (BJ g fz') i:=by intro g i hi;rw[AH2,List.mem_range'_1]at hi;have:=AZn m;exact FI e hi.1 (by omega) g
 unfold Kh;rw[show Gp H fz (Df (Dw outs) [] slot) []=Gp H' fz' (Df (Dw outs) [] slot) []from Xo _ (b []),Xo _ (b j)]
end
def oW{α:Type}(xs:List α):Option (List α):=match uM (A3 xs)with
 |true=>some xs
 |false=>none
def Lh[Lk]{α:Type}(xs:List α):Option (List α):=Lk.f (oW xs)
theorem jr{α:Type}(xs:List α):Lh xs=oW xs:=A0 _
noncomputable def EE[Lk](e:TypeId)(t:Ty):Spec:=fun R args H fz slot k=>
 match args with
 |[x]=>match GZ H (.slice t) x with
  |some (xs,_)=>match(Lh xs:Option (List t.den))with
   |none=>none
   |some y=>(match Bh H fz slot with|true=>k (.own slot) { objs:=[(slot,.arr e t y)] }|false=>none)
  |none=>none
 |_=>none
def Xh:Code->Nat->List Oper
 |.region id ops _,n=>if id=n then ops.toList else []
 |.seq a b,n=>Xh a n++Xh b n
 |.cond _ a b,n=>Xh a n++Xh b n
 |.block _ c,n=>Xh c n
 |.scope c,n=>Xh c n
 |.loop c,n=>Xh c n
 |_,_=>[]
def CZ(fn:Func)(n i:Nat):Oper:=((Xh (B5 fn) n)[i]?).getD default
structure F_(P:Program)(fn:Func)(T e:TypeId)(t:Ty):Prop where
 body:fn.body=some (.seq (.region 0 #[CZ fn 0 0] false) (.seq (.seq (.region 1 #[CZ fn 1 0,CZ fn 1 1] false) (.cond (.tmp 4) (.seq (.region 2 #[CZ fn 2 0] false) .ret) .skip)) (.seq (.region 3 #[CZ fn 3 0,CZ fn 3 1,CZ fn 3 2,CZ fn 3 3] false) .ret)))
 nt:fn.ntmps=8
 res:fn.results = #[.tmp 2]
 d:(CZ fn 0 0).dst=some 2/\(CZ fn 1 0).dst=some 3/\(CZ fn 1 1).dst=some 4/\(CZ fn 2 0).dst=some 2/\(CZ fn 3 0).dst=some 5/\(CZ fn 3 1).dst=some 6/\(CZ fn 3 2).dst=some 7/\(CZ fn 3 3).dst=some 2
 g:(CZ fn 0 0).guard=none/\(CZ fn 1 0).guard=none/\(CZ fn 1 1).guard=none/\(CZ fn 2 0).guard=none/\(CZ fn 3 0).guard=none/\(CZ fn 3 1).guard=none/\(CZ fn 3 2).guard=none/\(CZ fn 3 3).guard=none
 o00:(CZ fn 0 0).op = .assign (.const (.slice none 0 0))
 o10:(CZ fn 1 0).op = .move (.tmp 0)
 o11:(CZ fn 1 1).op = .binOp .eql T (.tmp 3) (.const (.slice none 0 0)) T
 o20:(CZ fn 2 0).op = .assign (.const (.slice none 0 0))
 o30:(CZ fn 3 0).op = .buildSlice T 0 #[]
 o31:(CZ fn 3 1).op = .move (.tmp 0)
 o32:(CZ fn 3 2).op = .call { callee:=.builtin .append,args:=#[.tmp 5,.tmp 6],argTypes:=#[T,T] }
 o33:(CZ fn 3 3).op = .assign (.tmp 7)
 sl:sliceAt P T=some (e,t)
 z:(zeroAt P e).isSome=true
 by1:(P.info? e).map (fun i=>decide (i.bytes<=1024))=some true
section
variable {P:Program} {g:FuncId}
theorem DL{ops:Array Oper}{Q:Exit->Act->World->Prop}{i:Nat}{b:List Nat}{a:Act}{w:World}{o:Oper}(c:ops[i]? = some o)(d:o.guard=none)(h:o.wp P a w (wpOps P ops Q b) Q):wpOps P ops Q (i::b) a w:=by simp only[wpOps,c];rw[AZA (by simp[Region.wanted,d])];grind
theorem C5{o:Oper}{a:Act}{w w':World}{next:Act->World->Prop}{Q:Exit->Act->World->Prop}{u:Value}(h:(execOp a.eval o).run P w = .ok (.value u) w')(b:next (a.put o.dst u) w'):o.wp P a w next Q:=by unfold Oper.wp;rw[h];exact b
variable {fn:Func} {T e:TypeId} {t:Ty}
theorem MU{P:Program}{w:World}{ρ:Operand->Value}{o:Oper}{x:Operand}(h:o.op = .move x):(execOp ρ o).run P w = .ok (.value (ρ x)) w:=by simp[execOp,h]
theorem IY{P:Program}{w:World}{ρ:Operand->Value}{o:Oper}{x:Operand}(h:o.op = .assign x):(execOp ρ o).run P w = .ok (.value (ρ x)) w:=by simp[execOp,h]
theorem Mi (hs : F_ P fn T e t) (hf : P.funcs[g]? = some fn) (hn : (fn.name == "runtime.NumGoroutine") = false) : BS P g (EE e t) := by
 intro R args H fz slot k r hk;unfold EE at hk;split at hk;rename_i x;split at hk;rename_i xs fr hx;split at hk;cases hk;rename_i y hy;split at hk;rename_i hfree;refine⟨_,_,hk,fun R' k'=>by simp only[EE,hx,hy,hfree],Cj hf (by rw[hs.body];rfl) hn,fun w F m vals hi hr => ?_⟩;rw[jr]at hy;unfold oW at hy;split at hy;rename_i hfit;simp only[AY1]at hy;subst hy;have hr0:=hr;unfold BD at hr;obtain⟨v,vs',rfl,hrv,hnil⟩:=hr;unfold BD at hnil;subst hnil;obtain⟨hu,hty0,hpos⟩:=Cz hs.sl;obtain⟨zz,hzz⟩:=AaJ.1 hs.z;obtain⟨t',cs'⟩:=zz;obtain⟨hty',hcs',i,z,hi0,hz0,hok,hsz,hza⟩:=Cg hzz;subst hcs';have:t'=t:=by grind
 subst this;have hzs:z.cells.size=i.size:=by have hzd:=CV (w:=default) (F:=fun _=>False) t' _ hok;rw[hsz,<- AZV];exact Dat.length t' hzd
 have hby':i.bytes<=1024:=by simpa [hi0]using hs.by1
 obtain⟨A,c,rfl,q2,q3,news,q4,q5⟩:=E7 hi hx hrv;have hfit':xs.length<=4294967296:=by have:(xs.length:Int)<=4294967296:=(Ws _).1 hfit;omega
 refine calls_of_wp hf hs.body ?_;obtain⟨d0,d1,d2,d3,d4,d5,d6,d7⟩:=hs.d;obtain⟨g0,g1,g2,g3,g4,g5,g6,g7⟩:=hs.g;have hres:∀ (tm:Array Value) (w0:World),(results fn tm).run P w0 = .ok (tm.getD 2 undef) w0:=fun tm w0=>by simp[results,hs.res]
 refine wp_seq (wp_region ?_);simp only[AaT,AZC,AZP,AZo,AbL,AZk];refine DL (by rfl) g0 (C5 (IY hs.o00) ?_);refine wp_seq (wp_seq (wp_region ?_));simp only[AaT,AZC,AZP,AZo,AbL,AZk,AZe];refine DL (by rfl) g1 (C5 (MU hs.o10) ?_);refine DL (by rfl) g2 (C5 (u:=.bool A.isNone) (w':=w) (by simp[execOp,hs.o11,Act.eval,Act.put,d0,d1,hs.nt,eqGuard,Lib.run_eql_slice_nil _ _ _ _ _ _ _ _ hu]) ?_);cases A with
  |none=>
   have hxs:xs=[]:=by grind
   subst hxs;refine wp_cond_true (by simp[Act.eval,Act.put,d0,d1,d2,hs.nt]) ?_;refine wp_seq (wp_region ?_);simp only[AaT,AZC,AZP,AZo,AbL,AZk];refine DL (by rfl) g3 (C5 (IY hs.o20) ?_);refine wp_ret ?_;refine⟨by simp[Act.put,d0,d1,d2,d3],_,hres _ _,?_⟩;obtain⟨m',hg,hrep⟩:=E3 (w:=w) hi hfree e hpos none;refine⟨_,rfl,F,m',hg,?_⟩;show Rep _ _ _ (H.set slot _) _ _;simpa [Act.put,Act.eval,d0,d1,d2,d3,hs.nt]using hrep
  |some ad=>
   refine wp_cond_false (by simp[Act.eval,Act.put,d0,d1,d2,hs.nt]) ?_;refine wp_skip ?_;refine wp_seq (wp_region ?_);simp only[AaT,AZC,AZP,AZo,AbL,AZk,AZe];refine DL (by rfl) g4 (C5 (u:=.slice (some ⟨w.heap.size,0,none⟩) 0 0) (w':=w.alloc (.cells #[] e)) (by have:=J9 (P:=P) (w:=w) (len:=0) (parts:=#[]) (us:=#[]) hu hi0 hz0 hsz (by omega) (by simp[Instr.fill]);simp[execOp,hs.o30,this]) ?_)
   refine DL (by rfl) g5 (C5 (MU hs.o31) ?_);have hga:=BT.grow (w':=w.alloc (.cells #[] e)) hi rfl rfl rfl (by simp) (fun b hb=>Below.heap_alloc w _ b hb)
   obtain⟨v,w',m',hrun,hg,hrep⟩:=G3 (P:=P) (T:=T) (ty:=(CZ fn 3 2).type) hga.2 hfree hu hi0 hz0 hzs hsz hpos hby' hfit' (some ⟨w.heap.size,0,none⟩) (A:=some ad) (c:=c) (ys:=xs) (news:=news) (fun _=>rfl)
    (B' (fun x _ cs hx=>hx.mono (fun a ha=>by simp[World.cell?,Below.heap_alloc w _ _ (hi.lt _ ha)]) (fun _ h=>h) t') q4) (fun ad' h j u hu'=>by
     have:=q5 ad' h j u hu'
     exact Lib.cell?_alloc_some _ this)
   refine DL (by rfl) g6 (C5 (u:=v) (w':=w') (by simp[execOp,hs.o32,resolve,invoke,builtin,Act.eval,Act.put,d0,d1,d2,d4,d5,hs.nt,hrun]) ?_)
   refine DL (by rfl) g7 (C5 (IY hs.o33) ?_);refine wp_ret ?_;refine⟨by simp[Act.put,d0,d1,d2,d4,d5,d6,d7],_,hres _ _,?_⟩;refine⟨_,rfl,F,m',hga.trans hg,?_⟩;show Rep _ _ _ (H.set slot _) _ _;simpa [Act.put,Act.eval,d0,d1,d2,d4,d5,d6,d7,hs.nt]using hrep
 grind;grind;grind;grind
theorem B_(e:TypeId)(t:Ty):Hm (EE e t):=by
 intro R args H H' fz fz' slot k b;unfold EE;cases args with
  |nil=>rfl
  |cons x r=>cases r with
   |cons y r=>rfl
   |nil=>
    simp only
    rw[Cw (.slice t) x fun id a=>b.heap id (by simpa [Bz]using a)]
    have:=FI b (s:=slot) (AY8 _) (by omega) []
    simp only[BJ]at this
    rw[this]
end
abbrev U0:Ty:=(.int .i64)
abbrev U1:Ty:=(.prod U0 (.prod U0 (.prod U0 (.prod .bool .unit))))
abbrev U2:=(Int×Int×Int×Bool×Unit)
abbrev U3:Ty:=(.prod U0 (.prod U0 .unit))
abbrev U4:=(Int×Int×Unit)
abbrev U5:=(List Int)
abbrev U6:=(Int×Int×Int×Int×Unit)
abbrev U7:Ty:=(.slice U0)
abbrev U8:Ty:=(.int .u32)
abbrev U9:=(Int×Int×Int×Unit)
abbrev Ua:Ty:=(.prod U0 (.prod U0 U3))
abbrev Ub:=(Int×Unit)
abbrev Uc:=(Bool×Unit)
abbrev Ud:Ty:=(.slice U7)
abbrev Ue:=(Int×(List U2)×Unit)
abbrev Uf:=(List Int×Unit)
abbrev Ug:=(List U6×Int×List Bool×List U5×Bool×Int×Int×List U2×Int×Unit)
abbrev Uh:Ty:=(.slice .bool)
abbrev Ui:Ty:=(.slice U1)
abbrev Uj:Ty:=(.slice U8)
abbrev Uk:Ty:=(.prod U0 (.prod U0 (.prod (.slice (.arr 2 U0)) .unit)))
abbrev Ul:=(List Int×Int×Unit)
abbrev Um:=(Int×Int)
abbrev Un:=(List Int×List Int×Int×Int×Unit)
abbrev Uo:Ty:=(.prod U0 (.prod Ui .unit))
abbrev Uq:=(List Int×Int×Int×Unit)
abbrev Ur:Ty:=(.slice (.prod U0 U3))
abbrev Us:=(List Int×List Int×Int×Unit)
abbrev Ut:=(Int×Int×(List U5)×Unit)
abbrev Uu:=(Int×List U2×Bool×Bool×Int×Int×Int×Int×Int×List Um×List Int×Int×Int×Unit)
abbrev Uv:=(Int×(List U5)×Unit)
abbrev Uw:=(List U6×Int×List Bool×List U5×Bool×Int×Int×Int×Int×Int×Bool×Int×Unit)
abbrev Ux:=(Bool×Bool×U4×Int×Unit)
abbrev Uy:Ty:=(.slice U3)
abbrev Uz:=(U5×U5×(List U5)×Unit)
abbrev V0:=(Int×Int×U5×Unit)
abbrev V1:Ty:=(.slice Ua)
abbrev V2:=(List Int×List Int×Unit)
abbrev V3:=(List Int×List Int×Int×Int×List Int×List Int×Int×Int×Unit)
abbrev V4:=(Int×List U5×List Um×Int×List U5×Int×Int×List Int×Int×Int×Bool×List Int×Bool×Bool×List Int×Int×List Int×Int×Bool×Int×List Int×Bool×Bool×List Int×Int×Int×Unit)
abbrev V5:=(Ue×Int×Int×Unit)
abbrev V6:Ty:=(.prod (.prod V1 (.prod U0 (.prod Uh .unit))) (.prod Ud (.prod .bool U3)))
abbrev V7:=(List U6×Int×List Bool×List U5×Bool×Int×Int×List Um×List U5×Int×Int×Unit)
abbrev V8:=(Int×List U2×Int×Int×Int×List U4×List U9×Int×List Int×List Bool×Int×Unit)
abbrev V9:Ty:=(.prod .bool (.prod .bool (.prod U3 (.prod U0 .unit))))
abbrev Va:=(List U4×Unit)
abbrev Vb:=(Int×U5×(List Bool)×Unit)
abbrev Vc:=(List Int×Int×Int×Int×List Int×Int×Int×Unit)
abbrev Vd:=(List Int×Int×Int×Int×Unit)
abbrev Ve:=(Int×(List U4)×(List U9)×Unit)
abbrev Vf:=(U4×Int)
abbrev Vg:Ty:=(.prod Ud .unit)
abbrev Vh:=(List Int×Int×List Int×Int×Int×List Int×List Int×Int×Int×Unit)
abbrev Vi:=(Int×Int×Int×List Int×Int×List Int×List Bool×Int×Int×Unit)
abbrev Vj:=(List Int×List Int×List Int×Int×Int×Unit)
abbrev Vk:=(Int×List U2×List U4×Int×Unit)
abbrev Vl:=(Int×Bool×Bool×Int×Int×Int×Int×Int×Int×Bool×Int×List U2×Bool×Bool×Int×Int×Int×Int×Int×Unit)
abbrev Vm:=(List Int×Int×List U5×Int×Int×Unit)
abbrev Vn:Ty:=(.prod U0 (.prod U0 (.prod U7 .unit)))
abbrev Vo:Ty:=(.prod U0 (.prod Uj (.prod Uh .unit)))
abbrev AA:Loc×Con:=(.tmp 0,.di)
abbrev BR:A1:=[AA]
abbrev AB:Loc×Con:=(.tmp 0,.dat .bool)
abbrev BP:A1:=[AB]
abbrev A5:List RS:=[.one]
def Zy[Lk]:Ub->Option (Uc):=fun(a,_)=>
 match(ile 1 a)with
 |true=>some ((ile a 64),())
 |false=>some (false,())
def RA[Lk]:=lkk Zy
theorem gk v:RA v=Zy v:=A0 _
abbrev AD:Loc×Con:=(.tmp 1,.di)
abbrev OE:A1:=[AA,AD]
def AKn[Lk]:U4->Option (Uc):=fun(a,b,_)=>
 match RA (a,())with|none=>none|some (c,_)=>match c with
 |true=>match(ile 0 b)with
  |true=>some ((ilt b a),())
  |false=>some (false,())
 |false=>some (false,())
def tin[Lk]:=lkk AKn
theorem AKm v:tin v=AKn v:=A0 _
abbrev AE:Loc×Con:=(.tmp 2,.di)
abbrev AKs:A1:=[AA,AD,AE]
def xC[Lk]:U9->Option (Ub):=fun(a,b,c,_)=>
 match(ieq b c)with
 |true=>some ((-1:Int),())
 |false=>match tin (a,b,())with|none=>none|some (d,_)=>match(!d)with
 |true=>some ((-1:Int),())
 |false=>match tin (a,c,())with|none=>none|some (e,_)=>match(!e)with
 |true=>some ((-1:Int),())
 |false=>some ((w64 ((w64 (a*(w64 (b+1))))+c)),())
def AKt[Lk]:=lkk xC
theorem AB8 v:AKt v=xC v:=A0 _
abbrev AF:Loc×Con:=(.tmp 2,.dat .bool)
abbrev AKO:A1:=[AA,AD,AF,(.tmp 3,.dat .bool)]
abbrev SY:List RS:=[.one,.one,.one,.one]
def Zx[Lk]:U4->Option ((Int×Int×Bool×Bool×Unit)):=fun(a,b,_)=>
 match RA (a,())with|none=>none|some (e,_)=>match(!e)with
 |true=>some (0,0,false,false,())
 |false=>match(ilt b 0)with
 |true=>some (0,0,false,false,())
 |false=>match(ile (w64 (a*(w64 (a+1)))) b)with
 |true=>some (0,0,false,false,())
 |false=>match(ilt b a)with
 |true=>some (b,0,false,true,())
 |false=>match quo? .i64 b a with|none=>none|some c=>match rem? b a with|none=>none|some d=>match(ieq (w64 (c-1)) d)with
 |true=>some (0,0,false,false,())
 |false=>some ((w64 (c-1)),d,true,true,())
def lH[Lk]:=lkk Zx
theorem gj v:lH v=Zx v:=A0 _
abbrev AQ0:A1:=[AA,(.tmp 1,.own 51 U7),AE]
abbrev AB4:List RS:=[.agg 2,.one]
abbrev AG:Loc×Con:=(.cell 0 0,.di)
abbrev AH:Loc×Con:=(.tmp 2,.box 2)
abbrev AI:Loc×Con:=(.tmp 4,.box 2)
abbrev AJ:Loc×Con:=(.cell 1 0,.di)
abbrev AK:Loc×Con:=(.tmp 12,.di)
abbrev AL:Loc×Con:=(.tmp 13,.di)
abbrev AKd:A1:=[AH,AG,(.cell 0 1,.nil U7),AI,AJ,(.cell 1 1,.own 51 U7),AK,AL]
abbrev AKc:BF:=[(.exit 0,[AH,AG,(.cell 0 1,.nil U7),AI,AJ,(.cell 1 1,.own 51 U7)])]
def OD[Lk]:(Int×Int×List U5×Int×Int×Unit)->Option ((Int×Int×List U5×Int×Int×Unit)⊕(Int×Int×List U5×Unit)⊕Unit):=fun(c,d,b,e,a,_)=>
 match(ilt a e)with
 |true=>match(fits ((A3 b)+(A3 ([([a]:List (Int))]:List U5))))with
  |true=>some (.inl (c,d,(Bi b ([([a]:List (Int))]:List U5)),e,(w64 (a+1)),()))
  |false=>none
 |false=>some (.inr (.inl (c,d,b,())))
def lO[Lk]:Ub->Option ((Int×List U5×Int×Unit)):=fun(a,_)=>
 match RA (a,())with|none=>none|some (b,_)=>match(!b)with
 |true=>some (0,([]:List U5),1,())
 |false=>match A_ OD many (0,a,([]:List U5),a,0,())with|none=>none|some r=>match r with
 |.inl (e,c,d,_)=>some (c,d,0,())
 |.inr _=>none
def AB5[Lk]:=lkk lO
theorem qK v:AB5 v=lO v:=A0 _
abbrev AM:Loc×Con:=(.tmp 0,.dat U7)
abbrev Oy:A1:=[AM,AD]
abbrev AN:Loc×Con:=(.tmp 8,.di)
abbrev AO:Loc×Con:=(.tmp 7,.di)
abbrev AHy:A1:=[AM,AD,AO,AN]
abbrev AP:Loc×Con:=(.tmp 4,.di)
abbrev MN:BF:=[(.ret,[AP]),(.exit 0,[])]
def MM[Lk]:Vd->Option (Vd⊕Ub⊕(Unit)⊕Unit):=fun(b,c,d,a,_)=>
 match(ilt a d)with
 |true=>match idx b a with|none=>none|some e=>match(ieq c e)with
  |true=>some (.inr (.inl (a,())))
  |false=>some (.inl (b,c,d,(w64 (a+1)),()))
 |false=>some (.inr (.inr (.inl ())))
def cG[Lk]:Ul->Option (Ub):=fun(a,b,_)=>
 match A_ MM many (a,b,(A3 a),0,())with|none=>none|some r=>match r with
 |.inl (c,_)=>some (c,())
 |.inr r=>match r with
 |.inl _=>some ((-1:Int),())
 |.inr _=>none
def Wg[Lk]:=lkk cG
theorem jQ v:Wg v=cG v:=A0 _
def PE[Lk]:Ul->Option (Uc):=fun(a,b,_)=>
 match Wg (a,b,())with|none=>none|some (c,_)=>some ((ile 0 c),())
def Hh[Lk]:=lkk PE
theorem T5 v:Hh v=PE v:=A0 _
abbrev bY:A1:=[AM]
abbrev AQ:Loc×Con:=(.tmp 3,.di)
abbrev ASx:A1:=[AM,AQ,AP]
abbrev AC0:BF:=[(.exit 0,[AQ])]
def S8[Lk]:Uq->Option (Uq⊕Ub⊕Unit):=fun(a,c,b,_)=>
 match(ilt b (A3 a))with
 |true=>match idx a b with|none=>none|some d=>some (.inl (a,(Cl c d),(w64 (b+1)),()))
 |false=>some (.inr (.inl (c,())))
def zY[Lk]:Uf->Option (Ub):=fun(a,_)=>
 match(ilt (A3 a) 1)with
 |true=>none
 |false=>match idx a 0 with|none=>none|some b=>match A_ S8 many (a,b,1,())with|none=>none|some r=>match r with
 |.inl (c,_)=>some (c,())
 |.inr _=>none
def ANU[Lk]:=lkk zY
theorem AC1 v:ANU v=zY v:=A0 _
abbrev ATq:A1:=[(.tmp 0,.nil U0),AD]
abbrev AR:Loc×Con:=(.tmp 0,.own 3 U0)
abbrev Hx:A1:=[AR]
def nb[Lk]:Ub->Option (Uf):=fun(a,_)=>
 match(ilt a 0)with
 |true=>none
 |false=>match(ilt 0 (w64 (a-(w64 (0-0)))))with
 |true=>match Ci ([]:List Unit) 0 0 with|none=>none|some _u0=>match(B4 (w64 (a-(w64 (0-0)))))with
  |true=>match Ci (C2 (A2 (w64 (a-(w64 ((0:Int)-(0:Int)))))) (0:Int)) (0:Int) (0:Int)with|none=>none|some b=>some ((CT (A2 (A3 b)) (C2 (A2 (w64 (a-(w64 ((0:Int)-(0:Int)))))) (0:Int))),())
  |false=>none
 |false=>some (([]:List (Int)),())
def ADQ[Lk]:=lkk nb
theorem uC v:ADQ v=nb v:=A0 _
abbrev AS:Loc×Con:=(.tmp 0,.dat Ud)
abbrev AJJ:A1:=[AS]
abbrev AT:Loc×Con:=(.tmp 6,.own 3 U0)
abbrev AU:Loc×Con:=(.tmp 27,.di)
abbrev AW:Loc×Con:=(.tmp 26,.di)
abbrev ABM:A1:=[AT,(.tmp 25,.dat Ud),AW,AU]
abbrev ABK:BF:=[(.exit 2,[AT])]
def Ke[Lk]:(List Int×List U5×Int×Int×Unit)->Option ((List Int×List U5×Int×Int×Unit)⊕Uf⊕Unit):=fun(a,c,d,b,_)=>
 match(ilt b d)with
 |true=>match idx c b with|none=>none|some e=>match(fits ((A3 a)+(A3 e)))with
  |true=>some (.inl ((Bi a e),c,d,(w64 (b+1)),()))
  |false=>none
 |false=>some (.inr (.inl (a,())))
abbrev AX:Loc×Con:=(.tmp 10,.di)
abbrev AY:Loc×Con:=(.tmp 11,.di)
abbrev ABN:A1:=[AS,AQ,(.tmp 9,.dat Ud),AX,AY]
abbrev ABL:BF:=[(.exit 0,[AS,AQ])]
def Kf[Lk]:(List U5×Int×List U5×Int×Int×Unit)->Option ((List U5×Int×List U5×Int×Int×Unit)⊕(List U5×Int×Unit)⊕Unit):=fun(c,a,d,e,b,_)=>
 match(ilt b e)with
 |true=>match idx d b with|none=>none|some f=>match(ilt (w64 (a+(A3 f))) 0)with
  |true=>none
  |false=>some (.inl (c,(w64 (a+(A3 f))),d,e,(w64 (b+1)),()))
 |false=>some (.inr (.inl (c,a,())))
def W4[Lk]:(List U5×Unit)->Option (Uf):=fun(a,_)=>
 match A_ Kf many (a,0,a,(A3 a),0,())with|none=>none|some r=>match r with
 |.inl (b,c,_)=>match ADQ (c,())with|none=>none|some (d,_)=>match A_ Ke many (d,b,(A3 b),0,())with|none=>none|some r=>match r with
  |.inl (e,_)=>some (e,())
  |.inr _=>none
 |.inr _=>none
def QO[Lk]:=lkk W4
theorem dE v:QO v=W4 v:=A0 _
abbrev O2:A1:=[AM,(.tmp 1,.clo 187 [])]
abbrev YU:A1:=[AM,(.tmp 1,.clo 187 []),AO,AN]
def EY[Lk]:Uq->Option (Uq⊕Ub⊕(Unit)⊕Unit):=fun(b,c,a,_)=>
 match(ilt a c)with
 |true=>match idx b a with|none=>none|some d=>match(ilt d 0)with
  |true=>some (.inr (.inl (a,())))
  |false=>match(ilt 10000 d)with
  |true=>some (.inr (.inl (a,())))
  |false=>some (.inl (b,c,(w64 (a+1)),()))
 |false=>some (.inr (.inr (.inl ())))
def KS[Lk]:Uf->Option (Ub):=fun(a,_)=>
 match A_ EY many (a,(A3 a),0,())with|none=>none|some r=>match r with
 |.inl (b,_)=>some (b,())
 |.inr r=>match r with
 |.inl _=>some ((-1:Int),())
 |.inr _=>none
def NL[Lk]:=lkk KS
theorem Nr v:NL v=KS v:=A0 _
abbrev AZ:Loc×Con:=(.tmp 3,.map U0 U0)
abbrev Aa:Loc×Con:=(.tmp 9,.di)
abbrev ASq:A1:=[AM,AZ,(.tmp 7,.dat U7),AN,Aa]
abbrev ASp:BF:=[(.exit 0,[AM,AZ])]
def S4[Lk]:(List Int×List Um×List Int×Int×Int×Unit)->Option ((List Int×List Um×List Int×Int×Int×Unit)⊕(List Int×List Um×Unit)⊕Unit):=fun(c,a,d,e,b,_)=>
 match(ilt b e)with
 |true=>match idx d b with|none=>none|some f=>some (.inl (c,(BC a f (w64 (((A8 a f).getD 0)+1))),d,e,(w64 (b+1)),()))
 |false=>some (.inr (.inl (c,a,())))
def zR[Lk]:Uf->Option (Uc):=fun(a,_)=>
 match A_ S4 many (a,([]:List Um),a,(A3 a),0,())with|none=>none|some r=>match r with
 |.inl (b,c,_)=>some ((ieq (A3 c) (A3 b)),())
 |.inr _=>none
def once[Lk]:=lkk zR
theorem ACr v:once v=zR v:=A0 _
def Zv[Lk]:Ul->Option (Uf):=fun(a,b,_)=>
 match Ci a b (A3 a)with|none=>none|some c=>match Ci a 0 b with|none=>none|some d=>match QO (([c,d]:List U5),())with|none=>none|some (e,_)=>some (e,())
def Zw[Lk]:=lkk Zv
theorem gi v:Zw v=Zv v:=A0 _
abbrev Wk:A1:=[AS,(.cap 1 0,.box 1),AG,(.tmp 1,.clo 204 [(0,0)])]
abbrev Ab:Loc×Con:=(.obj 0,.box 1)
abbrev Wj:A1:=[Ab,AG,AA]
abbrev TW:A1:=[Ab,AG,AS,(.tmp 1,.clo 204 [(0,0)]),AO,AN]
abbrev TV:BF:=[(.ret,[Ab,AG,AP]),(.exit 0,[Ab,AG])]
def Dr[Lk]:(Int×List U5×Int×Int×Unit)->Option ((Int×List U5×Int×Int×Unit)⊕U4⊕Ub⊕Unit):=fun(a,c,d,b,_)=>
 match(ilt b d)with
 |true=>match idx c b with|none=>none|some e=>match Hh (e,a,())with|none=>none|some (f,_)=>match f with
  |true=>some (.inr (.inl (a,b,())))
  |false=>some (.inl (a,c,d,(w64 (b+1)),()))
 |false=>some (.inr (.inr (.inl (a,()))))
def HZ[Lk]:(List U5×Int×Unit)->Option (U4):=fun(a,b,_)=>
 match A_ Dr many (b,a,(A3 a),0,())with|none=>none|some r=>match r with
 |.inl (c,d,_)=>some (c,d,())
 |.inr r=>match r with
 |.inl (e,_)=>some (e,(-1:Int),())
 |.inr _=>none
def KQ[Lk]:=lkk HZ
theorem LA v:KQ v=HZ v:=A0 _
abbrev Ac:Loc×Con:=(.tmp 0,.dat (.prod U0 Vg))
abbrev OC:A1:=[Ac,AD]
def Z4[Lk]:(Uv×Int×Unit)->Option (Ub):=fun(a,b,_)=>
 match KQ (a.2.1,b,())with|none=>none|some (d,c,_)=>some (c,())
def VV[Lk]:=lkk Z4
theorem gn v:VV v=Z4 v:=A0 _
abbrev Ad:Loc×Con:=(.tmp 1,.dat U7)
abbrev AWo:A1:=[AA,Ad]
abbrev ATw:A1:=[AA,(.tmp 5,.box 3),(.cell 0 0,.own 3 U0),(.cell 0 1,.map U0 U0),(.cell 0 2,.map U0 U0),(.tmp 30,.dat U7),(.tmp 31,.di),(.tmp 32,.di)]
abbrev Ae:Loc×Con:=(.tmp 4,.dat .bool)
abbrev ATv:BF:=[(.ret,[Ae]),(.exit 0,[(.tmp 5,.box 3),(.cell 0 0,.own 3 U0),(.cell 0 1,.map U0 U0),(.cell 0 2,.map U0 U0)])]
def QE[Lk]:(Int×List Int×List Um×List Um×List Int×Int×Int×Unit)->Option ((Int×List Int×List Um×List Um×List Int×Int×Int×Unit)⊕Uc⊕(List Int×List Um×List Um×Unit)⊕Unit):=fun(g,a,c,d,h,i,f,_)=>
 match(ilt f i)with
 |true=>match idx h f with|none=>none|some l=>match lH (g,l,())with|none=>none|some (e,b,j,m,_)=>match(!m)with
  |true=>some (.inr (.inl (false,())))
  |false=>match j with
  |true=>match idx a (w64 ((A3 a)-1))with|none=>none|some n=>match(!(ieq (A7 a (A2 (w64 ((A3 a)-1))) 0) e))with
   |true=>some (.inr (.inl (false,())))
   |false=>match(ilt 0 (w64 ((A3 a)-1)))with
   |true=>match idx a (w64 ((w64 ((A3 a)-1))-1))with|none=>none|some o=>match(ieq (A7 a (A2 (w64 ((w64 ((A3 a)-1))-1))) 0) b)with
    |true=>match Ci a 0 (w64 ((A3 a)-1))with|none=>none|some k=>match(!j)with
     |true=>match idx (C' 0 (A2 (A3 k)) a) (w64 ((((A2 (A3 k)):Nat):Int)-1))with|none=>none|some p=>match(!(ieq (A7 a (0+(A2 (w64 ((((A2 (A3 k)):Nat):Int)-1)))) 0) e))with
      |true=>some (.inr (.inl (false,())))
      |false=>match(!j)with
      |true=>some (.inl (g,(CT (A2 (A3 k)) a),c,(BC d e (w64 (((A8 d e).getD 0)+1))),h,i,(w64 (f+1)),()))
      |false=>some (.inl (g,(CT (A2 (A3 k)) a),c,d,h,i,(w64 (f+1)),()))
     |false=>match(!j)with
     |true=>some (.inl (g,(CT (A2 (A3 k)) a),c,(BC d e (w64 (((A8 d e).getD 0)+1))),h,i,(w64 (f+1)),()))
     |false=>some (.inl (g,(CT (A2 (A3 k)) a),c,d,h,i,(w64 (f+1)),()))
    |false=>match(ilt 0 ((A8 c b).getD 0))with
    |true=>some (.inr (.inl (false,())))
    |false=>match(fits ((A3 a)+(A3 ([b]:List (Int)))))with
    |true=>match(!j)with
     |true=>match idx (Bi a ([b]:List (Int))) (w64 ((A3 (Bi a ([b]:List (Int))))-1))with|none=>none|some q=>match(!(ieq (A7 (Bi a ([b]:List (Int))) (A2 (w64 ((A3 (Bi a ([b]:List (Int))))-1))) 0) e))with
      |true=>some (.inr (.inl (false,())))
      |false=>match(!j)with
      |true=>some (.inl (g,(Bi a ([b]:List (Int))),(BC c b (w64 (((A8 c b).getD 0)+1))),(BC d e (w64 (((A8 d e).getD 0)+1))),h,i,(w64 (f+1)),()))
      |false=>some (.inl (g,(Bi a ([b]:List (Int))),(BC c b (w64 (((A8 c b).getD 0)+1))),d,h,i,(w64 (f+1)),()))
     |false=>match(!j)with
     |true=>some (.inl (g,(Bi a ([b]:List (Int))),(BC c b (w64 (((A8 c b).getD 0)+1))),(BC d e (w64 (((A8 d e).getD 0)+1))),h,i,(w64 (f+1)),()))
     |false=>some (.inl (g,(Bi a ([b]:List (Int))),(BC c b (w64 (((A8 c b).getD 0)+1))),d,h,i,(w64 (f+1)),()))
    |false=>none
   |false=>match(ilt 0 ((A8 c b).getD 0))with
   |true=>some (.inr (.inl (false,())))
   |false=>match(fits ((A3 a)+(A3 ([b]:List (Int)))))with
   |true=>match(!j)with
    |true=>match idx (Bi a ([b]:List (Int))) (w64 ((A3 (Bi a ([b]:List (Int))))-1))with|none=>none|some r=>match(!(ieq (A7 (Bi a ([b]:List (Int))) (A2 (w64 ((A3 (Bi a ([b]:List (Int))))-1))) 0) e))with
     |true=>some (.inr (.inl (false,())))
     |false=>match(!j)with
     |true=>some (.inl (g,(Bi a ([b]:List (Int))),(BC c b (w64 (((A8 c b).getD 0)+1))),(BC d e (w64 (((A8 d e).getD 0)+1))),h,i,(w64 (f+1)),()))
     |false=>some (.inl (g,(Bi a ([b]:List (Int))),(BC c b (w64 (((A8 c b).getD 0)+1))),d,h,i,(w64 (f+1)),()))
    |false=>match(!j)with
    |true=>some (.inl (g,(Bi a ([b]:List (Int))),(BC c b (w64 (((A8 c b).getD 0)+1))),(BC d e (w64 (((A8 d e).getD 0)+1))),h,i,(w64 (f+1)),()))
    |false=>some (.inl (g,(Bi a ([b]:List (Int))),(BC c b (w64 (((A8 c b).getD 0)+1))),d,h,i,(w64 (f+1)),()))
   |false=>none
  |false=>match(!j)with
  |true=>match idx a (w64 ((A3 a)-1))with|none=>none|some s=>match(!(ieq (A7 a (A2 (w64 ((A3 a)-1))) 0) e))with
   |true=>some (.inr (.inl (false,())))
   |false=>match(!j)with
   |true=>some (.inl (g,a,c,(BC d e (w64 (((A8 d e).getD 0)+1))),h,i,(w64 (f+1)),()))
   |false=>some (.inl (g,a,c,d,h,i,(w64 (f+1)),()))
  |false=>match(!j)with
  |true=>some (.inl (g,a,c,(BC d e (w64 (((A8 d e).getD 0)+1))),h,i,(w64 (f+1)),()))
  |false=>some (.inl (g,a,c,d,h,i,(w64 (f+1)),()))
 |false=>some (.inr (.inr (.inl (a,c,d,()))))
def AAS[Lk]:(Int×List Int×Unit)->Option (Uc):=fun(b,a,_)=>
 match idx a 0 with|none=>none|some c=>match tin (b,c,())with|none=>none|some (d,_)=>match(!d)with
 |true=>some (false,())
 |false=>match idx a 0 with|none=>none|some e=>match idx a 0 with|none=>none|some f=>match A_ QE many (b,([e]:List (Int)),(BC ([]:List Um) f 1),([]:List Um),a,(A3 a),0,())with|none=>none|some r=>match r with
 |.inl (g,_)=>some (g,())
 |.inr r=>match r with
 |.inl (h,i,j,_)=>match(ieq (A3 h) 1)with
  |true=>some ((ieq (A3 j) (A3 i)),())
  |false=>some (false,())
 |.inr _=>none
def goes[Lk]:=lkk AAS
theorem ADR v:goes v=AAS v:=A0 _
def M'[Lk]:Ub->Option (Uc):=fun(a,_)=>
 some ((!(ieq a a)),())
def AGr[Lk]:=lkk M'
theorem K7 v:AGr v=M' v:=A0 _
def Hi[Lk]:U4->Option (Ub):=fun(a,b,_)=>
 match AGr (a,())with|none=>none|some (d,_)=>match AGr (b,())with|none=>none|some (c,_)=>match d with
 |true=>match c with
  |true=>some (0,())
  |false=>some ((-1:Int),())
 |false=>match c with
 |true=>some (1,())
 |false=>match(ilt a b)with
 |true=>some ((-1:Int),())
 |false=>match(ilt b a)with
 |true=>some (1,())
 |false=>some (0,())
def Eb[Lk]:=lkk Hi
theorem Ie v:Eb v=Hi v:=A0 _
abbrev kK:A1:=[AM,Ad]
def kL[Lk]:V2->Option (Ub):=fun(a,b,_)=>
 match idx a 0 with|none=>none|some c=>match idx b 0 with|none=>none|some d=>match Eb (c,d,())with|none=>none|some (e,_)=>some (e,())
def DA[Lk]:=lkk kL
theorem px v:DA v=kL v:=A0 _
def Iw:List Int:=[0,1,2,2,3,3,3,3,4,4,4,4,4,4,4,4,5,5,5,5,5,5,5,5,5,5,5,5,5,5,5,5,6,6,6,6,6,6,6,6,6,6,6,6,6,6,6,6,6,6,6,6,6,6,6,6,6,6,6,6,6,6,6,6,7,7,7,7,7,7,7,7,7,7,7,7,7,7,7,7,7,7,7,7,7,7,7,7,7,7,7,7,7,7,7,7,7,7,7,7,7,7,7,7,7,7,7,7,7,7,7,7,7,7,7,7,7,7,7,7,7,7,7,7,7,7,7,7,8,8,8,8,8,8,8,8,8,8,8,8,8,8,8,8,8,8,8,8,8,8,8,8,8,8,8,8,8,8,8,8,8,8,8,8,8,8,8,8,8,8,8,8,8,8,8,8,8,8,8,8,8,8,8,8,8,8,8,8,8,8,8,8,8,8,8,8,8,8,8,8,8,8,8,8,8,8,8,8,8,8,8,8,8,8,8,8,8,8,8,8,8,8,8,8,8,8,8,8,8,8,8,8,8,8,8,8,8,8,8,8,8,8,8,8,8,8,8,8,8,8,8,8,8,8,8,8]
abbrev m6:A1:=[(.tmp 0,.dat (.int .u64))]
def m7[Lk]:Ub->Option (Ub):=fun(a,_)=>
 match(ile 4294967296 a)with
 |true=>match shr? .u64 a 32 with|none=>none|some b=>match(ile 65536 b)with
  |true=>match shr? .u64 b 16 with|none=>none|some c=>match(ile 256 c)with
   |true=>match shr? .u64 c 8 with|none=>none|some e=>match idx Iw (IntKind.wrap .u8 e)with|none=>none|some f=>some ((w64 ((w64 ((w64 (32+16))+8))+(w64 f))),())
   |false=>match idx Iw (IntKind.wrap .u8 c)with|none=>none|some g=>some ((w64 ((w64 (32+16))+(w64 g))),())
  |false=>match(ile 256 b)with
  |true=>match shr? .u64 b 8 with|none=>none|some h=>match idx Iw (IntKind.wrap .u8 h)with|none=>none|some i=>some ((w64 ((w64 (32+8))+(w64 i))),())
  |false=>match idx Iw (IntKind.wrap .u8 b)with|none=>none|some j=>some ((w64 (32+(w64 j))),())
 |false=>match(ile 65536 a)with
 |true=>match shr? .u64 a 16 with|none=>none|some d=>match(ile 256 d)with
  |true=>match shr? .u64 d 8 with|none=>none|some k=>match idx Iw (IntKind.wrap .u8 k)with|none=>none|some l=>some ((w64 ((w64 ((w64 (0+16))+8))+(w64 l))),())
  |false=>match idx Iw (IntKind.wrap .u8 d)with|none=>none|some m=>some ((w64 ((w64 (0+16))+(w64 m))),())
 |false=>match(ile 256 a)with
 |true=>match shr? .u64 a 8 with|none=>none|some n=>match idx Iw (IntKind.wrap .u8 n)with|none=>none|some o=>some ((w64 ((w64 (0+8))+(w64 o))),())
 |false=>match idx Iw (IntKind.wrap .u8 a)with|none=>none|some p=>some ((w64 (0+(w64 p))),())
def ADG[Lk]:=lkk m7
theorem tX v:ADG v=m7 v:=A0 _
def W_[Lk]:Ub->Option (Ub):=fun(a,_)=>
 match ADG (a,())with|none=>none|some (b,_)=>some (b,())
def bitsLen[Lk]:=lkk W_
theorem dO v:bitsLen v=W_ v:=A0 _
abbrev AD8:A1:=[(.tmp 0,.box 1),(.cell 0 0,.dat (.int .u64))]
abbrev AD7:A1:=[Ab,(.cell 0 0,.dat (.int .u64)),(.tmp 0,.dat (.int .u64))]
def VK[Lk]:Ub->Option (U4):=fun(a,_)=>
 match shl? .u64 a 13 with|none=>none|some b=>match shr? .u64 (IntKind.wrap .u64 ((BitVec.ofInt (IntKind.bits .u64) a ^^^ BitVec.ofInt (IntKind.bits .u64) b).toNat)) 7 with|none=>none|some c=>match shl? .u64 (IntKind.wrap .u64 ((BitVec.ofInt (IntKind.bits .u64) (IntKind.wrap .u64 ((BitVec.ofInt (IntKind.bits .u64) a ^^^ BitVec.ofInt (IntKind.bits .u64) b).toNat)) ^^^ BitVec.ofInt (IntKind.bits .u64) c).toNat)) 17 with|none=>none|some d=>some ((IntKind.wrap .u64 ((BitVec.ofInt (IntKind.bits .u64) (IntKind.wrap .u64 ((BitVec.ofInt (IntKind.bits .u64) (IntKind.wrap .u64 ((BitVec.ofInt (IntKind.bits .u64) a ^^^ BitVec.ofInt (IntKind.bits .u64) b).toNat)) ^^^ BitVec.ofInt (IntKind.bits .u64) c).toNat)) ^^^ BitVec.ofInt (IntKind.bits .u64) d).toNat)),(IntKind.wrap .u64 ((BitVec.ofInt (IntKind.bits .u64) (IntKind.wrap .u64 ((BitVec.ofInt (IntKind.bits .u64) (IntKind.wrap .u64 ((BitVec.ofInt (IntKind.bits .u64) a ^^^ BitVec.ofInt (IntKind.bits .u64) b).toNat)) ^^^ BitVec.ofInt (IntKind.bits .u64) c).toNat)) ^^^ BitVec.ofInt (IntKind.bits .u64) d).toNat)),())
def xorNext[Lk]:=lkk VK
theorem Zf v:xorNext v=VK v:=A0 _
def WN[Lk]:Ub->Option (Ub):=fun(a,_)=>
 match bitsLen ((IntKind.wrap .u64 a),())with|none=>none|some (b,_)=>match shl? .u64 1 b with|none=>none|some c=>some (c,())
def ZB[Lk]:=lkk WN
theorem bW v:ZB v=WN v:=A0 _
abbrev tLt[Lk](y:Int):Bool:=ilt y (0:Int)
abbrev tId[Lk](y:Bool):Bool:=y
def ZJ[Lk]{α β:Type}(z:α)(c:α×α×Unit->Option (β×Unit))(t:β->Bool):(List α×Int×Int×Int×Int×Unit)->Option ((List α×Int×Int×Int×Int×Unit)⊕(List α×Int×Int×Int×Unit)⊕Unit):=fun(b,d,e,f,a,_)=>
 match(ilt d a)with
 |true=>match idx b a with|none=>none|some h=>match idx b (w64 (a-1))with|none=>none|some i=>match c ((A7 b (A2 a) z),(A7 b (A2 (w64 (a-1))) z),())with|none=>none|some (g,_)=>match(t g)with
  |true=>match idx b (w64 (a-1))with|none=>none|some j=>match idx b a with|none=>none|some k=>match idx b a with|none=>none|some l=>match idx (Bb b (A2 a) (A7 b (A2 (w64 (a-1))) z)) (w64 (a-1))with|none=>none|some m=>some (.inl ((Bb (Bb b (A2 a) (A7 b (A2 (w64 (a-1))) z)) (A2 (w64 (a-1))) (A7 b (A2 a) z)),d,e,f,(w64 (a-1)),()))
  |false=>some (.inr (.inl (b,d,e,f,())))
 |false=>some (.inr (.inl (b,d,e,f,())))
def ZK[Lk]{α β:Type}(z:α)(c:α×α×Unit->Option (β×Unit))(t:β->Bool):(List α×Int×Int×Int×Unit)->Option ((List α×Int×Int×Int×Unit)⊕(List α×Unit)⊕Unit):=fun(b,e,d,a,_)=>
 match(ilt a d)with
 |true=>match A_ (ZJ z c t) many (b,e,d,a,a,())with|none=>none|some r=>match r with
  |.inl (f,g,h,i,_)=>some (.inl (f,g,h,(w64 (i+1)),()))
  |.inr _=>none
 |false=>some (.inr (.inl (b,())))
def Ox[Lk]{α β:Type}(z:α)(c:α×α×Unit->Option (β×Unit))(t:β->Bool):(List α×Int×Int×Unit)->Option ((List α×Unit)):=fun(b,a,d,_)=>
 match A_ (ZK z c t) many (b,a,d,(w64 (a+1)),())with|none=>none|some r=>match r with
 |.inl (e,_)=>some (e,())
 |.inr _=>none
def tn[Lk]{α β:Type}(z:α)(c:α×α×Unit->Option (β×Unit))(t:β->Bool)(v:(List α×Int×Int×Unit)):Option ((List α×Unit)):=Lk.f ((Ox z c t) v)
theorem ATX{α β:Type}(z:α)(c:α×α×Unit->Option (β×Unit))(t:β->Bool)(v:(List α×Int×Int×Unit)):(tn z c t) v=(Ox z c t) v:=A0 _
def Sl[Lk]{α β:Type}(z:α)(c:α×α×Unit->Option (β×Unit))(t:β->Bool):(List α×Int×Int×Int×Unit)->Option ((List α×Int×Int×Int×Unit)⊕(List α×Unit)⊕(List α×Unit)⊕Unit):=fun(d,e,b,a,_)=>
 match(ile e (w64 ((w64 (2*a))+1)))with
 |true=>some (.inr (.inl (d,())))
 |false=>match(ilt (w64 ((w64 ((w64 (2*a))+1))+1)) e)with
 |true=>match idx d (w64 (b+(w64 ((w64 (2*a))+1))))with|none=>none|some j=>match idx d (w64 ((w64 (b+(w64 ((w64 (2*a))+1))))+1))with|none=>none|some k=>match c ((A7 d (A2 (w64 (b+(w64 ((w64 (2*a))+1))))) z),(A7 d (A2 (w64 ((w64 (b+(w64 ((w64 (2*a))+1))))+1))) z),())with|none=>none|some (f,_)=>match(t f)with
  |true=>match idx d (w64 (b+a))with|none=>none|some l=>match idx d (w64 (b+(w64 ((w64 ((w64 (2*a))+1))+1))))with|none=>none|some m=>match c ((A7 d (A2 (w64 (b+a))) z),(A7 d (A2 (w64 (b+(w64 ((w64 ((w64 (2*a))+1))+1))))) z),())with|none=>none|some (g,_)=>match(!(t g))with
   |true=>some (.inr (.inr (.inl (d,()))))
   |false=>match idx d (w64 (b+(w64 ((w64 ((w64 (2*a))+1))+1))))with|none=>none|some n=>match idx d (w64 (b+a))with|none=>none|some o=>match idx d (w64 (b+a))with|none=>none|some p=>match idx (Bb d (A2 (w64 (b+a))) (A7 d (A2 (w64 (b+(w64 ((w64 ((w64 (2*a))+1))+1))))) z)) (w64 (b+(w64 ((w64 ((w64 (2*a))+1))+1))))with|none=>none|some q=>some (.inl ((Bb (Bb d (A2 (w64 (b+a))) (A7 d (A2 (w64 (b+(w64 ((w64 ((w64 (2*a))+1))+1))))) z)) (A2 (w64 (b+(w64 ((w64 ((w64 (2*a))+1))+1))))) (A7 d (A2 (w64 (b+a))) z)),e,b,(w64 ((w64 ((w64 (2*a))+1))+1)),()))
  |false=>match idx d (w64 (b+a))with|none=>none|some r=>match idx d (w64 (b+(w64 ((w64 (2*a))+1))))with|none=>none|some s=>match c ((A7 d (A2 (w64 (b+a))) z),(A7 d (A2 (w64 (b+(w64 ((w64 (2*a))+1))))) z),())with|none=>none|some (h,_)=>match(!(t h))with
  |true=>some (.inr (.inr (.inl (d,()))))
  |false=>match idx d (w64 (b+(w64 ((w64 (2*a))+1))))with|none=>none|some u=>match idx d (w64 (b+a))with|none=>none|some v=>match idx d (w64 (b+a))with|none=>none|some w=>match idx (Bb d (A2 (w64 (b+a))) (A7 d (A2 (w64 (b+(w64 ((w64 (2*a))+1))))) z)) (w64 (b+(w64 ((w64 (2*a))+1))))with|none=>none|some x=>some (.inl ((Bb (Bb d (A2 (w64 (b+a))) (A7 d (A2 (w64 (b+(w64 ((w64 (2*a))+1))))) z)) (A2 (w64 (b+(w64 ((w64 (2*a))+1))))) (A7 d (A2 (w64 (b+a))) z)),e,b,(w64 ((w64 (2*a))+1)),()))
 |false=>match idx d (w64 (b+a))with|none=>none|some y=>match idx d (w64 (b+(w64 ((w64 (2*a))+1))))with|none=>none|some A=>match c ((A7 d (A2 (w64 (b+a))) z),(A7 d (A2 (w64 (b+(w64 ((w64 (2*a))+1))))) z),())with|none=>none|some (i,_)=>match(!(t i))with
 |true=>some (.inr (.inr (.inl (d,()))))
 |false=>match idx d (w64 (b+(w64 ((w64 (2*a))+1))))with|none=>none|some B=>match idx d (w64 (b+a))with|none=>none|some C=>match idx d (w64 (b+a))with|none=>none|some D=>match idx (Bb d (A2 (w64 (b+a))) (A7 d (A2 (w64 (b+(w64 ((w64 (2*a))+1))))) z)) (w64 (b+(w64 ((w64 (2*a))+1))))with|none=>none|some E=>some (.inl ((Bb (Bb d (A2 (w64 (b+a))) (A7 d (A2 (w64 (b+(w64 ((w64 (2*a))+1))))) z)) (A2 (w64 (b+(w64 ((w64 (2*a))+1))))) (A7 d (A2 (w64 (b+a))) z)),e,b,(w64 ((w64 (2*a))+1)),()))
def Ky[Lk]{α β:Type}(z:α)(c:α×α×Unit->Option (β×Unit))(t:β->Bool):(List α×Int×Int×Int×Unit)->Option ((List α×Unit)):=fun(a,b,d,e,_)=>
 match A_ (Sl z c t) many (a,d,e,b,())with|none=>none|some r=>match r with
 |.inl (f,_)=>some (f,())
 |.inr r=>match r with
 |.inl (g,_)=>some (g,())
 |.inr _=>none
def Sm[Lk]{α β:Type}(z:α)(c:α×α×Unit->Option (β×Unit))(t:β->Bool)(v:(List α×Int×Int×Int×Unit)):Option ((List α×Unit)):=Lk.f ((Ky z c t) v)
theorem ALO{α β:Type}(z:α)(c:α×α×Unit->Option (β×Unit))(t:β->Bool)(v:(List α×Int×Int×Int×Unit)):(Sm z c t) v=(Ky z c t) v:=A0 _
def Tg[Lk]{α β:Type}(z:α)(c:α×α×Unit->Option (β×Unit))(t:β->Bool):(List α×Int×Int×Int×Unit)->Option ((List α×Int×Int×Int×Unit)⊕(List α×Unit)⊕Unit):=fun(b,a,e,d,_)=>
 match(ile 0 d)with
 |true=>match idx b (w64 (a+d))with|none=>none|some g=>match idx b a with|none=>none|some h=>match idx b a with|none=>none|some i=>match idx (Bb b (A2 a) (A7 b (A2 (w64 (a+d))) z)) (w64 (a+d))with|none=>none|some j=>match(Sm z c t) ((Bb (Bb b (A2 a) (A7 b (A2 (w64 (a+d))) z)) (A2 (w64 (a+d))) (A7 b (A2 a) z)),e,d,a,())with|none=>none|some (f,_)=>some (.inl (f,a,e,(w64 (d-1)),()))
 |false=>some (.inr (.inl (b,())))
def Th[Lk]{α β:Type}(z:α)(c:α×α×Unit->Option (β×Unit))(t:β->Bool):(List α×Int×Int×Int×Int×Unit)->Option ((List α×Int×Int×Int×Int×Unit)⊕(List α×Int×Int×Int×Unit)⊕Unit):=fun(e,a,f,b,d,_)=>
 match(ile 0 d)with
 |true=>match(Sm z c t) (e,d,b,a,())with|none=>none|some (g,_)=>some (.inl (g,a,f,b,(w64 (d-1)),()))
 |false=>some (.inr (.inl (e,a,f,b,())))
def LC[Lk]{α β:Type}(z:α)(c:α×α×Unit->Option (β×Unit))(t:β->Bool):(List α×Int×Int×Unit)->Option ((List α×Unit)):=fun(d,a,b,_)=>
 match quo? .i64 (w64 ((w64 (b-a))-1)) 2 with|none=>none|some e=>match A_ (Th z c t) many (d,a,0,(w64 (b-a)),e,())with|none=>none|some r=>match r with
 |.inl (f,g,h,i,_)=>match A_ (Tg z c t) many (f,g,h,(w64 (i-1)),())with|none=>none|some r=>match r with
  |.inl (j,_)=>some (j,())
  |.inr _=>none
 |.inr _=>none
def Xq[Lk]{α β:Type}(z:α)(c:α×α×Unit->Option (β×Unit))(t:β->Bool)(v:(List α×Int×Int×Unit)):Option ((List α×Unit)):=Lk.f ((LC z c t) v)
theorem AOW{α β:Type}(z:α)(c:α×α×Unit->Option (β×Unit))(t:β->Bool)(v:(List α×Int×Int×Unit)):(Xq z c t) v=(LC z c t) v:=A0 _
def Mj[Lk]{α β:Type}(z:α)(c:α×α×Unit->Option (β×Unit))(t:β->Bool):(List α×Int×Int×Int×Int×Int×Unit)->Option ((List α×Int×Int×Int×Int×Int×Unit)⊕(List α×Unit)⊕Unit):=fun(a,b,g,i,d,e,_)=>
 match quo? .i64 g 4 with|none=>none|some j=>match(ile e (w64 ((w64 (b+(w64 (j*2))))+1)))with
 |true=>match xorNext (i,())with|none=>none|some (h,f,_)=>match(ile g (w64 (IntKind.wrap .u64 ((BitVec.ofInt (IntKind.bits .u64) f &&& BitVec.ofInt (IntKind.bits .u64) (IntKind.wrap .u64 (d-1))).toNat))))with
  |true=>match idx a (w64 (b+(w64 ((w64 (IntKind.wrap .u64 ((BitVec.ofInt (IntKind.bits .u64) f &&& BitVec.ofInt (IntKind.bits .u64) (IntKind.wrap .u64 (d-1))).toNat)))-g))))with|none=>none|some k=>match idx a e with|none=>none|some l=>match idx a e with|none=>none|some m=>match idx (Bb a (A2 e) (A7 a (A2 (w64 (b+(w64 ((w64 (IntKind.wrap .u64 ((BitVec.ofInt (IntKind.bits .u64) f &&& BitVec.ofInt (IntKind.bits .u64) (IntKind.wrap .u64 (d-1))).toNat)))-g))))) z)) (w64 (b+(w64 ((w64 (IntKind.wrap .u64 ((BitVec.ofInt (IntKind.bits .u64) f &&& BitVec.ofInt (IntKind.bits .u64) (IntKind.wrap .u64 (d-1))).toNat)))-g))))with|none=>none|some n=>some (.inl ((Bb (Bb a (A2 e) (A7 a (A2 (w64 (b+(w64 ((w64 (IntKind.wrap .u64 ((BitVec.ofInt (IntKind.bits .u64) f &&& BitVec.ofInt (IntKind.bits .u64) (IntKind.wrap .u64 (d-1))).toNat)))-g))))) z)) (A2 (w64 (b+(w64 ((w64 (IntKind.wrap .u64 ((BitVec.ofInt (IntKind.bits .u64) f &&& BitVec.ofInt (IntKind.bits .u64) (IntKind.wrap .u64 (d-1))).toNat)))-g))))) (A7 a (A2 e) z)),b,g,h,d,(w64 (e+1)),()))
  |false=>match idx a (w64 (b+(w64 (IntKind.wrap .u64 ((BitVec.ofInt (IntKind.bits .u64) f &&& BitVec.ofInt (IntKind.bits .u64) (IntKind.wrap .u64 (d-1))).toNat)))))with|none=>none|some o=>match idx a e with|none=>none|some p=>match idx a e with|none=>none|some q=>match idx (Bb a (A2 e) (A7 a (A2 (w64 (b+(w64 (IntKind.wrap .u64 ((BitVec.ofInt (IntKind.bits .u64) f &&& BitVec.ofInt (IntKind.bits .u64) (IntKind.wrap .u64 (d-1))).toNat)))))) z)) (w64 (b+(w64 (IntKind.wrap .u64 ((BitVec.ofInt (IntKind.bits .u64) f &&& BitVec.ofInt (IntKind.bits .u64) (IntKind.wrap .u64 (d-1))).toNat)))))with|none=>none|some r=>some (.inl ((Bb (Bb a (A2 e) (A7 a (A2 (w64 (b+(w64 (IntKind.wrap .u64 ((BitVec.ofInt (IntKind.bits .u64) f &&& BitVec.ofInt (IntKind.bits .u64) (IntKind.wrap .u64 (d-1))).toNat)))))) z)) (A2 (w64 (b+(w64 (IntKind.wrap .u64 ((BitVec.ofInt (IntKind.bits .u64) f &&& BitVec.ofInt (IntKind.bits .u64) (IntKind.wrap .u64 (d-1))).toNat)))))) (A7 a (A2 e) z)),b,g,h,d,(w64 (e+1)),()))
 |false=>some (.inr (.inl (a,())))
def Ih[Lk]{α β:Type}(z:α)(c:α×α×Unit->Option (β×Unit))(t:β->Bool):(List α×Int×Int×Unit)->Option ((List α×Unit)):=fun(d,a,b,_)=>
 match(ile 8 (w64 (b-a)))with
 |true=>match ZB ((w64 (b-a)),())with|none=>none|some (e,_)=>match quo? .i64 (w64 (b-a)) 4 with|none=>none|some f=>match A_ (Mj z c t) many (d,a,(w64 (b-a)),(IntKind.wrap .u64 (w64 (b-a))),e,(w64 ((w64 (a+(w64 (f*2))))-1)),())with|none=>none|some r=>match r with
  |.inl (g,_)=>some (g,())
  |.inr _=>none
 |false=>some (d,())
def PO[Lk]{α β:Type}(z:α)(c:α×α×Unit->Option (β×Unit))(t:β->Bool)(v:(List α×Int×Int×Unit)):Option ((List α×Unit)):=Lk.f ((Ih z c t) v)
theorem AJn{α β:Type}(z:α)(c:α×α×Unit->Option (β×Unit))(t:β->Bool)(v:(List α×Int×Int×Unit)):(PO z c t) v=(Ih z c t) v:=A0 _
def GM[Lk]{α β:Type}(z:α)(c:α×α×Unit->Option (β×Unit))(t:β->Bool):(List α×Int×Int×Int×Unit)->Option ((List α×Int×Int×Int×Unit)):=fun(a,b,d,e,_)=>
 match idx a d with|none=>none|some g=>match idx a b with|none=>none|some h=>match c ((A7 a (A2 d) z),(A7 a (A2 b) z),())with|none=>none|some (f,_)=>match(t f)with
 |true=>some (a,(w64 (e+1)),d,b,())
 |false=>some (a,e,b,d,())
def Hs[Lk]{α β:Type}(z:α)(c:α×α×Unit->Option (β×Unit))(t:β->Bool)(v:(List α×Int×Int×Int×Unit)):Option ((List α×Int×Int×Int×Unit)):=Lk.f ((GM z c t) v)
theorem zP{α β:Type}(z:α)(c:α×α×Unit->Option (β×Unit))(t:β->Bool)(v:(List α×Int×Int×Int×Unit)):(Hs z c t) v=(GM z c t) v:=A0 _
def GP[Lk]{α β:Type}(z:α)(c:α×α×Unit->Option (β×Unit))(t:β->Bool):(List α×Int×Int×Int×Int×Unit)->Option ((List α×Int×Int×Unit)):=fun(a,b,d,e,f,_)=>
 match(Hs z c t) (a,b,d,f,())with|none=>none|some (g,h,i,j,_)=>match(Hs z c t) (g,j,e,h,())with|none=>none|some (k,l,m,q,_)=>match(Hs z c t) (k,i,m,l,())with|none=>none|some (n,o,r,p,_)=>some (n,o,p,())
def Hv[Lk]{α β:Type}(z:α)(c:α×α×Unit->Option (β×Unit))(t:β->Bool)(v:(List α×Int×Int×Int×Int×Unit)):Option ((List α×Int×Int×Unit)):=Lk.f ((GP z c t) v)
theorem zi{α β:Type}(z:α)(c:α×α×Unit->Option (β×Unit))(t:β->Bool)(v:(List α×Int×Int×Int×Int×Unit)):(Hv z c t) v=(GP z c t) v:=A0 _
def GQ[Lk]{α β:Type}(z:α)(c:α×α×Unit->Option (β×Unit))(t:β->Bool):(List α×Int×Int×Unit)->Option ((List α×Int×Int×Unit)):=fun(b,a,d,_)=>
 match(Hv z c t) (b,(w64 (a-1)),a,(w64 (a+1)),d,())with|none=>none|some (e,f,g,_)=>some (e,f,g,())
def Hw[Lk]{α β:Type}(z:α)(c:α×α×Unit->Option (β×Unit))(t:β->Bool)(v:(List α×Int×Int×Unit)):Option ((List α×Int×Int×Unit)):=Lk.f ((GQ z c t) v)
theorem zo{α β:Type}(z:α)(c:α×α×Unit->Option (β×Unit))(t:β->Bool)(v:(List α×Int×Int×Unit)):(Hw z c t) v=(GQ z c t) v:=A0 _
def IP[Lk]{α β:Type}(z:α)(c:α×α×Unit->Option (β×Unit))(t:β->Bool):(List α×Int×Int×Unit)->Option ((List α×Int×Int×Unit)):=fun(b,a,d,_)=>
 match quo? .i64 (w64 (d-a)) 4 with|none=>none|some j=>match quo? .i64 (w64 (d-a)) 4 with|none=>none|some e=>match quo? .i64 (w64 (d-a)) 4 with|none=>none|some k=>match(ile 8 (w64 (d-a)))with
 |true=>match(ile 50 (w64 (d-a)))with
  |true=>match(Hw z c t) (b,(w64 (a+(w64 (j*1)))),0,())with|none=>none|some (n,o,p,_)=>match(Hw z c t) (n,(w64 (a+(w64 (e*2)))),o,())with|none=>none|some (q,r,s,_)=>match(Hw z c t) (q,(w64 (a+(w64 (k*3)))),r,())with|none=>none|some (u,v,w,_)=>match(Hv z c t) (u,p,s,w,v,())with|none=>none|some (f,l,g,_)=>match(ieq l 0)with
   |true=>some (f,g,1,())
   |false=>match(ieq l 12)with
   |true=>some (f,g,2,())
   |false=>some (f,g,0,())
  |false=>match(Hv z c t) (b,(w64 (a+(w64 (j*1)))),(w64 (a+(w64 (e*2)))),(w64 (a+(w64 (k*3)))),0,())with|none=>none|some (h,m,i,_)=>match(ieq m 0)with
  |true=>some (h,i,1,())
  |false=>match(ieq m 12)with
  |true=>some (h,i,2,())
  |false=>some (h,i,0,())
 |false=>match(ieq 0 0)with
 |true=>some (b,(w64 (a+(w64 (e*2)))),1,())
 |false=>match(ieq 0 12)with
 |true=>some (b,(w64 (a+(w64 (e*2)))),2,())
 |false=>some (b,(w64 (a+(w64 (e*2)))),0,())
def OX[Lk]{α β:Type}(z:α)(c:α×α×Unit->Option (β×Unit))(t:β->Bool)(v:(List α×Int×Int×Unit)):Option ((List α×Int×Int×Unit)):=Lk.f ((IP z c t) v)
theorem AFu{α β:Type}(z:α)(c:α×α×Unit->Option (β×Unit))(t:β->Bool)(v:(List α×Int×Int×Unit)):(OX z c t) v=(IP z c t) v:=A0 _
def l6[Lk]{α β:Type}(z:α)(c:α×α×Unit->Option (β×Unit))(t:β->Bool):(List α×Int×Int×Unit)->Option ((List α×Int×Int×Unit)⊕(List α×Unit)⊕Unit):=fun(a,b,d,_)=>
 match(ilt b d)with
 |true=>match idx a d with|none=>none|some e=>match idx a b with|none=>none|some f=>match idx a b with|none=>none|some g=>match idx (Bb a (A2 b) (A7 a (A2 d) z)) d with|none=>none|some h=>some (.inl ((Bb (Bb a (A2 b) (A7 a (A2 d) z)) (A2 d) (A7 a (A2 b) z)),(w64 (b+1)),(w64 (d-1)),()))
 |false=>some (.inr (.inl (a,())))
def OT[Lk]{α β:Type}(z:α)(c:α×α×Unit->Option (β×Unit))(t:β->Bool):(List α×Int×Int×Unit)->Option ((List α×Unit)):=fun(a,b,d,_)=>
 match A_ (l6 z c t) many (a,b,(w64 (d-1)),())with|none=>none|some r=>match r with
 |.inl (e,_)=>some (e,())
 |.inr _=>none
def rJ[Lk]{α β:Type}(z:α)(c:α×α×Unit->Option (β×Unit))(t:β->Bool)(v:(List α×Int×Int×Unit)):Option ((List α×Unit)):=Lk.f ((OT z c t) v)
theorem AR0{α β:Type}(z:α)(c:α×α×Unit->Option (β×Unit))(t:β->Bool)(v:(List α×Int×Int×Unit)):(rJ z c t) v=(OT z c t) v:=A0 _
def K1[Lk]{α β:Type}(z:α)(c:α×α×Unit->Option (β×Unit))(t:β->Bool):(List α×Int×Int×Int×Int×Int×Unit)->Option ((List α×Int×Int×Int×Int×Int×Unit)⊕(List α×Int×Int×Int×Int×Unit)⊕Unit):=fun(b,e,d,f,g,a,_)=>
 match(ilt a d)with
 |true=>match idx b a with|none=>none|some i=>match idx b (w64 (a-1))with|none=>none|some j=>match c ((A7 b (A2 a) z),(A7 b (A2 (w64 (a-1))) z),())with|none=>none|some (h,_)=>match(!(t h))with
  |true=>some (.inr (.inl (b,e,d,f,g,())))
  |false=>match idx b (w64 (a-1))with|none=>none|some k=>match idx b a with|none=>none|some l=>match idx b a with|none=>none|some m=>match idx (Bb b (A2 a) (A7 b (A2 (w64 (a-1))) z)) (w64 (a-1))with|none=>none|some n=>some (.inl ((Bb (Bb b (A2 a) (A7 b (A2 (w64 (a-1))) z)) (A2 (w64 (a-1))) (A7 b (A2 a) z)),e,d,f,g,(w64 (a+1)),()))
 |false=>some (.inr (.inl (b,e,d,f,g,())))
def K2[Lk]{α β:Type}(z:α)(c:α×α×Unit->Option (β×Unit))(t:β->Bool):(List α×Int×Int×Int×Int×Int×Unit)->Option ((List α×Int×Int×Int×Int×Int×Unit)⊕(List α×Int×Int×Int×Int×Unit)⊕Unit):=fun(b,d,e,f,g,a,_)=>
 match(ile 1 a)with
 |true=>match idx b a with|none=>none|some i=>match idx b (w64 (a-1))with|none=>none|some j=>match c ((A7 b (A2 a) z),(A7 b (A2 (w64 (a-1))) z),())with|none=>none|some (h,_)=>match(!(t h))with
  |true=>some (.inr (.inl (b,d,e,f,g,())))
  |false=>match idx b (w64 (a-1))with|none=>none|some k=>match idx b a with|none=>none|some l=>match idx b a with|none=>none|some m=>match idx (Bb b (A2 a) (A7 b (A2 (w64 (a-1))) z)) (w64 (a-1))with|none=>none|some n=>some (.inl ((Bb (Bb b (A2 a) (A7 b (A2 (w64 (a-1))) z)) (A2 (w64 (a-1))) (A7 b (A2 a) z)),d,e,f,g,(w64 (a-1)),()))
 |false=>some (.inr (.inl (b,d,e,f,g,())))
def Od[Lk]{α β:Type}(z:α)(c:α×α×Unit->Option (β×Unit))(t:β->Bool):(List α×Int×Int×Int×Int×Unit)->Option ((List α×Int×Int×Int×Int×Unit)⊕(List α×Int×Int×Int×Int×Unit)⊕Unit):=fun(b,e,d,a,f,_)=>
 match(ilt a d)with
 |true=>match idx b a with|none=>none|some h=>match idx b (w64 (a-1))with|none=>none|some i=>match c ((A7 b (A2 a) z),(A7 b (A2 (w64 (a-1))) z),())with|none=>none|some (g,_)=>match(!(t g))with
  |true=>some (.inl (b,e,d,(w64 (a+1)),f,()))
  |false=>some (.inr (.inl (b,e,d,a,f,())))
 |false=>some (.inr (.inl (b,e,d,a,f,())))
def Ew[Lk]{α β:Type}(z:α)(c:α×α×Unit->Option (β×Unit))(t:β->Bool):(List α×Int×Int×Int×Int×Unit)->Option ((List α×Int×Int×Int×Int×Unit)⊕(List α×Bool×Unit)⊕(List α×Unit)⊕Unit):=fun(i,n,o,p,j,_)=>
 match(ilt j 5)with
 |true=>match A_ (Od z c t) many (i,n,o,p,j,())with|none=>none|some r=>match r with
  |.inl (b,e,d,a,g,_)=>match(ieq a d)with
   |true=>some (.inr (.inl (b,true,())))
   |false=>match(ilt (w64 (d-e)) 50)with
   |true=>some (.inr (.inl (b,false,())))
   |false=>match idx b (w64 (a-1))with|none=>none|some D=>match idx b a with|none=>none|some E=>match idx b a with|none=>none|some F=>match idx (Bb b (A2 a) (A7 b (A2 (w64 (a-1))) z)) (w64 (a-1))with|none=>none|some G=>match(ile 2 (w64 (a-e)))with
   |true=>match A_ (K2 z c t) many ((Bb (Bb b (A2 a) (A7 b (A2 (w64 (a-1))) z)) (A2 (w64 (a-1))) (A7 b (A2 a) z)),e,d,a,g,(w64 (a-1)),())with|none=>none|some r=>match r with
    |.inl (k,l,h,f,m,_)=>match(ile 2 (w64 (h-f)))with
     |true=>match A_ (K1 z c t) many (k,l,h,f,m,(w64 (f+1)),())with|none=>none|some r=>match r with
      |.inl (q,s,u,v,w,_)=>some (.inl (q,s,u,v,(w64 (w+1)),()))
      |.inr _=>none
     |false=>some (.inl (k,l,h,f,(w64 (m+1)),()))
    |.inr _=>none
   |false=>match(ile 2 (w64 (d-a)))with
   |true=>match A_ (K1 z c t) many ((Bb (Bb b (A2 a) (A7 b (A2 (w64 (a-1))) z)) (A2 (w64 (a-1))) (A7 b (A2 a) z)),e,d,a,g,(w64 (a+1)),())with|none=>none|some r=>match r with
    |.inl (x,y,A,B,C,_)=>some (.inl (x,y,A,B,(w64 (C+1)),()))
    |.inr _=>none
   |false=>some (.inl ((Bb (Bb b (A2 a) (A7 b (A2 (w64 (a-1))) z)) (A2 (w64 (a-1))) (A7 b (A2 a) z)),e,d,a,(w64 (g+1)),()))
  |.inr _=>none
 |false=>some (.inr (.inr (.inl (i,()))))
def Ex[Lk]{α β:Type}(z:α)(c:α×α×Unit->Option (β×Unit))(t:β->Bool):(List α×Int×Int×Unit)->Option ((List α×Bool×Unit)):=fun(b,a,d,_)=>
 match A_ (Ew z c t) many (b,a,d,(w64 (a+1)),0,())with|none=>none|some r=>match r with
 |.inl (e,f,_)=>some (e,f,())
 |.inr r=>match r with
 |.inl (g,_)=>some (g,false,())
 |.inr _=>none
def IT[Lk]{α β:Type}(z:α)(c:α×α×Unit->Option (β×Unit))(t:β->Bool)(v:(List α×Int×Int×Unit)):Option ((List α×Bool×Unit)):=Lk.f ((Ex z c t) v)
theorem sg{α β:Type}(z:α)(c:α×α×Unit->Option (β×Unit))(t:β->Bool)(v:(List α×Int×Int×Unit)):(IT z c t) v=(Ex z c t) v:=A0 _
def RY[Lk]{α β:Type}(z:α)(c:α×α×Unit->Option (β×Unit))(t:β->Bool):(List α×Int×Int×Int×Unit)->Option ((List α×Int×Int×Int×Unit)⊕(List α×Int×Int×Int×Unit)⊕Unit):=fun(a,d,e,b,_)=>
 match(ile e b)with
 |true=>match idx a d with|none=>none|some g=>match idx a b with|none=>none|some h=>match c ((A7 a (A2 d) z),(A7 a (A2 b) z),())with|none=>none|some (f,_)=>match(t f)with
  |true=>some (.inl (a,d,e,(w64 (b-1)),()))
  |false=>some (.inr (.inl (a,d,e,b,())))
 |false=>some (.inr (.inl (a,d,e,b,())))
def RZ[Lk]{α β:Type}(z:α)(c:α×α×Unit->Option (β×Unit))(t:β->Bool):(List α×Int×Int×Int×Unit)->Option ((List α×Int×Int×Int×Unit)⊕(List α×Int×Int×Int×Unit)⊕Unit):=fun(a,d,b,e,_)=>
 match(ile b e)with
 |true=>match idx a d with|none=>none|some g=>match idx a b with|none=>none|some h=>match c ((A7 a (A2 d) z),(A7 a (A2 b) z),())with|none=>none|some (f,_)=>match(!(t f))with
  |true=>some (.inl (a,d,(w64 (b+1)),e,()))
  |false=>some (.inr (.inl (a,d,b,e,())))
 |false=>some (.inr (.inl (a,d,b,e,())))
def Ra[Lk]{α β:Type}(z:α)(c:α×α×Unit->Option (β×Unit))(t:β->Bool):(List α×Int×Int×Int×Unit)->Option ((List α×Int×Int×Int×Unit)⊕(List α×Int×Unit)⊕Unit):=fun(e,f,g,h,_)=>
 match A_ (RZ z c t) many (e,f,g,h,())with|none=>none|some r=>match r with
 |.inl (i,j,k,l,_)=>match A_ (RY z c t) many (i,j,k,l,())with|none=>none|some r=>match r with
  |.inl (a,m,b,d,_)=>match(ilt d b)with
   |true=>some (.inr (.inl (a,b,())))
   |false=>match idx a d with|none=>none|some n=>match idx a b with|none=>none|some o=>match idx a b with|none=>none|some p=>match idx (Bb a (A2 b) (A7 a (A2 d) z)) d with|none=>none|some q=>some (.inl ((Bb (Bb a (A2 b) (A7 a (A2 d) z)) (A2 d) (A7 a (A2 b) z)),m,(w64 (b+1)),(w64 (d-1)),()))
  |.inr _=>none
 |.inr _=>none
def GH[Lk]{α β:Type}(z:α)(c:α×α×Unit->Option (β×Unit))(t:β->Bool):(List α×Int×Int×Int×Unit)->Option ((List α×Int×Unit)):=fun(a,b,e,d,_)=>
 match idx a d with|none=>none|some h=>match idx a b with|none=>none|some i=>match idx a b with|none=>none|some j=>match idx (Bb a (A2 b) (A7 a (A2 d) z)) d with|none=>none|some k=>match A_ (Ra z c t) many ((Bb (Bb a (A2 b) (A7 a (A2 d) z)) (A2 d) (A7 a (A2 b) z)),b,(w64 (b+1)),(w64 (e-1)),())with|none=>none|some r=>match r with
 |.inl (f,g,_)=>some (f,g,())
 |.inr _=>none
def K4[Lk]{α β:Type}(z:α)(c:α×α×Unit->Option (β×Unit))(t:β->Bool)(v:(List α×Int×Int×Int×Unit)):Option ((List α×Int×Unit)):=Lk.f ((GH z c t) v)
theorem zG{α β:Type}(z:α)(c:α×α×Unit->Option (β×Unit))(t:β->Bool)(v:(List α×Int×Int×Int×Unit)):(K4 z c t) v=(GH z c t) v:=A0 _
def bI[Lk]{α β:Type}(z:α)(c:α×α×Unit->Option (β×Unit))(t:β->Bool):(List α×Int×Int×Int×Unit)->Option ((List α×Int×Int×Int×Unit)⊕(List α×Int×Int×Int×Unit)⊕Unit):=fun(a,d,e,b,_)=>
 match(ile e b)with
 |true=>match idx a b with|none=>none|some g=>match idx a d with|none=>none|some h=>match c ((A7 a (A2 b) z),(A7 a (A2 d) z),())with|none=>none|some (f,_)=>match(!(t f))with
  |true=>some (.inl (a,d,e,(w64 (b-1)),()))
  |false=>some (.inr (.inl (a,d,e,b,())))
 |false=>some (.inr (.inl (a,d,e,b,())))
def bJ[Lk]{α β:Type}(z:α)(c:α×α×Unit->Option (β×Unit))(t:β->Bool):(List α×Int×Int×Int×Unit)->Option ((List α×Int×Int×Int×Unit)⊕(List α×Int×Int×Int×Unit)⊕Unit):=fun(a,d,b,e,_)=>
 match(ile b e)with
 |true=>match idx a b with|none=>none|some g=>match idx a d with|none=>none|some h=>match c ((A7 a (A2 b) z),(A7 a (A2 d) z),())with|none=>none|some (f,_)=>match(t f)with
  |true=>some (.inl (a,d,(w64 (b+1)),e,()))
  |false=>some (.inr (.inl (a,d,b,e,())))
 |false=>some (.inr (.inl (a,d,b,e,())))
def bK[Lk]{α β:Type}(z:α)(c:α×α×Unit->Option (β×Unit))(t:β->Bool):(List α×Int×Int×Int×Unit)->Option ((List α×Int×Int×Int×Unit)⊕(List α×Int×Int×Unit)⊕Unit):=fun(f,g,h,i,_)=>
 match A_ (bJ z c t) many (f,g,h,i,())with|none=>none|some r=>match r with
 |.inl (j,k,l,m,_)=>match A_ (bI z c t) many (j,k,l,m,())with|none=>none|some r=>match r with
  |.inl (a,e,d,b,_)=>match(ilt b d)with
   |true=>some (.inr (.inl (a,e,b,())))
   |false=>match idx a b with|none=>none|some n=>match idx a d with|none=>none|some o=>match idx a d with|none=>none|some p=>match idx (Bb a (A2 d) (A7 a (A2 b) z)) b with|none=>none|some q=>some (.inl ((Bb (Bb a (A2 d) (A7 a (A2 b) z)) (A2 b) (A7 a (A2 d) z)),e,(w64 (d+1)),(w64 (b-1)),()))
  |.inr _=>none
 |.inr _=>none
def bL[Lk]{α β:Type}(z:α)(c:α×α×Unit->Option (β×Unit))(t:β->Bool):(List α×Int×Int×Int×Unit)->Option ((List α×Int×Int×Int×Unit)⊕(List α×Int×Int×Int×Unit)⊕Unit):=fun(a,d,e,b,_)=>
 match(ile e b)with
 |true=>match idx a b with|none=>none|some g=>match idx a d with|none=>none|some h=>match c ((A7 a (A2 b) z),(A7 a (A2 d) z),())with|none=>none|some (f,_)=>match(!(t f))with
  |true=>some (.inl (a,d,e,(w64 (b-1)),()))
  |false=>some (.inr (.inl (a,d,e,b,())))
 |false=>some (.inr (.inl (a,d,e,b,())))
def bM[Lk]{α β:Type}(z:α)(c:α×α×Unit->Option (β×Unit))(t:β->Bool):(List α×Int×Int×Int×Unit)->Option ((List α×Int×Int×Int×Unit)⊕(List α×Int×Int×Int×Unit)⊕Unit):=fun(a,d,b,e,_)=>
 match(ile b e)with
 |true=>match idx a b with|none=>none|some g=>match idx a d with|none=>none|some h=>match c ((A7 a (A2 b) z),(A7 a (A2 d) z),())with|none=>none|some (f,_)=>match(t f)with
  |true=>some (.inl (a,d,(w64 (b+1)),e,()))
  |false=>some (.inr (.inl (a,d,b,e,())))
 |false=>some (.inr (.inl (a,d,b,e,())))
def K3[Lk]{α β:Type}(z:α)(c:α×α×Unit->Option (β×Unit))(t:β->Bool):(List α×Int×Int×Int×Unit)->Option ((List α×Int×Bool×Unit)):=fun(d,f,l,j,_)=>
 match idx d j with|none=>none|some q=>match idx d f with|none=>none|some s=>match idx d f with|none=>none|some u=>match idx (Bb d (A2 f) (A7 d (A2 j) z)) j with|none=>none|some v=>match A_ (bM z c t) many ((Bb (Bb d (A2 f) (A7 d (A2 j) z)) (A2 j) (A7 d (A2 f) z)),f,(w64 (f+1)),(w64 (l-1)),())with|none=>none|some r=>match r with
 |.inl (m,n,o,p,_)=>match A_ (bL z c t) many (m,n,o,p,())with|none=>none|some r=>match r with
  |.inl (a,h,g,b,_)=>match(ilt b g)with
   |true=>match idx a h with|none=>none|some w=>match idx a b with|none=>none|some x=>match idx a b with|none=>none|some y=>match idx (Bb a (A2 b) (A7 a (A2 h) z)) h with|none=>none|some A=>some ((Bb (Bb a (A2 b) (A7 a (A2 h) z)) (A2 h) (A7 a (A2 b) z)),b,true,())
   |false=>match idx a b with|none=>none|some B=>match idx a g with|none=>none|some C=>match idx a g with|none=>none|some D=>match idx (Bb a (A2 g) (A7 a (A2 b) z)) b with|none=>none|some E=>match A_ (bK z c t) many ((Bb (Bb a (A2 g) (A7 a (A2 b) z)) (A2 b) (A7 a (A2 g) z)),h,(w64 (g+1)),(w64 (b-1)),())with|none=>none|some r=>match r with
   |.inl (e,k,i,_)=>match idx e k with|none=>none|some F=>match idx e i with|none=>none|some G=>match idx e i with|none=>none|some H=>match idx (Bb e (A2 i) (A7 e (A2 k) z)) k with|none=>none|some I=>some ((Bb (Bb e (A2 i) (A7 e (A2 k) z)) (A2 k) (A7 e (A2 i) z)),i,false,())
   |.inr _=>none
  |.inr _=>none
 |.inr _=>none
def Qr[Lk]{α β:Type}(z:α)(c:α×α×Unit->Option (β×Unit))(t:β->Bool)(v:(List α×Int×Int×Int×Unit)):Option ((List α×Int×Bool×Unit)):=Lk.f ((K3 z c t) v)
theorem AND{α β:Type}(z:α)(c:α×α×Unit->Option (β×Unit))(t:β->Bool)(v:(List α×Int×Int×Int×Unit)):(Qr z c t) v=(K3 z c t) v:=A0 _
def WC[Lk]{α β:Type}(z:α)(c:α×α×Unit->Option (β×Unit))(t:β->Bool)(self:(List α×Int×Int×Int×Unit)->Option ((List α×Unit)))(f:List α)(a b p l:Int)(n o:Bool):Option ((List α×Int×Int×Int×Bool×Bool×Unit)⊕(List α×Unit)⊕Unit):=
 match(ilt 0 a)with
 |true=>match idx f (w64 (a-1))with|none=>none|some y=>match idx f p with|none=>none|some A=>match c ((A7 f (A2 (w64 (a-1))) z),(A7 f (A2 p) z),())with|none=>none|some (q,_)=>match(!(t q))with
  |true=>match(K4 z c t) (f,a,b,p,())with|none=>none|some (r,s,_)=>some (.inl (r,s,b,l,n,o,()))
  |false=>match(Qr z c t) (f,a,b,p,())with|none=>none|some (g,d,h,_)=>match quo? .i64 (w64 (b-a)) 8 with|none=>none|some i=>match(ilt (w64 (d-a)) (w64 (b-d)))with
  |true=>match self (g,a,d,l,())with|none=>none|some (u,_)=>some (.inl (u,(w64 (d+1)),b,l,(ile i (w64 (d-a))),h,()))
  |false=>match self (g,(w64 (d+1)),b,l,())with|none=>none|some (v,_)=>some (.inl (v,a,d,l,(ile i (w64 (b-d))),h,()))
 |false=>match(Qr z c t) (f,a,b,p,())with|none=>none|some (j,e,k,_)=>match quo? .i64 (w64 (b-a)) 8 with|none=>none|some m=>match(ilt (w64 (e-a)) (w64 (b-e)))with
 |true=>match self (j,a,e,l,())with|none=>none|some (w,_)=>some (.inl (w,(w64 (e+1)),b,l,(ile m (w64 (e-a))),k,()))
 |false=>match self (j,(w64 (e+1)),b,l,())with|none=>none|some (x,_)=>some (.inl (x,a,e,l,(ile m (w64 (b-e))),k,()))
def mV[Lk]{α β:Type}(z:α)(c:α×α×Unit->Option (β×Unit))(t:β->Bool)(self:(List α×Int×Int×Int×Unit)->Option ((List α×Unit)))(f:List α)(a b p h l:Int)(d e:Bool):Option ((List α×Int×Int×Int×Bool×Bool×Unit)⊕(List α×Unit)⊕Unit):=
 match d with
 |true=>match e with
  |true=>match(ieq h 1)with
   |true=>match(IT z c t) (f,a,b,())with|none=>none|some (g,i,_)=>match i with
    |true=>some (.inr (.inl (g,())))
    |false=>(WC z c t) self g a b p l d e
   |false=>(WC z c t) self f a b p l d e
  |false=>(WC z c t) self f a b p l d e
 |false=>(WC z c t) self f a b p l d e
def mU[Lk]{α β:Type}(z:α)(c:α×α×Unit->Option (β×Unit))(t:β->Bool)(self:(List α×Int×Int×Int×Unit)->Option ((List α×Unit)))(i:List α)(a b l:Int)(d e:Bool):Option ((List α×Int×Int×Int×Bool×Bool×Unit)⊕(List α×Unit)⊕Unit):=
 match(OX z c t) (i,a,b,())with|none=>none|some (f,g,h,_)=>match(ieq h 2)with
 |true=>match(rJ z c t) (f,a,b,())with|none=>none|some (j,_)=>(mV z c t) self j a b (w64 ((w64 (b-1))-(w64 (g-a)))) 1 l d e
 |false=>(mV z c t) self f a b g h l d e
def JB[Lk]{α β:Type}(z:α)(c:α×α×Unit->Option (β×Unit))(t:β->Bool)(self:(List α×Int×Int×Int×Unit)->Option ((List α×Unit))):(List α×Int×Int×Int×Bool×Bool×Unit)->Option ((List α×Int×Int×Int×Bool×Bool×Unit)⊕(List α×Unit)⊕Unit):=fun(d,a,b,e,f,g,_)=>
 match(ile (w64 (b-a)) 12)with
 |true=>match(tn z c t) (d,a,b,())with|none=>none|some (h,_)=>some (.inr (.inl (h,())))
 |false=>match(ieq e 0)with
 |true=>match(Xq z c t) (d,a,b,())with|none=>none|some (i,_)=>some (.inr (.inl (i,())))
 |false=>match(!f)with
 |true=>match(PO z c t) (d,a,b,())with|none=>none|some (j,_)=>(mU z c t) self j a b (w64 (e-1)) f g
 |false=>(mU z c t) self d a b e f g
def OY[Lk]{α β:Type}(z:α)(c:α×α×Unit->Option (β×Unit))(t:β->Bool)(self:(List α×Int×Int×Int×Unit)->Option ((List α×Unit))):(List α×Int×Int×Int×Unit)->Option ((List α×Unit)):=fun(a,b,d,e,_)=>
 match A_ ((JB z c t) self) many (a,b,d,e,true,true,())with|none=>none|some r=>match r with
 |.inl (f,_)=>some (f,())
 |.inr _=>none
def Iv[Lk]{α β:Type}(z:α)(c:α×α×Unit->Option (β×Unit))(t:β->Bool):Nat->(List α×Int×Int×Int×Unit)->Option ((List α×Unit))
 |0,_=>none
 |n+1,v=>(OY z c t) ((Iv z c t) n) v
def ry[Lk]{α β:Type}(z:α)(c:α×α×Unit->Option (β×Unit))(t:β->Bool)(v:(List α×Int×Int×Int×Unit)):Option ((List α×Unit)):=Lk.f ((Iv z c t) 100 v)
theorem ASY{α β:Type}(z:α)(c:α×α×Unit->Option (β×Unit))(t:β->Bool)(v:(List α×Int×Int×Int×Unit)):(ry z c t) v=(Iv z c t) 100 v:=A0 _
def Kt[Lk]{α β:Type}(z:α)(c:α×α×Unit->Option (β×Unit))(t:β->Bool):(List α×Unit)->Option ((List α×Unit)):=fun(a,_)=>
 match bitsLen ((IntKind.wrap .u64 (A3 a)),())with|none=>none|some (b,_)=>match(ry z c t) (a,0,(A3 a),b,())with|none=>none|some (d,_)=>some (d,())
def aH[Lk]{α β:Type}(z:α)(c:α×α×Unit->Option (β×Unit))(t:β->Bool)(v:(List α×Unit)):Option ((List α×Unit)):=Lk.f ((Kt z c t) v)
theorem AK7{α β:Type}(z:α)(c:α×α×Unit->Option (β×Unit))(t:β->Bool)(v:(List α×Unit)):(aH z c t) v=(Kt z c t) v:=A0 _
abbrev Af:Loc×Con:=(.tmp 3,.clo 285 [])
abbrev Ag:Loc×Con:=(.tmp 0,.own 51 U7)
abbrev We:A1:=[Ag,AD,AE,Af]
abbrev Ah:Loc×Con:=(.obj 0,.own 51 U7)
abbrev KN:A1:=[Ah]
abbrev Bm:List RS:=[]
abbrev Ai:Loc×Con:=(.tmp 0,.own' 0)
abbrev ATP:A1:=[Ah,Ai,AD,AE,Af,AN,Aa]
abbrev ATO:BF:=[(.exit 2,[Ah,Ai,AD,AE,Af,AN])]
abbrev ATQ:A1:=[Ah,Ai,AD,AE,Af,AN]
abbrev nJ:BF:=[(.exit 0,[Ah])]
def AWg[Lk]:=Ox (([]:List (Int)):U5) DA tLt
def AYQ[Lk]:=tn (([]:List (Int)):U5) DA tLt
theorem ATR v:AYQ v=AWg v:=A0 _
abbrev Aj:Loc×Con:=(.tmp 4,.clo 285 [])
abbrev Kw:A1:=[Ag,AD,AE,AQ,Aj]
abbrev ALJ:A1:=[Ah,Ai,AE,AQ,Aj,AX]
abbrev ALI:BF:=[(.exit 0,[Ah]),(.ret,[Ah])]
def ARg[Lk]:=Ky (([]:List (Int)):U5) DA tLt
def AUz[Lk]:=Sm (([]:List (Int)):U5) DA tLt
theorem ALK v:AUz v=ARg v:=A0 _
abbrev AOO:A1:=[Ah,Ai,Af,AN,Aa,AK]
abbrev AOM:BF:=[(.exit 2,[Ah])]
abbrev AOP:A1:=[Ah,Ai,Af,AN,Aa,AX,AY]
abbrev AON:BF:=[(.exit 0,[Ah,Ai,Af,AN,Aa,AX])]
def ATi[Lk]:=LC (([]:List (Int)):U5) DA tLt
def AVD[Lk]:=Xq (([]:List (Int)):U5) DA tLt
theorem AOQ v:AVD v=ATi v:=A0 _
abbrev Ak:Loc×Con:=(.cell 1 0,.dat (.int .u64))
abbrev Al:Loc×Con:=(.tmp 10,.dat (.int .u64))
abbrev AJj:A1:=[Ah,Ai,AD,AN,(.tmp 9,.box 1),Ak,Al,AY]
def AP8[Lk]:=Ih (([]:List (Int)):U5) DA tLt
def AQA[Lk]:=PO (([]:List (Int)):U5) DA tLt
theorem AJk v:AQA v=AP8 v:=A0 _
abbrev Am:Loc×Con:=(.tmp 3,.box 1)
abbrev AGa:A1:=[Ag,AD,AE,Am,AJ,Aj]
abbrev An:Loc×Con:=(.obj 1,.box 1)
abbrev AGZ:A1:=[Ah,An,AJ,AA,AD]
abbrev BV:List RS:=[.one,.one]
def AGb[Lk]:=GM (([]:List (Int)):U5) DA tLt
def ACn[Lk]:=Hs (([]:List (Int)):U5) DA tLt
theorem zN v:ACn v=AGb v:=A0 _
abbrev Ao:Loc×Con:=(.tmp 4,.box 1)
abbrev AG1:A1:=[Ag,AD,AE,AQ,Ao,AJ,(.tmp 5,.clo 285 [])]
abbrev jA:A1:=[Ah,An,AJ,AA]
def AG2[Lk]:=GP (([]:List (Int)):U5) DA tLt
def AC4[Lk]:=Hv (([]:List (Int)):U5) DA tLt
theorem zg v:AC4 v=AG2 v:=A0 _
abbrev Ap:Loc×Con:=(.tmp 2,.box 1)
abbrev AHG:A1:=[Ag,AD,Ap,AJ,Af]
def AHH[Lk]:=GQ (([]:List (Int)):U5) DA tLt
def AC9[Lk]:=Hw (([]:List (Int)):U5) DA tLt
theorem zm v:AC9 v=AHH v:=A0 _
abbrev AMR:A1:=[Ah,AA,AD]
def AMS[Lk]:=IP (([]:List (Int)):U5) DA tLt
def AMU[Lk]:=OX (([]:List (Int)):U5) DA tLt
theorem AFs v:AMU v=AMS v:=A0 _
abbrev ARw:A1:=[Ah,Ai,AN,Aa]
def AVo[Lk]:=OT (([]:List (Int)):U5) DA tLt
def AX5[Lk]:=rJ (([]:List (Int)):U5) DA tLt
theorem ARx v:AX5 v=AVo v:=A0 _
abbrev yf:A1:=[Ah,AB]
abbrev sS:A1:=[Ah,Ai,AD,AE,Af,Aa,AX,AK]
abbrev sO:BF:=[(.exit 6,[Ah,Ai,AD,AE,Af,Aa,AX])]
abbrev sT:A1:=[Ah,Ai,AD,AE,Af,Aa,AX,AY]
abbrev sP:BF:=[(.exit 4,[Ah,Ai,AD,AE,Af,Aa,AX])]
abbrev Xa:A1:=[Ah,Ai,AD,AE,Af,Aa,AX]
abbrev sQ:BF:=[(.exit 2,[Ah,Ai,AD,AE,Af,Aa,AX])]
abbrev Aq:Loc×Con:=(.tmp 8,.dat .bool)
abbrev sR:BF:=[(.ret,[Ah,Aq]),(.exit 0,[Ah])]
def yg[Lk]:=Ex (([]:List (Int)):U5) DA tLt
def sV[Lk]:=IT (([]:List (Int)):U5) DA tLt
theorem sU v:sV v=yg v:=A0 _
abbrev AGH:A1:=[Ah,AA]
abbrev RW:A1:=[Ah,Ai,AD,Aj,AY,AK]
abbrev yy:BF:=[(.exit 4,[Ah,Ai,AD,Aj,AY,AK])]
abbrev yz:BF:=[(.exit 2,[Ah,Ai,AD,Aj,AY,AK])]
abbrev zA:BF:=[(.exit 0,[Ah,AY])]
def AGI[Lk]:=GH (([]:List (Int)):U5) DA tLt
def ACi[Lk]:=K4 (([]:List (Int)):U5) DA tLt
theorem zB v:ACi v=AGI v:=A0 _
abbrev Ar:Loc×Con:=(.tmp 1,.dat .bool)
abbrev ASi:A1:=[Ah,AA,Ar]
abbrev Oc:A1:=[Ah,Ai,AD,Aj,AK,AL]
abbrev AM1:BF:=[(.exit 8,[Ah,Ai,AD,Aj,AK,AL])]
abbrev AM2:BF:=[(.exit 6,[Ah,Ai,AD,Aj,AK,AL])]
abbrev AM3:BF:=[(.exit 4,[Ah,Ai,AD,AL])]
abbrev AM4:BF:=[(.exit 2,[Ah,Ai,AD,Aj,AK,AL])]
abbrev AM5:BF:=[(.exit 0,[Ah,Ai,AD,Aj,AK,AL])]
def ASj[Lk]:=K3 (([]:List (Int)):U5) DA tLt
def AU7[Lk]:=Qr (([]:List (Int)):U5) DA tLt
theorem AM6 v:AU7 v=ASj v:=A0 _
abbrev As:Loc×Con:=(.tmp 10,.dat .bool)
abbrev At:Loc×Con:=(.tmp 11,.dat .bool)
abbrev ACZ:A1:=[Ah,Ai,AD,AE,AQ,Aj,As,At]
abbrev ACY:BF:=[(.ret,[Ah])]
def ACX[Lk]:=JB (([]:List (Int)):U5) DA tLt
def AWA[Lk]:=OY (([]:List (Int)):U5) DA tLt
def bF[Lk]:=Iv (([]:List (Int)):U5) DA tLt
def AST[Lk]:=ry (([]:List (Int)):U5) DA tLt
theorem ASS v:AST v=bF 100 v:=A0 _
abbrev ARP:A1:=[Ag,(.tmp 1,.clo 285 [])]
def ARQ[Lk]:=Kt (([]:List (Int)):U5) DA tLt
def ACC[Lk]:=aH (([]:List (Int)):U5) DA tLt
theorem AK5 v:ACC v=ARQ v:=A0 _
abbrev Au:Loc×Con:=(.cell 0 1,.dat Ud)
abbrev MQ:A1:=[AM,(.cap 1 0,.box 2),AG,Au,(.tmp 1,.clo 157 [(0,0)])]
abbrev Av:Loc×Con:=(.obj 0,.box 2)
abbrev Wm:A1:=[Av,AG,Au,AA]
abbrev TY:A1:=[Av,AG,Au,AM,(.tmp 1,.clo 157 [(0,0)]),AO,AN]
abbrev TX:BF:=[(.ret,[Av,AG,Au,AP]),(.exit 0,[Av,AG,Au])]
def Ds[Lk]:(Int×List U5×List Int×Int×Int×Unit)->Option ((Int×List U5×List Int×Int×Int×Unit)⊕(Int×List U5×Int×Unit)⊕(Int×List U5×Unit)⊕Unit):=fun(a,c,d,e,b,_)=>
 match(ilt b e)with
 |true=>match idx d b with|none=>none|some f=>match(ilt f 0)with
  |true=>some (.inr (.inl (a,c,b,())))
  |false=>match(ile a f)with
  |true=>some (.inr (.inl (a,c,b,())))
  |false=>some (.inl (a,c,d,e,(w64 (b+1)),()))
 |false=>some (.inr (.inr (.inl (a,c,()))))
def Ha[Lk]:(List Int×Int×List U5×Unit)->Option ((Int×List U5×Int×Unit)):=fun(a,b,c,_)=>
 match A_ Ds many (b,c,a,(A3 a),0,())with|none=>none|some r=>match r with
 |.inl (d,e,f,_)=>some (d,e,f,())
 |.inr r=>match r with
 |.inl (g,h,_)=>some (g,h,(-1:Int),())
 |.inr _=>none
def KR[Lk]:=lkk Ha
theorem LB v:KR v=Ha v:=A0 _
abbrev Aw:Loc×Con:=(.tmp 0,.dat Uy)
abbrev AWz:A1:=[Aw]
abbrev Ax:Loc×Con:=(.tmp 3,.own 3 U0)
abbrev AUC:A1:=[Ax,(.tmp 6,.dat Uy),AO,AN]
abbrev AUB:BF:=[(.exit 0,[Ax])]
def Ts[Lk]:(List Int×List U4×Int×Int×Unit)->Option ((List Int×List U4×Int×Int×Unit)⊕Uf⊕Unit):=fun(b,d,e,c,_)=>
 match(ilt c e)with
 |true=>match idx d c with|none=>none|some a=>match(fits ((A3 b)+(A3 ([a.1,a.2.1]:List (Int)))))with
  |true=>some (.inl ((Bi b ([a.1,a.2.1]:List (Int))),d,e,(w64 (c+1)),()))
  |false=>none
 |false=>some (.inr (.inl (b,())))
def AAi[Lk]:Va->Option (Uf):=fun(a,_)=>
 match A_ Ts many (([]:List (Int)),a,(A3 a),0,())with|none=>none|some r=>match r with
 |.inl (b,_)=>some (b,())
 |.inr _=>none
def ends[Lk]:=lkk AAi
theorem ADd v:ends v=AAi v:=A0 _
abbrev AWQ:A1:=[AQ,(.tmp 6,.dat U7),AO,AN]
abbrev AWP:BF:=[(.ret,[AE]),(.exit 0,[AQ])]
def KF[Lk]:(Int×List Int×Int×Int×Unit)->Option ((Int×List Int×Int×Int×Unit)⊕Ub⊕Ub⊕Unit):=fun(a,c,d,b,_)=>
 match(ilt b d)with
 |true=>match idx c b with|none=>none|some e=>match(!(ieq e a))with
  |true=>some (.inr (.inl (e,())))
  |false=>some (.inl (a,c,d,(w64 (b+1)),()))
 |false=>some (.inr (.inr (.inl (a,()))))
def tD[Lk]:Uf->Option (Ub):=fun(a,_)=>
 match A_ KF many (0,a,(A3 a),0,())with|none=>none|some r=>match r with
 |.inl (b,_)=>some (b,())
 |.inr r=>match r with
 |.inl (c,_)=>some (c,())
 |.inr _=>none
def orI[Lk]:=lkk tD
theorem ma v:orI v=tD v:=A0 _
def TE[Lk]:Ub->Option (Uc):=fun(a,_)=>
 match(ile 1 a)with
 |true=>some ((ile a 64),())
 |false=>some (false,())
def bj[Lk]:=lkk TE
theorem WV v:bj v=TE v:=A0 _
def ANb[Lk]:Ub->Option (Ub):=fun(a,_)=>
 match bj (a,())with|none=>none|some (b,_)=>match(!b)with
 |true=>some (0,())
 |false=>match bitsLen ((IntKind.wrap .u64 (w64 (a-1))),())with|none=>none|some (c,_)=>some (c,())
def mq[Lk]:=lkk ANb
theorem ASz v:mq v=ANb v:=A0 _
abbrev br:A1:=[(.tmp 0,.dat U1),(.tmp 1,.dat U1)]
def NH[Lk]:(U2×U2×Unit)->Option (Ub):=fun(a,b,_)=>
 match Eb (a.1,b.1,())with|none=>none|some (c,_)=>match Eb (a.2.1,b.2.1,())with|none=>none|some (d,_)=>match orI (([c,d]:List (Int)),())with|none=>none|some (e,_)=>some (e,())
def Fc[Lk]:=lkk NH
theorem Ot v:Fc v=NH v:=A0 _
abbrev Ay:Loc×Con:=(.tmp 0,.dat Uo)
abbrev bg:A1:=[Ay,AD]
abbrev Az:Loc×Con:=(.tmp 0,.own 39 U3)
abbrev TC:A1:=[Az]
abbrev Ab8:Loc×Con:=(.tmp 5,.own 39 U3)
abbrev AHW:A1:=[AD,Ab8,(.tmp 9,.dat Ui),AX,AY]
abbrev jE:BF:=[(.exit 0,[Ab8])]
def FF[Lk]:(Int×List U4×List U2×Int×Int×Unit)->Option ((Int×List U4×List U2×Int×Int×Unit)⊕Va⊕Unit):=fun(d,b,e,f,c,_)=>
 match(ilt c f)with
 |true=>match idx e c with|none=>none|some a=>match a.2.2.2.1 with
  |true=>match(ile d a.2.2.1)with
   |true=>match(fits ((A3 b)+(A3 ([(a.1,(a.2.1,()))]:List U4))))with
    |true=>some (.inl (d,(Bi b ([(a.1,(a.2.1,()))]:List U4)),e,f,(w64 (c+1)),()))
    |false=>none
   |false=>some (.inl (d,b,e,f,(w64 (c+1)),()))
  |false=>some (.inl (d,b,e,f,(w64 (c+1)),()))
 |false=>some (.inr (.inl (b,())))
def TD[Lk]:(Ue×Int×Unit)->Option (Va):=fun(a,b,_)=>
 match A_ FF many (b,([]:List U4),a.2.1,(A3 a.2.1),0,())with|none=>none|some r=>match r with
 |.inl (c,_)=>some (c,())
 |.inr _=>none
def WU[Lk]:=lkk TD
theorem WT v:WU v=TD v:=A0 _
abbrev Ab9:Loc×Con:=(.tmp 1,.dat Uy)
abbrev PL:A1:=[AA,Ab9]
abbrev AcA:Loc×Con:=(.tmp 7,.dat .bool)
abbrev AcB:Loc×Con:=(.tmp 5,.own 3 U0)
abbrev oe:A1:=[AA,Ab9,AcB,AcA,AN]
abbrev oa:BF:=[(.exit 4,[AA,Ab9,AcB,AcA])]
def Gz[Lk]:(Int×List U4×List Int×Bool×Int×Unit)->Option ((Int×List U4×List Int×Bool×Int×Unit)⊕(Int×List U4×List Int×Bool×Unit)⊕Unit):=fun(e,c,a,g,f,_)=>
 match(ilt f (A3 c))with
 |true=>match idx c f with|none=>none|some b=>match idx c f with|none=>none|some d=>match(ilt b.1 0)with
  |true=>some (.inl (e,c,a,g,(w64 (f+1)),()))
  |false=>match(ilt d.2.1 0)with
  |true=>some (.inl (e,c,a,g,(w64 (f+1)),()))
  |false=>match(ile e b.1)with
  |true=>some (.inl (e,c,a,g,(w64 (f+1)),()))
  |false=>match(ile e d.2.1)with
  |true=>some (.inl (e,c,a,g,(w64 (f+1)),()))
  |false=>match idx a b.1 with|none=>none|some h=>match idx a d.2.1 with|none=>none|some i=>match(ieq (A7 a (A2 b.1) 0) (A7 a (A2 d.2.1) 0))with
  |true=>some (.inl (e,c,a,g,(w64 (f+1)),()))
  |false=>match idx a b.1 with|none=>none|some j=>match idx a d.2.1 with|none=>none|some k=>match idx a b.1 with|none=>none|some l=>match idx (Bb a (A2 b.1) (Cl (A7 a (A2 b.1) 0) (A7 a (A2 d.2.1) 0))) d.2.1 with|none=>none|some m=>some (.inl (e,c,(Bb (Bb a (A2 b.1) (Cl (A7 a (A2 b.1) 0) (A7 a (A2 d.2.1) 0))) (A2 d.2.1) (Cl (A7 a (A2 b.1) 0) (A7 a (A2 d.2.1) 0))),true,(w64 (f+1)),()))
 |false=>some (.inr (.inl (e,c,a,g,())))
abbrev og:A1:=[AA,Ab9,AcB,AcA]
abbrev oc:BF:=[(.exit 2,[AcB])]
def JN[Lk]:(Int×List U4×List Int×Bool×Unit)->Option ((Int×List U4×List Int×Bool×Unit)⊕Uf⊕Unit):=fun(b,c,a,d,_)=>
 match d with
 |true=>match A_ Gz many (b,c,a,false,0,())with|none=>none|some r=>match r with
  |.inl (e,f,g,h,_)=>some (.inl (e,f,g,h,()))
  |.inr _=>none
 |false=>some (.inr (.inl (a,())))
abbrev AcC:Loc×Con:=(.tmp 6,.di)
abbrev oh:A1:=[AA,Ab9,AcB,AcC]
abbrev od:BF:=[(.exit 0,[AA,Ab9,AcB])]
def G0[Lk]:(Int×List U4×List Int×Int×Unit)->Option ((Int×List U4×List Int×Int×Unit)⊕(Int×List U4×List Int×Unit)⊕Unit):=fun(b,d,c,a,_)=>
 match(ilt a b)with
 |true=>match(fits ((A3 c)+(A3 ([a]:List (Int)))))with
  |true=>some (.inl (b,d,(Bi c ([a]:List (Int))),(w64 (a+1)),()))
  |false=>none
 |false=>some (.inr (.inl (b,d,c,())))
def PM[Lk]:(Int×List U4×Unit)->Option (Uf):=fun(a,b,_)=>
 match A_ G0 many (a,b,([]:List (Int)),0,())with|none=>none|some r=>match r with
 |.inl (c,d,e,_)=>match A_ JN many (c,d,e,true,())with|none=>none|some r=>match r with
  |.inl (f,_)=>some (f,())
  |.inr _=>none
 |.inr _=>none
def Jv[Lk]:=lkk PM
theorem UA v:Jv v=PM v:=A0 _
abbrev AKX:A1:=[AQ,AP]
def AKW[Lk]:U4->Option (U4⊕Ub⊕Unit):=fun(a,b,_)=>
 match(ilt 0 b)with
 |true=>match quo? .i64 b 2 with|none=>none|some c=>some (.inl ((w64 (a+1)),c,()))
 |false=>some (.inr (.inl (a,())))
def AB3[Lk]:Ub->Option (Ub):=fun(a,_)=>
 match(ilt a 1)with
 |true=>some (0,())
 |false=>match(ilt 64 a)with
 |true=>some (0,())
 |false=>match A_ AKW many (0,(w64 (a-1)),())with|none=>none|some r=>match r with
 |.inl (b,_)=>some (b,())
 |.inr _=>none
def Sc[Lk]:=lkk AB3
theorem AKY v:Sc v=AB3 v:=A0 _
abbrev Jh:A1:=[Ay]
abbrev AcD:Loc×Con:=(.cell 0 1,.dat Ui)
abbrev AcE:Loc×Con:=(.tmp 3,.own 39 U3)
abbrev AcF:Loc×Con:=(.tmp 1,.box 2)
abbrev xg:A1:=[AcF,AG,AcD,AcE,AT,AO,AN]
abbrev xe:BF:=[(.exit 2,[AcF,AG,AcD,AcE,AO])]
def HO[Lk]:(Int×List U2×List U4×List Int×Int×Int×Unit)->Option ((Int×List U2×List U4×List Int×Int×Int×Unit)⊕Vk⊕Unit):=fun(b,d,e,c,f,a,_)=>
 match(ilt a b)with
 |true=>match idx c a with|none=>none|some g=>match(ieq (A7 c (A2 a) 0) a)with
  |true=>some (.inl (b,d,e,c,(w64 (f+1)),(w64 (a+1)),()))
  |false=>some (.inl (b,d,e,c,f,(w64 (a+1)),()))
 |false=>some (.inr (.inl (b,d,e,f,())))
abbrev ah:A1:=[AcF,AG,AcD,AcE,AP]
abbrev xf:BF:=[(.ret,[AF]),(.exit 0,[AcF,AG,AcD,AcE])]
def Fv[Lk]:Vk->Option (Vk⊕Uc⊕(Int×List U2×List U4×Unit)⊕Unit):=fun(e,b,d,c,_)=>
 match(ilt c (A3 b))with
 |true=>match idx b c with|none=>none|some a=>match(ilt a.1 0)with
  |true=>some (.inr (.inl (false,())))
  |false=>match(ile a.2.1 a.1)with
  |true=>some (.inr (.inl (false,())))
  |false=>match(ile e a.2.1)with
  |true=>some (.inr (.inl (false,())))
  |false=>match(ilt a.2.2.1 0)with
  |true=>some (.inr (.inl (false,())))
  |false=>match Sc (e,())with|none=>none|some (f,_)=>match(ilt f a.2.2.1)with
  |true=>some (.inr (.inl (false,())))
  |false=>match(ilt 0 c)with
  |true=>match idx b (w64 (c-1))with|none=>none|some g=>match(ilt a.1 g.1)with
   |true=>some (.inr (.inl (false,())))
   |false=>match idx b (w64 (c-1))with|none=>none|some h=>match(ieq h.1 a.1)with
   |true=>match idx b (w64 (c-1))with|none=>none|some i=>match(ile a.2.1 i.2.1)with
    |true=>some (.inr (.inl (false,())))
    |false=>match a.2.2.2.1 with
    |true=>match(fits ((A3 d)+(A3 ([(a.1,(a.2.1,()))]:List U4))))with
     |true=>some (.inl (e,b,(Bi d ([(a.1,(a.2.1,()))]:List U4)),(w64 (c+1)),()))
     |false=>none
    |false=>some (.inl (e,b,d,(w64 (c+1)),()))
   |false=>match a.2.2.2.1 with
   |true=>match(fits ((A3 d)+(A3 ([(a.1,(a.2.1,()))]:List U4))))with
    |true=>some (.inl (e,b,(Bi d ([(a.1,(a.2.1,()))]:List U4)),(w64 (c+1)),()))
    |false=>none
   |false=>some (.inl (e,b,d,(w64 (c+1)),()))
  |false=>match a.2.2.2.1 with
  |true=>match(fits ((A3 d)+(A3 ([(a.1,(a.2.1,()))]:List U4))))with
   |true=>some (.inl (e,b,(Bi d ([(a.1,(a.2.1,()))]:List U4)),(w64 (c+1)),()))
   |false=>none
  |false=>some (.inl (e,b,d,(w64 (c+1)),()))
 |false=>some (.inr (.inr (.inl (e,b,d,()))))
def HQ[Lk]:(Ue×Unit)->Option (Uc):=fun(a,_)=>
 match(ilt a.1 1)with
 |true=>some (false,())
 |false=>match(ilt 64 a.1)with
 |true=>some (false,())
 |false=>match(ilt 400 (A3 a.2.1))with
 |true=>some (false,())
 |false=>match A_ Fv many (a.1,a.2.1,([]:List U4),0,())with|none=>none|some r=>match r with
 |.inl (d,_)=>some (d,())
 |.inr r=>match r with
 |.inl (b,e,c,_)=>match Jv (b,c,())with|none=>none|some (f,_)=>match A_ HO many (b,e,c,f,0,0,())with|none=>none|some r=>match r with
  |.inl (g,j,h,i,_)=>some ((ieq i (w64 (g-(A3 h)))),())
  |.inr _=>none
 |.inr _=>none
def Fl[Lk]:=lkk HQ
theorem HP v:Fl v=HQ v:=A0 _
abbrev wi:A1:=[AD,AH,AG,AcD,Ab8,AcC]
def J3[Lk]:(Int×Int×List U2×List U4×Int×Unit)->Option ((Int×Int×List U2×List U4×Int×Unit)⊕Va⊕Unit):=fun(d,e,a,c,b,_)=>
 match(ilt b (A3 a))with
 |true=>match idx a b with|none=>none|some h=>match h.2.2.2.1 with
  |true=>match idx a b with|none=>none|some i=>match(ile d i.2.2.1)with
   |true=>match idx a b with|none=>none|some f=>match idx a b with|none=>none|some g=>match(fits ((A3 c)+(A3 ([(f.1,(g.2.1,()))]:List U4))))with
    |true=>some (.inl (d,e,a,(Bi c ([(f.1,(g.2.1,()))]:List U4)),(w64 (b+1)),()))
    |false=>none
   |false=>some (.inl (d,e,a,c,(w64 (b+1)),()))
  |false=>some (.inl (d,e,a,c,(w64 (b+1)),()))
 |false=>some (.inr (.inl (c,())))
def VU[Lk]:(Ue×Int×Unit)->Option (Va):=fun(a,b,_)=>
 match A_ J3 many (b,a.1,a.2.1,([]:List U4),0,())with|none=>none|some r=>match r with
 |.inl (c,_)=>some (c,())
 |.inr _=>none
def Yn[Lk]:=lkk VU
theorem Z3 v:Yn v=VU v:=A0 _
abbrev AcG:Loc×Con:=(.tmp 1,.clo 171 [(1,0)])
abbrev AcH:Loc×Con:=(.cell 1 0,.map U3 U0)
abbrev Td:A1:=[Az,(.cap 1 0,.box 1),AcH,AcG]
abbrev AcI:Loc×Con:=(.obj 0,.own 39 U3)
abbrev AcJ:Loc×Con:=(.obj 2,.map' 2)
abbrev nS:A1:=[AcI,An,AcH,AcJ,AA]
abbrev ei:A1:=[AcI,An,AcH,AcJ,Ai,AcG,AO,AN]
abbrev eh:BF:=[(.ret,[AcI,An,AcH,AcJ,AP]),(.exit 0,[AcI,An,AcH,AcJ])]
def Eh[Lk]:(List U4×List Vf×Int×Int×Unit)->Option ((List U4×List Vf×Int×Int×Unit)⊕(List U4×List Vf×Int×Unit)⊕(List U4×List Vf×Unit)⊕Unit):=fun(a,c,d,b,_)=>
 match(ilt b d)with
 |true=>match idx a b with|none=>none|some e=>match(ieq ((A8 c ((A7 a (A2 b) (0,(0,()))).1,((A7 a (A2 b) (0,(0,()))).2.1,()))).getD 0) 0)with
  |true=>some (.inr (.inl (a,c,b,())))
  |false=>some (.inl (a,c,d,(w64 (b+1)),()))
 |false=>some (.inr (.inr (.inl (a,c,()))))
def NP[Lk]:(List U4×List Vf×Unit)->Option ((List U4×List Vf×Int×Unit)):=fun(a,b,_)=>
 match A_ Eh many (a,b,(A3 a),0,())with|none=>none|some r=>match r with
 |.inl (c,d,e,_)=>some (c,d,e,())
 |.inr r=>match r with
 |.inl (f,g,_)=>some (f,g,(-1:Int),())
 |.inr _=>none
def Rs[Lk]:=lkk NP
theorem Qx v:Rs v=NP v:=A0 _
abbrev AAV:A1:=[(.tmp 0,.dat U3),(.tmp 1,.dat U3)]
def Rz[Lk]:(U4×U4×Unit)->Option (Ub):=fun(a,b,_)=>
 match Eb (a.1,b.1,())with|none=>none|some (c,_)=>match Eb (a.2.1,b.2.1,())with|none=>none|some (d,_)=>match orI (([c,d]:List (Int)),())with|none=>none|some (e,_)=>some (e,())
def Bn[Lk]:=lkk Rz
theorem Xs v:Bn v=Rz v:=A0 _
abbrev AcK:Loc×Con:=(.tmp 3,.clo 97 [])
abbrev Wf:A1:=[Az,AD,AE,AcK]
abbrev KP:A1:=[AcI]
abbrev ATZ:A1:=[AcI,Ai,AD,AE,AcK,AN,Aa]
abbrev ATY:BF:=[(.exit 2,[AcI,Ai,AD,AE,AcK,AN])]
abbrev ATa:A1:=[AcI,Ai,AD,AE,AcK,AN]
abbrev nL:BF:=[(.exit 0,[AcI])]
def AWk[Lk]:=Ox ((0,(0,())):U4) Bn tLt
def AYS[Lk]:=tn ((0,(0,())):U4) Bn tLt
theorem ATb v:AYS v=AWk v:=A0 _
abbrev AcL:Loc×Con:=(.tmp 4,.clo 97 [])
abbrev Kz:A1:=[Az,AD,AE,AQ,AcL]
abbrev ALQ:A1:=[AcI,Ai,AE,AQ,AcL,AX]
abbrev ALP:BF:=[(.exit 0,[AcI]),(.ret,[AcI])]
def ARk[Lk]:=Ky ((0,(0,())):U4) Bn tLt
def AU1[Lk]:=Sm ((0,(0,())):U4) Bn tLt
theorem ALR v:AU1 v=ARk v:=A0 _
abbrev AOZ:A1:=[AcI,Ai,AcK,AN,Aa,AK]
abbrev AOX:BF:=[(.exit 2,[AcI])]
abbrev AOa:A1:=[AcI,Ai,AcK,AN,Aa,AX,AY]
abbrev AOY:BF:=[(.exit 0,[AcI,Ai,AcK,AN,Aa,AX])]
def ATm[Lk]:=LC ((0,(0,())):U4) Bn tLt
def AVF[Lk]:=Xq ((0,(0,())):U4) Bn tLt
theorem AOb v:AVF v=ATm v:=A0 _
abbrev AJo:A1:=[AcI,Ai,AD,AN,(.tmp 9,.box 1),Ak,Al,AY]
def AQE[Lk]:=Ih ((0,(0,())):U4) Bn tLt
def AQG[Lk]:=PO ((0,(0,())):U4) Bn tLt
theorem AJp v:AQG v=AQE v:=A0 _
abbrev AGi:A1:=[Az,AD,AE,Am,AJ,AcL]
abbrev AGh:A1:=[AcI,An,AJ,AA,AD]
def AGj[Lk]:=GM ((0,(0,())):U4) Bn tLt
def ACp[Lk]:=Hs ((0,(0,())):U4) Bn tLt
theorem zQ v:ACp v=AGj v:=A0 _
abbrev AG7:A1:=[Az,AD,AE,AQ,Ao,AJ,(.tmp 5,.clo 97 [])]
abbrev jC:A1:=[AcI,An,AJ,AA]
def AG8[Lk]:=GP ((0,(0,())):U4) Bn tLt
def AC6[Lk]:=Hv ((0,(0,())):U4) Bn tLt
theorem zj v:AC6 v=AG8 v:=A0 _
abbrev AHM:A1:=[Az,AD,Ap,AJ,AcK]
def AHN[Lk]:=GQ ((0,(0,())):U4) Bn tLt
def ADB[Lk]:=Hw ((0,(0,())):U4) Bn tLt
theorem zp v:ADB v=AHN v:=A0 _
abbrev AMZ:A1:=[AcI,AA,AD]
def AMa[Lk]:=IP ((0,(0,())):U4) Bn tLt
def AMc[Lk]:=OX ((0,(0,())):U4) Bn tLt
theorem AFv v:AMc v=AMa v:=A0 _
abbrev AR1:A1:=[AcI,Ai,AN,Aa]
def AVs[Lk]:=OT ((0,(0,())):U4) Bn tLt
def AX7[Lk]:=rJ ((0,(0,())):U4) Bn tLt
theorem AR2 v:AX7 v=AVs v:=A0 _
abbrev yl:A1:=[AcI,AB]
abbrev ss:A1:=[AcI,Ai,AD,AE,AcK,Aa,AX,AK]
abbrev si:BF:=[(.exit 6,[AcI,Ai,AD,AE,AcK,Aa,AX])]
abbrev su:A1:=[AcI,Ai,AD,AE,AcK,Aa,AX,AY]
abbrev sj:BF:=[(.exit 4,[AcI,Ai,AD,AE,AcK,Aa,AX])]
abbrev Xd:A1:=[AcI,Ai,AD,AE,AcK,Aa,AX]
abbrev sk:BF:=[(.exit 2,[AcI,Ai,AD,AE,AcK,Aa,AX])]
abbrev sr:BF:=[(.ret,[AcI,Aq]),(.exit 0,[AcI])]
def ym[Lk]:=Ex ((0,(0,())):U4) Bn tLt
def sw[Lk]:=IT ((0,(0,())):U4) Bn tLt
theorem sv v:sw v=ym v:=A0 _
abbrev AGN:A1:=[AcI,AA]
abbrev Rb:A1:=[AcI,Ai,AD,AcL,AY,AK]
abbrev zH:BF:=[(.exit 4,[AcI,Ai,AD,AcL,AY,AK])]
abbrev zI:BF:=[(.exit 2,[AcI,Ai,AD,AcL,AY,AK])]
abbrev zJ:BF:=[(.exit 0,[AcI,AY])]
def AGO[Lk]:=GH ((0,(0,())):U4) Bn tLt
def ACk[Lk]:=K4 ((0,(0,())):U4) Bn tLt
theorem zK v:ACk v=AGO v:=A0 _
abbrev ASm:A1:=[AcI,AA,Ar]
abbrev Of:A1:=[AcI,Ai,AD,AcL,AK,AL]
abbrev ANE:BF:=[(.exit 8,[AcI,Ai,AD,AcL,AK,AL])]
abbrev ANF:BF:=[(.exit 6,[AcI,Ai,AD,AcL,AK,AL])]
abbrev ANG:BF:=[(.exit 4,[AcI,Ai,AD,AL])]
abbrev ANH:BF:=[(.exit 2,[AcI,Ai,AD,AcL,AK,AL])]
abbrev ANI:BF:=[(.exit 0,[AcI,Ai,AD,AcL,AK,AL])]
def ASn[Lk]:=K3 ((0,(0,())):U4) Bn tLt
def AU9[Lk]:=Qr ((0,(0,())):U4) Bn tLt
theorem ANJ v:AU9 v=ASn v:=A0 _
abbrev ACf:A1:=[AcI,Ai,AD,AE,AQ,AcL,As,At]
abbrev ACe:BF:=[(.ret,[AcI])]
def ACd[Lk]:=JB ((0,(0,())):U4) Bn tLt
def AWE[Lk]:=OY ((0,(0,())):U4) Bn tLt
def bH[Lk]:=Iv ((0,(0,())):U4) Bn tLt
def ASc[Lk]:=ry ((0,(0,())):U4) Bn tLt
theorem ASb v:ASc v=bH 100 v:=A0 _
abbrev ART:A1:=[Az,(.tmp 1,.clo 97 [])]
def ARU[Lk]:=Kt ((0,(0,())):U4) Bn tLt
def ACD[Lk]:=aH ((0,(0,())):U4) Bn tLt
theorem AK8 v:ACD v=ARU v:=A0 _
def kz[Lk]:Ub->Option (Uc):=fun(a,_)=>
 some ((ieq a (w64 (IntKind.wrap .u16 a))),())
def Zo[Lk]:=lkk kz
theorem pz v:Zo v=kz v:=A0 _
def Zi[Lk]:Ub->Option (Uc):=fun(a,_)=>
 match(ile 1 a)with
 |true=>some ((ile a 4),())
 |false=>some (false,())
def kJ[Lk]:=lkk Zi
theorem fV v:kJ v=Zi v:=A0 _
abbrev Tc:A1:=[Aw,(.tmp 1,.clo 132 [])]
abbrev eg:A1:=[Aw,(.tmp 1,.clo 132 []),AO,AN]
def Ff[Lk]:(List U4×Int×Int×Unit)->Option ((List U4×Int×Int×Unit)⊕Ub⊕(Unit)⊕Unit):=fun(b,c,a,_)=>
 match(ilt a c)with
 |true=>match idx b a with|none=>none|some d=>match Zo (d.1,())with|none=>none|some (e,_)=>match(!e)with
  |true=>some (.inr (.inl (a,())))
  |false=>match Zo (d.2.1,())with|none=>none|some (f,_)=>match(!f)with
  |true=>some (.inr (.inl (a,())))
  |false=>some (.inl (b,c,(w64 (a+1)),()))
 |false=>some (.inr (.inr (.inl ())))
def NO[Lk]:Va->Option (Ub):=fun(a,_)=>
 match A_ Ff many (a,(A3 a),0,())with|none=>none|some r=>match r with
 |.inl (b,_)=>some (b,())
 |.inr r=>match r with
 |.inl _=>some ((-1:Int),())
 |.inr _=>none
def Rr[Lk]:=lkk NO
theorem Qw v:Rr v=NO v:=A0 _
def Lf[Lk]:Va->Option (Uc):=fun(a,_)=>
 match Rr (a,())with|none=>none|some (b,_)=>some ((ile 0 b),())
def GV[Lk]:=lkk Lf
theorem PG v:GV v=Lf v:=A0 _
abbrev Te:A1:=[(.tmp 0,.dat Ur),(.tmp 1,.clo 135 [])]
abbrev ej:A1:=[(.tmp 0,.dat Ur),(.tmp 1,.clo 135 []),AO,AN]
def Fg[Lk]:(List U9×Int×Int×Unit)->Option ((List U9×Int×Int×Unit)⊕Ub⊕(Unit)⊕Unit):=fun(c,d,a,_)=>
 match(ilt a d)with
 |true=>match idx c a with|none=>none|some b=>match kJ (b.1,())with|none=>none|some (e,_)=>match(!e)with
  |true=>some (.inr (.inl (a,())))
  |false=>match Zo (b.2.1,())with|none=>none|some (f,_)=>match(!f)with
  |true=>some (.inr (.inl (a,())))
  |false=>match Zo (b.2.2.1,())with|none=>none|some (g,_)=>match(!g)with
  |true=>some (.inr (.inl (a,())))
  |false=>some (.inl (c,d,(w64 (a+1)),()))
 |false=>some (.inr (.inr (.inl ())))
def NQ[Lk]:(List U9×Unit)->Option (Ub):=fun(a,_)=>
 match A_ Fg many (a,(A3 a),0,())with|none=>none|some r=>match r with
 |.inl (b,_)=>some (b,())
 |.inr r=>match r with
 |.inl _=>some ((-1:Int),())
 |.inr _=>none
def Ru[Lk]:=lkk NQ
theorem Qy v:Ru v=NQ v:=A0 _
def Lg[Lk]:(List U9×Unit)->Option (Uc):=fun(a,_)=>
 match Ru (a,())with|none=>none|some (b,_)=>some ((ile 0 b),())
def LK[Lk]:=lkk Lg
theorem PH v:LK v=Lg v:=A0 _
abbrev pq:A1:=[(.tmp 0,.dat (.prod U0 (.prod Uy (.prod Ur .unit))))]
def Zg[Lk]:(Ve×Unit)->Option (Uc):=fun(a,_)=>
 match(ieq a.1 1)with
 |true=>match(ieq (A3 a.2.2.1) 0)with
  |true=>match(ile (A3 a.2.1) 60)with
   |true=>match GV (a.2.1,())with|none=>none|some (b,_)=>some ((!b),())
   |false=>some (false,())
  |false=>some (false,())
 |false=>match(ieq a.1 2)with
 |true=>match(ieq (A3 a.2.2.1) 0)with
  |true=>match(ile (A3 a.2.1) 60)with
   |true=>match GV (a.2.1,())with|none=>none|some (c,_)=>some ((!c),())
   |false=>some (false,())
  |false=>some (false,())
 |false=>match(ieq a.1 3)with
 |true=>match(ieq (A3 a.2.1) 0)with
  |true=>match(ile (A3 a.2.2.1) 60)with
   |true=>match LK (a.2.2.1,())with|none=>none|some (d,_)=>some ((!d),())
   |false=>some (false,())
  |false=>some (false,())
 |false=>some (false,())
def kH[Lk]:=lkk Zg
theorem fR v:kH v=Zg v:=A0 _
abbrev AQQ:A1:=[(.tmp 0,.dat (.prod U0 U3))]
def dS[Lk]:(U9×Unit)->Option (Uf):=fun(a,_)=>
 match(ieq a.1 1)with
 |true=>some (([a.2.1,a.2.2.1]:List (Int)),())
 |false=>match(ieq a.1 2)with
 |true=>some (([a.2.1]:List (Int)),())
 |false=>match(ieq a.1 3)with
 |true=>some (([a.2.1]:List (Int)),())
 |false=>some (([]:List (Int)),())
def pE[Lk]:=lkk dS
theorem jy v:pE v=dS v:=A0 _
abbrev AcM:Loc×Con:=(.tmp 25,.di)
abbrev AQM:A1:=[Ax,(.tmp 24,.dat Ur),AcM,AW]
abbrev AQK:BF:=[(.exit 2,[Ax])]
def UI[Lk]:(List Int×List U9×Int×Int×Unit)->Option ((List Int×List U9×Int×Int×Unit)⊕Uf⊕Unit):=fun(a,d,e,b,_)=>
 match(ilt b e)with
 |true=>match idx d b with|none=>none|some c=>match pE ((c.1,(c.2.1,(c.2.2.1,()))),())with|none=>none|some (f,_)=>match(fits ((A3 a)+(A3 f)))with
  |true=>some (.inl ((Bi a f),d,e,(w64 (b+1)),()))
  |false=>none
 |false=>some (.inr (.inl (a,())))
abbrev AcN:Loc×Con:=(.cell 0 2,.dat Ur)
abbrev AcO:Loc×Con:=(.cell 0 1,.dat Uy)
abbrev AcP:Loc×Con:=(.tmp 1,.box 3)
abbrev AQN:A1:=[AcP,AG,AcO,AcN,Ax,(.tmp 9,.dat Uy),AX,AY]
abbrev AQL:BF:=[(.exit 0,[AcP,AG,AcO,AcN,Ax])]
def PQ[Lk]:(Int×List U4×List U9×List Int×List U4×Int×Int×Unit)->Option ((Int×List U4×List U9×List Int×List U4×Int×Int×Unit)⊕(Int×List U4×List U9×List Int×Unit)⊕Unit):=fun(d,e,f,b,g,h,c,_)=>
 match(ilt c h)with
 |true=>match idx g c with|none=>none|some a=>match(fits ((A3 b)+(A3 ([a.1,a.2.1]:List (Int)))))with
  |true=>some (.inl (d,e,f,(Bi b ([a.1,a.2.1]:List (Int))),g,h,(w64 (c+1)),()))
  |false=>none
 |false=>some (.inr (.inl (d,e,f,b,())))
def ox[Lk]:(Ve×Unit)->Option (Uf):=fun(a,_)=>
 match A_ PQ many (a.1,a.2.1,a.2.2.1,([]:List (Int)),a.2.1,(A3 a.2.1),0,())with|none=>none|some r=>match r with
 |.inl (e,f,b,c,_)=>match A_ UI many (c,b,(A3 b),0,())with|none=>none|some r=>match r with
  |.inl (d,_)=>some (d,())
  |.inr _=>none
 |.inr _=>none
def ADw[Lk]:=lkk ox
theorem vV v:ADw v=ox v:=A0 _
def oF[Lk]:Ub->Option (Uc):=fun(a,_)=>
 match(ile 0 a)with
 |true=>some ((ilt a 65536),())
 |false=>some (false,())
def uf[Lk]:=lkk oF
theorem ue v:uf v=oF v:=A0 _
abbrev AA0:A1:=[(.tmp 0,.dat U3)]
abbrev AcQ:Loc×Con:=(.tmp 0,.dat U8)
abbrev APR:A1:=[AcQ,Ar]
def AA1[Lk]:(U4×Unit)->Option ((Int×Bool×Unit)):=fun(a,_)=>
 match uf (a.1,())with|none=>none|some (b,_)=>match(!b)with
 |true=>some (0,false,())
 |false=>match uf (a.2.1,())with|none=>none|some (c,_)=>match(!c)with
 |true=>some (0,false,())
 |false=>match shl? .u32 (IntKind.wrap .u32 (Cl a.1 a.2.1)) 16 with|none=>none|some d=>some ((IntKind.wrap .u32 ((BitVec.ofInt (IntKind.bits .u32) d ||| BitVec.ofInt (IntKind.bits .u32) (IntKind.wrap .u32 (imax a.1 a.2.1))).toNat)),true,())
def AA2[Lk]:=lkk AA1
theorem ADj v:AA2 v=AA1 v:=A0 _
abbrev oK:A1:=[AcQ]
def oL[Lk]:Ub->Option ((U4×Unit)):=fun(a,_)=>
 match shr? .u32 a 16 with|none=>none|some b=>some (((w64 b),((w64 (IntKind.wrap .u16 a)),())),())
def ADl[Lk]:=lkk oL
theorem uh v:ADl v=oL v:=A0 _
abbrev AcR:Loc×Con:=(.tmp 0,.dat Uj)
abbrev QM:A1:=[AcR]
abbrev AcS:Loc×Con:=(.tmp 0,.own 4 .bool)
abbrev AIu:A1:=[AcS]
abbrev AA6:A1:=[AcR,(.tmp 3,.own 4 .bool),(.tmp 9,.dat Uj),AX,AY]
abbrev AA5:BF:=[(.exit 0,[(.tmp 3,.own 4 .bool)])]
def KZ[Lk]:(List Int×List Bool×List Int×Int×Int×Unit)->Option ((List Int×List Bool×List Int×Int×Int×Unit)⊕(List Bool×Unit)⊕Unit):=fun(c,b,d,e,a,_)=>
 match(ilt a e)with
 |true=>match idx d a with|none=>none|some f=>match(ieq a 0)with
  |true=>match idx b a with|none=>none|some h=>some (.inl (c,(Bb b (A2 a) true),d,e,(w64 (a+1)),()))
  |false=>match idx c (w64 (a-1))with|none=>none|some g=>match idx b a with|none=>none|some i=>some (.inl (c,(Bb b (A2 a) (!(ieq g f))),d,e,(w64 (a+1)),()))
 |false=>some (.inr (.inl (b,())))
def Wx[Lk]:Uf->Option ((List Bool×Unit)):=fun(a,_)=>
 match(B4 (A3 a)&&B4 (A3 a)&&ile (A3 a) (A3 a)&&true)with
 |true=>match A_ KZ many (a,(C2 (A2 (A3 a)) false),a,(A3 a),(0:Int),())with|none=>none|some r=>match r with
  |.inl (b,_)=>some (b,())
  |.inr _=>none
 |false=>none
def ZS[Lk]:=lkk Wx
theorem cw v:ZS v=Wx v:=A0 _
def Pw[Lk]:Ub->Option (Ub):=fun(a,_)=>
 match(ilt a 1)with
 |true=>some (0,())
 |false=>match(ilt 16 a)with
 |true=>some (0,())
 |false=>match quo? .i64 (w64 ((w64 (32+a))-1)) a with|none=>none|some b=>some (b,())
def Px[Lk]:=lkk Pw
theorem RO v:Px v=Pw v:=A0 _
def aT[Lk]:U4->Option (Uc):=fun(a,b,_)=>
 match(ile 0 a)with
 |true=>match Px (b,())with|none=>none|some (c,_)=>some ((ilt a c),())
 |false=>some (false,())
def ll[Lk]:=lkk aT
theorem iM v:ll v=aT v:=A0 _
abbrev ALu:A1:=[AcQ,AD,AE]
def ai[Lk]:U9->Option (Ub):=fun(c,b,a,_)=>
 match ll (b,a,())with|none=>none|some (d,_)=>match(!d)with
 |true=>some (0,())
 |false=>match shr? .u32 c (IntKind.wrap .u64 (w64 (b*a)))with|none=>none|some e=>match shl? .u32 1 (IntKind.wrap .u64 a)with|none=>none|some f=>some ((IntKind.wrap .u32 ((BitVec.ofInt (IntKind.bits .u32) e &&& BitVec.ofInt (IntKind.bits .u32) (IntKind.wrap .u32 (f-1))).toNat)),())
def Vx[Lk]:=lkk ai
theorem iU v:Vx v=ai v:=A0 _
abbrev ALo:A1:=[AM,AD,(.tmp 5,.map U0 U0),(.tmp 9,.dat U7),AX,AY]
abbrev ALn:BF:=[(.ret,[Ae]),(.exit 0,[AM,AD])]
def OS[Lk]:(List Int×Int×List Um×List Int×Int×Int×Unit)->Option ((List Int×Int×List Um×List Int×Int×Int×Unit)⊕Uc⊕Ul⊕Unit):=fun(e,c,b,f,g,d,_)=>
 match(ilt d g)with
 |true=>match idx f d with|none=>none|some a=>match(ilt a 0)with
  |true=>some (.inr (.inl (false,())))
  |false=>match(ile c a)with
  |true=>some (.inr (.inl (false,())))
  |false=>match(ilt 1 ((A8 (BC b a (w64 (((A8 b a).getD 0)+1))) a).getD 0))with
  |true=>some (.inr (.inl (false,())))
  |false=>some (.inl (e,c,(BC b a (w64 (((A8 b a).getD 0)+1))),f,g,(w64 (d+1)),()))
 |false=>some (.inr (.inr (.inl (e,c,()))))
def lp[Lk]:Ul->Option (Uc):=fun(a,b,_)=>
 match A_ OS many (a,b,([]:List Um),a,(A3 a),0,())with|none=>none|some r=>match r with
 |.inl (c,_)=>some (c,())
 |.inr r=>match r with
 |.inl (d,e,_)=>some ((ieq (A3 d) e),())
 |.inr _=>none
def ACI[Lk]:=lkk lp
theorem q7 v:ACI v=lp v:=A0 _
abbrev AX8:A1:=[AcR,Ad,AE,AQ]
abbrev AcT:Loc×Con:=(.tmp 13,.own 3 U0)
abbrev AcU:Loc×Con:=(.tmp 9,.own 3 U0)
abbrev AVy:A1:=[AcR,AE,AQ,AcU,AcT,(.tmp 63,.dat U7),(.tmp 64,.di),(.tmp 65,.di)]
abbrev AVv:BF:=[(.exit 4,[AcT])]
def mC[Lk]:(List Int×Int×Int×List Int×List Int×List Int×Int×Int×Unit)->Option ((List Int×Int×Int×List Int×List Int×List Int×Int×Int×Unit)⊕Uf⊕Unit):=fun(e,f,g,a,c,h,i,d,_)=>
 match(ilt d i)with
 |true=>match idx h d with|none=>none|some j=>match idx e j with|none=>none|some k=>match Vx (k,f,g,())with|none=>none|some (b,_)=>match idx a b with|none=>none|some l=>match idx c (A7 a (A2 b) 0)with|none=>none|some m=>match idx a b with|none=>none|some n=>match idx a b with|none=>none|some o=>some (.inl (e,f,g,(Bb a (A2 b) (w64 ((A7 a (A2 b) 0)+1))),(Bb c (A2 (A7 a (A2 b) 0)) j),h,i,(w64 (d+1)),()))
 |false=>some (.inr (.inl (c,())))
abbrev AcV:Loc×Con:=(.tmp 45,.di)
abbrev AVz:A1:=[AcR,Ad,AE,AQ,AcU,(.tmp 44,.di),AcV]
abbrev AVw:BF:=[(.exit 2,[AcR,Ad,AE,AQ,AcU])]
def aj[Lk]:(List Int×List Int×Int×Int×List Int×Int×Int×Unit)->Option ((List Int×List Int×Int×Int×List Int×Int×Int×Unit)⊕(List Int×List Int×Int×Int×List Int×Unit)⊕Unit):=fun(c,d,e,f,b,g,a,_)=>
 match(ilt a g)with
 |true=>match idx b (w64 (a+1))with|none=>none|some h=>match idx b a with|none=>none|some i=>match idx b (w64 (a+1))with|none=>none|some j=>some (.inl (c,d,e,f,(Bb b (A2 (w64 (a+1))) (w64 ((A7 b (A2 (w64 (a+1))) 0)+(A7 b (A2 a) 0)))),g,(w64 (a+1)),()))
 |false=>some (.inr (.inl (c,d,e,f,b,())))
abbrev AcW:Loc×Con:=(.tmp 24,.di)
abbrev AV0:A1:=[AcR,Ad,AE,AQ,AcU,(.tmp 22,.dat U7),(.tmp 23,.di),AcW]
abbrev AVx:BF:=[(.exit 0,[AcR,Ad,AE,AQ,AcU])]
def ak[Lk]:V3->Option (V3⊕(List Int×List Int×Int×Int×List Int×Unit)⊕Unit):=fun(c,g,d,e,a,h,i,f,_)=>
 match(ilt f i)with
 |true=>match idx h f with|none=>none|some j=>match idx c j with|none=>none|some k=>match Vx (k,d,e,())with|none=>none|some (b,_)=>match idx a (IntKind.wrap .u32 (b+1))with|none=>none|some l=>match idx a (IntKind.wrap .u32 (b+1))with|none=>none|some m=>some (.inl (c,g,d,e,(Bb a (A2 (IntKind.wrap .u32 (b+1))) (w64 ((A7 a (A2 (IntKind.wrap .u32 (b+1))) 0)+1))),h,i,(w64 (f+1)),()))
 |false=>some (.inr (.inl (c,g,d,e,a,())))
def ALy[Lk]:Un->Option (Uf):=fun(f,c,g,d,_)=>
 match shl? .i64 1 (IntKind.wrap .u64 d)with|none=>none|some b=>match(B4 (w64 (b+1))&&B4 (w64 (b+1))&&ile (w64 (b+1)) (w64 (b+1))&&true)with
 |true=>match A_ ak many (f,c,g,d,(C2 (A2 (w64 (b+(1:Int)))) (0:Int)),c,(A3 c),(0:Int),())with|none=>none|some r=>match r with
  |.inl (h,i,j,k,e,_)=>match A_ aj many (h,i,j,k,e,(w64 ((A3 e)-1)),0,())with|none=>none|some r=>match r with
   |.inl (l,a,m,n,o,_)=>match(B4 (A3 a)&&B4 (A3 a)&&ile (A3 a) (A3 a)&&true)with
    |true=>match A_ mC many (l,m,n,o,(C2 (A2 (A3 a)) (0:Int)),a,(A3 a),(0:Int),())with|none=>none|some r=>match r with
     |.inl (p,_)=>some (p,())
     |.inr _=>none
    |false=>none
   |.inr _=>none
  |.inr _=>none
 |false=>none
def rby[Lk]:=lkk ALy
theorem ALx v:rby v=ALy v:=A0 _
def XO[Lk]:U4->Option (Uc):=fun(a,b,_)=>
 match(ile 1 a)with
 |true=>match(ile a 1000)with
  |true=>match(ile 1 b)with
   |true=>some ((ile b 100),())
   |false=>some (false,())
  |false=>some (false,())
 |false=>some (false,())
def Po[Lk]:=lkk XO
theorem lP v:Po v=XO v:=A0 _
abbrev AcX:Loc×Con:=(.tmp 0,.dat (.prod V1 (.prod U0 (.prod Uh .unit))))
abbrev AEm:A1:=[AcX]
abbrev AcY:Loc×Con:=(.cell 0 0,.dat V1)
abbrev AcZ:Loc×Con:=(.cell 0 2,.dat Uh)
abbrev Aca:Loc×Con:=(.cell 0 1,.di)
abbrev wv:A1:=[AcP,AcY,Aca,AcZ,(.tmp 25,.dat V1),AW,AU]
abbrev RD:BF:=[(.ret,[AF]),(.exit 0,[])]
def wu[Lk]:(List U6×Int×List Bool×List U6×Int×Int×Unit)->Option ((List U6×Int×List Bool×List U6×Int×Int×Unit)⊕Uc⊕(Unit)⊕Unit):=fun(f,g,c,d,e,b,_)=>
 match(ilt b e)with
 |true=>match idx d b with|none=>none|some a=>match(ilt a.1 0)with
  |true=>some (.inr (.inl (false,())))
  |false=>match(ile a.2.1 a.1)with
  |true=>some (.inr (.inl (false,())))
  |false=>match(ilt (A3 c) a.2.1)with
  |true=>some (.inr (.inl (false,())))
  |false=>match(ilt a.2.2.1 (-1:Int))with
  |true=>some (.inr (.inl (false,())))
  |false=>match(ile b a.2.2.1)with
  |true=>some (.inr (.inl (false,())))
  |false=>match(ilt a.2.2.2.1 0)with
  |true=>some (.inr (.inl (false,())))
  |false=>match(ilt 2 a.2.2.2.1)with
  |true=>some (.inr (.inl (false,())))
  |false=>some (.inl (f,g,c,d,e,(w64 (b+1)),()))
 |false=>some (.inr (.inr (.inl ())))
def gu[Lk]:(((List U6)×Int×(List Bool)×Unit)×Unit)->Option (Uc):=fun(a,_)=>
 match Po ((A3 a.2.2.1),a.2.1,())with|none=>none|some (b,_)=>match(!b)with
 |true=>some (false,())
 |false=>match(ieq (A3 a.1) 0)with
 |true=>some (false,())
 |false=>match(ilt 2000 (A3 a.1))with
 |true=>some (false,())
 |false=>match A_ wu many (a.1,a.2.1,a.2.2.1,a.1,(A3 a.1),0,())with|none=>none|some r=>match r with
 |.inl (c,_)=>some (c,())
 |.inr r=>match r with
 |.inl _=>some (true,())
 |.inr _=>none
def Yp[Lk]:=lkk gu
theorem wx v:Yp v=gu v:=A0 _
abbrev Lp:A1:=[AcX,AD]
def gr[Lk]:(((List U6)×Int×(List Bool)×Unit)×Int×Unit)->Option (Ub):=fun(a,b,_)=>
 match Yp ((a.1,(a.2.1,(a.2.2.1,()))),())with|none=>none|some (c,_)=>match(!c)with
 |true=>some (1,())
 |false=>match(ilt b 0)with
 |true=>some (6,())
 |false=>match(ile (A3 a.1) b)with
 |true=>some (6,())
 |false=>some (0,())
def Sd[Lk]:=lkk gr
theorem wq v:Sd v=gr v:=A0 _
abbrev AEj:A1:=[(.tmp 0,.dat Ua)]
def gq[Lk]:(U6×Unit)->Option (Ub):=fun(a,_)=>
 some ((w64 (a.2.1-a.1)),())
def Pn[Lk]:=lkk gq
theorem wo v:Pn v=gq v:=A0 _
def gw[Lk]:(((List U6)×Int×(List Bool)×Unit)×Int×Unit)->Option (Uc):=fun(a,c,_)=>
 match Sd ((a.1,(a.2.1,(a.2.2.1,()))),c,())with|none=>none|some (d,_)=>match(ieq d 0)with
 |true=>match idx a.1 c with|none=>none|some b=>match Pn ((b.1,(b.2.1,(b.2.2.1,(b.2.2.2.1,())))),())with|none=>none|some (e,_)=>some ((ilt a.2.1 e),())
 |false=>some (false,())
def Yq[Lk]:=lkk gw
theorem wz v:Yq v=gw v:=A0 _
abbrev Acb:Loc×Con:=(.tmp 2,.own 4 .bool)
abbrev Acd:Loc×Con:=(.tmp 0,.own 208 Ua)
abbrev AEr:A1:=[Acd,AD,Acb,AQ]
abbrev Pp:List RS:=[.agg 3,.one]
def gz[Lk]:U4->Option ((List U6×Int×List Bool×Int×Unit)):=fun(a,b,_)=>
 match Po (a,b,())with|none=>none|some (c,_)=>match(!c)with
 |true=>some (([]:List U6),0,([]:List (Bool)),1,())
 |false=>match(B4 a&&B4 a&&ile a a&&true)with
 |true=>some (([((0:Int),(a,((-1:Int),((0:Int),()))))]:List U6),b,(C2 (A2 a) false),(0:Int),())
 |false=>none
def lQ[Lk]:=lkk gz
theorem xB v:lQ v=gz v:=A0 _
abbrev Ace:Loc×Con:=(.tmp 2,.dat Uh)
abbrev Acf:Loc×Con:=(.tmp 5,.di)
abbrev AKf:A1:=[(.tmp 0,.dat V1),AD,Ace,AQ,AP,Acf]
abbrev AKe:List RS:=[.agg 3,.one,.one,.one]
def qL[Lk]:(((List U6)×Int×(List Bool)×Unit)×Int×Unit)->Option ((List U6×Int×List Bool×Int×Int×Int×Unit)):=fun(b,c,_)=>
 match Sd ((b.1,(b.2.1,(b.2.2.1,()))),c,())with|none=>none|some (f,_)=>match(!(ieq f 0))with
 |true=>some (b.1,b.2.1,b.2.2.1,0,0,f,())
 |false=>match idx b.1 c with|none=>none|some a=>match Pn ((a.1,(a.2.1,(a.2.2.1,(a.2.2.2.1,())))),())with|none=>none|some (g,_)=>match(ile g b.2.1)with
 |true=>some (b.1,b.2.1,b.2.2.1,0,0,5,())
 |false=>match(ilt 0 a.2.2.2.1)with
 |true=>some (b.1,b.2.1,b.2.2.1,0,0,5,())
 |false=>match(ilt 2000 (w64 ((A3 b.1)+2)))with
 |true=>some (b.1,b.2.1,b.2.2.1,0,0,2,())
 |false=>match Pn ((a.1,(a.2.1,(a.2.2.1,(a.2.2.2.1,())))),())with|none=>none|some (h,_)=>match quo? .i64 h 2 with|none=>none|some d=>match Lh b.1 with|none=>none|some e=>match(fits ((A3 e)+(A3 ([(a.1,((w64 (a.1+d)),(c,(0,())))),((w64 (a.1+d)),(a.2.1,(c,(0,()))))]:List U6))))with
 |true=>match idx (Bi e ([(a.1,((w64 (a.1+d)),(c,(0,())))),((w64 (a.1+d)),(a.2.1,(c,(0,()))))]:List U6)) c with|none=>none|some i=>some ((Bb (Bi e ([(a.1,((w64 (a.1+d)),(c,(0,())))),((w64 (a.1+d)),(a.2.1,(c,(0,()))))]:List U6)) (A2 c) ((A7 (Bi e ([(a.1,((w64 (a.1+d)),(c,(0,())))),((w64 (a.1+d)),(a.2.1,(c,(0,()))))]:List U6)) (A2 c) (0,(0,(0,(0,()))))).1,((A7 (Bi e ([(a.1,((w64 (a.1+d)),(c,(0,())))),((w64 (a.1+d)),(a.2.1,(c,(0,()))))]:List U6)) (A2 c) (0,(0,(0,(0,()))))).2.1,((A7 (Bi e ([(a.1,((w64 (a.1+d)),(c,(0,())))),((w64 (a.1+d)),(a.2.1,(c,(0,()))))]:List U6)) (A2 c) (0,(0,(0,(0,()))))).2.2.1,(2,()))))),b.2.1,b.2.2.1,(A3 b.1),(w64 ((A3 b.1)+1)),0,())
 |false=>none
def wy[Lk]:=lkk qL
theorem AEo v:wy v=qL v:=A0 _
abbrev w7:A1:=[Acd,AD]
abbrev Acg:Loc×Con:=(.obj 0,.own 208 Ua)
abbrev w6:A1:=[Acg,AB]
abbrev qO:A1:=[Acg,Ai,AD]
abbrev qN:BF:=[(.ret,[Acg,Ae]),(.exit 0,[Acg])]
def qM[Lk]:(List U6×Int×Unit)->Option ((List U6×Int×Unit)⊕(List U6×Bool×Unit)⊕(List U6×Unit)⊕Unit):=fun(b,a,_)=>
 match(!(ieq a (-1:Int)))with
 |true=>match idx b a with|none=>none|some c=>match(ieq (A7 b (A2 a) (0,(0,(0,(0,()))))).2.2.2.1 0)with
  |true=>some (.inr (.inl (b,false,())))
  |false=>match(ilt 0 (A7 (Bb b (A2 a) ((A7 b (A2 a) (0,(0,(0,(0,()))))).1,((A7 b (A2 a) (0,(0,(0,(0,()))))).2.1,((A7 b (A2 a) (0,(0,(0,(0,()))))).2.2.1,((w64 ((A7 b (A2 a) (0,(0,(0,(0,()))))).2.2.2.1-1)),()))))) (A2 a) (0,(0,(0,(0,()))))).2.2.2.1)with
  |true=>some (.inr (.inl ((Bb b (A2 a) ((A7 b (A2 a) (0,(0,(0,(0,()))))).1,((A7 b (A2 a) (0,(0,(0,(0,()))))).2.1,((A7 b (A2 a) (0,(0,(0,(0,()))))).2.2.1,((w64 ((A7 b (A2 a) (0,(0,(0,(0,()))))).2.2.2.1-1)),()))))),false,())))
  |false=>some (.inl ((Bb b (A2 a) ((A7 b (A2 a) (0,(0,(0,(0,()))))).1,((A7 b (A2 a) (0,(0,(0,(0,()))))).2.1,((A7 b (A2 a) (0,(0,(0,(0,()))))).2.2.1,((w64 ((A7 b (A2 a) (0,(0,(0,(0,()))))).2.2.2.1-1)),()))))),(A7 (Bb b (A2 a) ((A7 b (A2 a) (0,(0,(0,(0,()))))).1,((A7 b (A2 a) (0,(0,(0,(0,()))))).2.1,((A7 b (A2 a) (0,(0,(0,(0,()))))).2.2.1,((w64 ((A7 b (A2 a) (0,(0,(0,(0,()))))).2.2.2.1-1)),()))))) (A2 a) (0,(0,(0,(0,()))))).2.2.1,()))
 |false=>some (.inr (.inr (.inl (b,()))))
def Z6[Lk]:(List U6×Int×Unit)->Option ((List U6×Bool×Unit)):=fun(a,b,_)=>
 match A_ qM many (a,b,())with|none=>none|some r=>match r with
 |.inl (c,d,_)=>some (c,d,())
 |.inr r=>match r with
 |.inl (e,_)=>some (e,true,())
 |.inr _=>none
def Z7[Lk]:=lkk Z6
theorem qP v:Z7 v=Z6 v:=A0 _
abbrev AVW:A1:=[(.tmp 0,.dat V1),AD,Ace,(.tmp 3,.dat .bool),AP]
abbrev AKh:List RS:=[.agg 3,.one,.one]
abbrev Ach:Loc×Con:=(.cell 0 2,.own 4 .bool)
abbrev Aci:Loc×Con:=(.tmp 2,.box 3)
abbrev Acj:Loc×Con:=(.tmp 4,.box 3)
abbrev Ack:Loc×Con:=(.cell 4 3,.di)
abbrev Acl:Loc×Con:=(.cell 4 2,.di)
abbrev Acm:Loc×Con:=(.cell 4 0,.di)
abbrev AQ6:A1:=[Aci,(.cell 0 0,.own 208 Ua),Aca,Ach,Acj,(.cell 3 0,.nil Ua),(.cell 3 1,.di),(.cell 3 2,.nil .bool),(.tmp 8,.box 4),Acm,(.cell 4 1,.di),Acl,Ack,Aa]
abbrev AQ5:BF:=[(.exit 0,[Aci,(.cell 0 0,.own 208 Ua),Aca,Ach,Acj,(.cell 3 0,.nil Ua),(.cell 3 1,.di),(.cell 3 2,.nil .bool),(.tmp 8,.box 4),Acm,(.cell 4 1,.di),Acl,Ack])]
def AQ4[Lk]:(List U6×Int×List Bool×Int×Int×Int×Int×Int×Int×Unit)->Option ((List U6×Int×List Bool×Int×Int×Int×Int×Int×Int×Unit)⊕(List U6×Int×List Bool×Int×Int×Int×Int×Int×Unit)⊕Unit):=fun(d,e,b,f,g,c,h,i,a,_)=>
 match(ilt a c)with
 |true=>match idx b a with|none=>none|some j=>some (.inl (d,e,(Bb b (A2 a) true),f,g,c,h,i,(w64 (a+1)),()))
 |false=>some (.inr (.inl (d,e,b,f,g,c,h,i,())))
def AKi[Lk]:(((List U6)×Int×(List Bool)×Unit)×Int×Unit)->Option ((List U6×Int×List Bool×Bool×Int×Unit)):=fun(a,c,_)=>
 match Sd ((a.1,(a.2.1,(a.2.2.1,()))),c,())with|none=>none|some (d,_)=>match(!(ieq d 0))with
 |true=>some (a.1,a.2.1,a.2.2.1,false,d,())
 |false=>match idx a.1 c with|none=>none|some b=>match Pn ((b.1,(b.2.1,(b.2.2.1,(b.2.2.2.1,())))),())with|none=>none|some (e,_)=>match(ilt a.2.1 e)with
 |true=>some (a.1,a.2.1,a.2.2.1,false,5,())
 |false=>match(ilt 0 b.2.2.2.1)with
 |true=>some (a.1,a.2.1,a.2.2.1,false,5,())
 |false=>match idx a.2.2.1 b.1 with|none=>none|some f=>match f with
 |true=>some (a.1,a.2.1,a.2.2.1,false,5,())
 |false=>match Lh a.1 with|none=>none|some g=>match Lh a.2.2.1 with|none=>none|some h=>match A_ AQ4 many (g,a.2.1,h,0,b.1,b.2.1,b.2.2.1,b.2.2.2.1,b.1,())with|none=>none|some r=>match r with
 |.inl (i,j,k,o,p,q,l,s,_)=>match Z7 (i,l,())with|none=>none|some (m,n,_)=>some (m,j,k,n,0,())
 |.inr _=>none
def AVY[Lk]:=lkk AKi
theorem AQ7 v:AVY v=AKi v:=A0 _
def dK[Lk]:Ub->Option (Uc):=fun(a,_)=>
 match(ile 0 a)with
 |true=>some ((ile a 100000),())
 |false=>some (false,())
def UB[Lk]:=lkk dK
theorem vO v:UB v=dK v:=A0 _
def vL[Lk]:(((List U6)×Int×(List Bool)×Unit)×Int×Unit)->Option (Uc):=fun(a,b,_)=>
 match(ile 0 b)with
 |true=>match(ilt b (A3 a.1))with
  |true=>match idx a.1 b with|none=>none|some c=>match(ieq c.2.2.2.1 0)with
   |true=>match Yq ((a.1,(a.2.1,(a.2.2.1,()))),b,())with|none=>none|some (d,_)=>match d with
    |true=>some (true,())
    |false=>match idx a.1 b with|none=>none|some e=>match idx a.2.2.1 e.1 with|none=>none|some f=>some ((!f),())
   |false=>some (false,())
  |false=>some (false,())
 |false=>some (false,())
def ABc[Lk]:=lkk vL
theorem AJV v:ABc v=vL v:=A0 _
abbrev Acn:Loc×Con:=(.tmp 0,.dat V6)
abbrev uo:A1:=[Acn]
abbrev Aco:Loc×Con:=(.cell 0 4,.dat .bool)
abbrev Acp:Loc×Con:=(.cell 0 3,.dat Ud)
abbrev Acq:Loc×Con:=(.cell 0 5,.di)
abbrev Acr:Loc×Con:=(.tmp 1,.box 7)
abbrev Acs:Loc×Con:=(.cell 0 6,.di)
abbrev Acu:Loc×Con:=(.tmp 40,.di)
abbrev Acv:Loc×Con:=(.tmp 39,.di)
abbrev Acw:Loc×Con:=(.tmp 46,.di)
abbrev AJC:A1:=[Acr,AcY,Aca,AcZ,Acp,Aco,Acq,Acs,AZ,(.tmp 38,.dat Ud),Acv,Acu,(.tmp 44,.dat U7),AcV,Acw]
abbrev AJB:BF:=[(.ret,[AF]),(.exit 2,[Acr,AcY,Aca,AcZ,Acp,Aco,Acq,Acs,AZ,(.tmp 38,.dat Ud),Acv,Acu])]
def AI9[Lk]:(List U6×Int×List Bool×List U5×Bool×Int×Int×List Um×List U5×Int×Int×List Int×Int×Int×Unit)->Option ((List U6×Int×List Bool×List U5×Bool×Int×Int×List Um×List U5×Int×Int×List Int×Int×Int×Unit)⊕Uc⊕V7⊕Unit):=fun(c,d,e,g,h,i,j,b,k,l,m,n,o,f,_)=>
 match(ilt f o)with
 |true=>match idx n f with|none=>none|some a=>match(ilt 1 ((A8 (BC b a (w64 (((A8 b a).getD 0)+1))) a).getD 0))with
  |true=>some (.inr (.inl (false,())))
  |false=>match ABc ((c,(d,(e,()))),a,())with|none=>none|some (p,_)=>match(!p)with
  |true=>some (.inr (.inl (false,())))
  |false=>some (.inl (c,d,e,g,h,i,j,(BC b a (w64 (((A8 b a).getD 0)+1))),k,l,m,n,o,(w64 (f+1)),()))
 |false=>some (.inr (.inr (.inl (c,d,e,g,h,i,j,b,k,l,m,()))))
abbrev AJD:A1:=[Acr,AcY,Aca,AcZ,Acp,Aco,Acq,Acs,AZ,(.tmp 38,.dat Ud),Acv,Acu]
def AJA[Lk]:V7->Option (V7⊕Uc⊕(Unit)⊕Unit):=fun(e,f,g,h,i,j,k,l,b,c,a,_)=>
 match(ilt a c)with
 |true=>match idx b a with|none=>none|some d=>match A_ AI9 many (e,f,g,h,i,j,k,l,b,c,a,d,(A3 d),0,())with|none=>none|some r=>match r with
  |.inl (m,_)=>some (.inr (.inl (m,())))
  |.inr r=>match r with
  |.inl (n,o,p,q,s,t,u,v,w,x,y,_)=>some (.inl (n,o,p,q,s,t,u,v,w,x,(w64 (y+1)),()))
  |.inr _=>none
 |false=>some (.inr (.inr (.inl ())))
def uq[Lk]:((((List U6)×Int×(List Bool)×Unit)×(List U5)×Bool×Int×Int×Unit)×Unit)->Option (Uc):=fun(a,_)=>
 match Yp ((a.1.1,(a.1.2.1,(a.1.2.2.1,()))),())with|none=>none|some (b,_)=>match(!b)with
 |true=>some (false,())
 |false=>match(ieq (A3 a.2.1) 0)with
 |true=>some (false,())
 |false=>match(ilt 8 (A3 a.2.1))with
 |true=>some (false,())
 |false=>match UB (a.2.2.2.1,())with|none=>none|some (c,_)=>match(!c)with
 |true=>some (false,())
 |false=>match UB (a.2.2.2.2.1,())with|none=>none|some (d,_)=>match(!d)with
 |true=>some (false,())
 |false=>match A_ AJA many (a.1.1,a.1.2.1,a.1.2.2.1,a.2.1,a.2.2.1,a.2.2.2.1,a.2.2.2.2.1,([]:List Um),a.2.1,(A3 a.2.1),0,())with|none=>none|some r=>match r with
 |.inl (e,_)=>some (e,())
 |.inr r=>match r with
 |.inl _=>some (true,())
 |.inr _=>none
def ABC[Lk]:=lkk uq
theorem AJE v:ABC v=uq v:=A0 _
abbrev AP1:A1:=[Acd,AD,Acb,(.tmp 3,.own 51 U7),Ae,Acf,AcC,AO]
abbrev AP0:List RS:=[.agg 7,.one]
def vP[Lk]:U9->Option ((List U6×Int×List Bool×List U5×Bool×Int×Int×Int×Unit)):=fun(c,d,a,_)=>
 match(ilt a 1)with
 |true=>some (([]:List U6),0,([]:List (Bool)),([]:List U5),false,0,0,1,())
 |false=>match(ilt 8 a)with
 |true=>some (([]:List U6),0,([]:List (Bool)),([]:List U5),false,0,0,1,())
 |false=>match lQ (c,d,())with|none=>none|some (e,f,g,b,_)=>match(!(ieq b 0))with
 |true=>some (([]:List U6),0,([]:List (Bool)),([]:List U5),false,0,0,b,())
 |false=>match(B4 a&&B4 a&&ile a a&&true)with
 |true=>match idx (C2 (A2 a) ()) (0:Int)with|none=>none|some h=>match(fits (A3 ([0]:List (Int))))with
  |true=>match idx (C2 (A2 a) ()) (0:Int)with|none=>none|some i=>some (e,f,g,(Bb (C2 (List.length (C2 (A2 a) ())) []) 0 ([(0:Int)]:List (Int))),false,(0:Int),(0:Int),(0:Int),())
  |false=>none
 |false=>none
def W9[Lk]:=lkk vP
theorem AJc v:W9 v=vP v:=A0 _
abbrev APs:A1:=[AE,(.tmp 6,.dat Ud),AO,AN]
abbrev APr:BF:=[(.exit 0,[AE])]
def APq[Lk]:(Int×List U5×Int×Int×Unit)->Option ((Int×List U5×Int×Int×Unit)⊕Ub⊕Unit):=fun(b,c,d,a,_)=>
 match(ilt a d)with
 |true=>match idx c a with|none=>none|some e=>some (.inl ((w64 (b+(A3 e))),c,d,(w64 (a+1)),()))
 |false=>some (.inr (.inl (b,())))
def ADs[Lk]:((((List U6)×Int×(List Bool)×Unit)×(List U5)×Bool×Int×Int×Unit)×Unit)->Option (Ub):=fun(a,_)=>
 match A_ APq many (0,a.2.1,(A3 a.2.1),0,())with|none=>none|some r=>match r with
 |.inl (b,_)=>some (b,())
 |.inr _=>none
def APu[Lk]:=lkk ADs
theorem APt v:APu v=ADs v:=A0 _
abbrev Acx:Loc×Con:=(.cell 0 10,.dat .bool)
abbrev Acy:Loc×Con:=(.cell 0 3,.own 51 U7)
abbrev Acz:Loc×Con:=(.cell 0 9,.di)
abbrev Ac0:Loc×Con:=(.cell 0 8,.di)
abbrev Ac1:Loc×Con:=(.cell 0 7,.di)
abbrev jo:A1:=[(.tmp 0,.box 11),AcY,Aca,AcZ,Acy,Aco,Acq,Acs,Ac1,Ac0,Acz,Acx,AD]
abbrev Ac2:Loc×Con:=(.obj 1,.own' 1)
abbrev jn:A1:=[(.obj 0,.box 11),AcY,Aca,AcZ,Acy,Aco,Acq,Acs,Ac1,Ac0,Acz,Acx,Ac2,AA]
def jq[Lk]:Uw->Option (Uw):=fun(b,c,d,a,e,f,g,h,i,j,k,l,_)=>
 match rem? l (A3 a)with|none=>none|some m=>match rem? (w64 (m+(A3 a))) (A3 a)with|none=>none|some n=>some (b,c,d,a,e,f,g,h,i,j,k,n,())
def ZU[Lk]:=lkk jq
theorem ABS v:ZU v=jq v:=A0 _
abbrev APw:A1:=[(.tmp 0,.box 11),AcY,Aca,AcZ,Acy,Aco,Acq,Acs,Ac1,Ac0,Acz,Acx,AD,AE]
abbrev APv:A1:=[(.obj 0,.box 11),AcY,Aca,AcZ,Acy,Aco,Acq,Acs,Ac1,Ac0,Acz,Acx,Ac2,AB]
def vN[Lk]:(List U6×Int×List Bool×List U5×Bool×Int×Int×Int×Int×Int×Bool×Int×Int×Unit)->Option ((List U6×Int×List Bool×List U5×Bool×Int×Int×Int×Int×Int×Bool×Bool×Unit)):=fun(d,e,f,a,g,h,i,j,l,m,k,b,c,_)=>
 match idx a b with|none=>none|some r=>match idx a c with|none=>none|some s=>match(ile 0 (w64 ((A3 (A7 a (A2 b) ([]:List (Int))))-1)))with
 |true=>match idx (A7 a (A2 b) ([]:List (Int))) (w64 ((A3 (A7 a (A2 b) ([]:List (Int))))-1))with|none=>none|some n=>match(ieq (w64 ((A3 (A7 a (A2 b) ([]:List (Int))))-1)) (w64 ((A3 (A7 a (A2 b) ([]:List (Int))))-1)))with
  |true=>match Ci (A7 a (A2 b) ([]:List (Int))) 0 (w64 ((A3 (A7 a (A2 b) ([]:List (Int))))-1))with|none=>none|some o=>match idx a b with|none=>none|some t=>some (d,e,f,(Bb a (A2 b) o),g,h,i,j,b,n,k,true,())
  |false=>none
 |false=>match(ilt 0 (A3 (A7 a (A2 c) ([]:List (Int)))))with
 |true=>match idx (A7 a (A2 c) ([]:List (Int))) 0 with|none=>none|some p=>match Ci (A7 a (A2 c) ([]:List (Int))) 1 (A3 (A7 a (A2 c) ([]:List (Int))))with|none=>none|some q=>match idx a c with|none=>none|some u=>some (d,e,f,(Bb a (A2 c) q),g,h,i,j,c,p,k,true,())
 |false=>some (d,e,f,a,g,h,i,j,l,m,k,false,())
def ABd[Lk]:=lkk vN
theorem AJa v:ABd v=vN v:=A0 _
def AVJ[Lk]:Uw->Option (Uw):=fun(h,i,j,a,k,d,e,f,g,b,l,c,_)=>
 match Yq ((h,(i,(j,()))),b,())with|none=>none|some (w,_)=>match w with
 |true=>match wy ((h,(i,(j,()))),b,())with|none=>none|some (n,o,p,q,r,m,_)=>match(ieq m 0)with
  |true=>match idx a c with|none=>none|some y=>match(fits ((A3 (A7 a (A2 c) ([]:List (Int))))+(A3 ([r,q]:List (Int)))))with
   |true=>match idx a c with|none=>none|some z=>some (n,o,p,(Bb a (A2 c) (Bi (A7 a (A2 c) ([]:List (Int))) ([r,q]:List (Int)))),k,d,e,f,g,b,true,m,())
   |false=>none
  |false=>some (n,o,p,a,k,d,e,f,g,b,l,m,())
 |false=>match AVY ((h,(i,(j,()))),b,())with|none=>none|some (s,t,u,x,v,_)=>match k with
 |true=>some (s,t,u,a,true,d,e,f,g,b,l,v,())
 |false=>some (s,t,u,a,x,d,e,f,g,b,l,v,())
def cgo[Lk]:=lkk AVJ
theorem AXJ v:cgo v=AVJ v:=A0 _
abbrev AUQ:A1:=[Acn,AD,AE]
abbrev AUP:A1:=[(.tmp 0,.dat V1),AD,Ace,(.tmp 3,.dat Ud),Ae,Acf,AcC,(.tmp 7,.dat U1),AN]
abbrev AUO:List RS:=[.agg 7,.one,.one]
def ADo[Lk]:((((List U6)×Int×(List Bool)×Unit)×(List U5)×Bool×Int×Int×Unit)×Int×Int×Unit)->Option ((List U6×Int×List Bool×List U5×Bool×Int×Int×U2×Int×Unit)):=fun(a,o,p,_)=>
 match ABC (((a.1.1,(a.1.2.1,(a.1.2.2.1,()))),(a.2.1,(a.2.2.1,(a.2.2.2.1,(a.2.2.2.2.1,()))))),())with|none=>none|some (q,_)=>match(!q)with
 |true=>some (a.1.1,a.1.2.1,a.1.2.2.1,a.2.1,a.2.2.1,a.2.2.2.1,a.2.2.2.2.1,(0,(0,(0,(false,())))),1,())
 |false=>match(ieq a.2.2.2.1 100000)with
 |true=>some (a.1.1,a.1.2.1,a.1.2.2.1,a.2.1,a.2.2.1,a.2.2.2.1,a.2.2.2.2.1,(0,(0,(0,(false,())))),2,())
 |false=>match Lh a.2.1 with|none=>none|some r=>match ZU (a.1.1,a.1.2.1,a.1.2.2.1,r,a.2.2.1,a.2.2.2.1,a.2.2.2.2.1,0,(-1:Int),(-1:Int),false,o,())with|none=>none|some (s,t,u,v,w,x,y,z,A,B,C,b,_)=>match ZU (s,t,u,v,w,x,y,z,A,B,C,p,())with|none=>none|some (D,E,F,G,H,I,J,y21,K,L,M,N,_)=>match ABd (D,E,F,G,H,(w64 (I+1)),J,b,K,L,M,b,N,())with|none=>none|some (d,e,f,g,h,i,c,j,k,l,m,O,_)=>match O with
 |true=>match cgo (d,e,f,g,h,i,c,j,k,l,m,b,())with|none=>none|some (P,Q,R,S,T,U,V,W,X,Y,Z,n,_)=>match(!(ieq n 0))with
  |true=>some (a.1.1,a.1.2.1,a.1.2.2.1,a.2.1,a.2.2.1,a.2.2.2.1,a.2.2.2.2.1,(0,(0,(0,(false,())))),n,())
  |false=>some (P,Q,R,S,T,U,V,(W,(X,(Y,(Z,())))),0,())
 |false=>match(ieq c 100000)with
 |true=>some (a.1.1,a.1.2.1,a.1.2.2.1,a.2.1,a.2.2.1,a.2.2.2.1,a.2.2.2.2.1,(0,(0,(0,(false,())))),2,())
 |false=>some (d,e,f,g,h,i,(w64 (c+1)),(j,(k,(l,(m,())))),0,())
def APd[Lk]:=lkk ADo
theorem APc v:APd v=ADo v:=A0 _
abbrev Ac3:Loc×Con:=(.cell 0 7,.own 271 U1)
abbrev AUD:A1:=[(.tmp 0,.box 8),AcY,Aca,AcZ,Acp,Aco,Acq,Acs,Ac3,AD,AE]
abbrev Ac4:Loc×Con:=(.obj 0,.box 8)
abbrev ADe:A1:=[Ac4,AcY,Aca,AcZ,Acp,Aco,Acq,Acs,Ac3,AA]
def ADf[Lk]:(List U6×Int×List Bool×List U5×Bool×Int×Int×List U2×Int×Int×Unit)->Option (Ug):=fun(d,e,f,g,h,i,j,b,k,l,_)=>
 match APd (((d,(e,(f,()))),(g,(h,(i,(j,()))))),k,l,())with|none=>none|some (m,n,o,p,q,r,s,a,c,_)=>match(ieq c 0)with
 |true=>match(fits ((A3 b)+(A3 ([(a.1,(a.2.1,(a.2.2.1,(a.2.2.2.1,()))))]:List U2))))with
  |true=>some (m,n,o,p,q,r,s,(Bi b ([(a.1,(a.2.1,(a.2.2.1,(a.2.2.2.1,()))))]:List U2)),c,())
  |false=>none
 |false=>some (d,e,f,g,h,i,j,b,c,())
def ADg[Lk]:=lkk ADf
theorem APK v:ADg v=ADf v:=A0 _
abbrev AIk:A1:=[(.tmp 0,.box 8),AcY,Aca,AcZ,Acp,Aco,Acq,Acs,Ac3]
abbrev Ac5:Loc×Con:=(.tmp 0,.ptr' 0 0)
abbrev Ac6:Loc×Con:=(.tmp 14,.di)
abbrev AAq:A1:=[Ac4,AcY,Aca,AcZ,Acp,Aco,Acq,Acs,Ac3,Ac5,AQ,AL,Ac6]
abbrev AAo:BF:=[(.ret,[Ac4,AcY,Aca,AcZ,Acp,Aco,Acq,Acs,Ac3,AE]),(.exit 2,[Ac4,AcY,Aca,AcZ,Acp,Aco,Acq,Acs,Ac3,Ac5,AQ])]
def AAm[Lk]:(List U6×Int×List Bool×List U5×Bool×Int×Int×List U2×Int×Int×Int×Unit)->Option ((List U6×Int×List Bool×List U5×Bool×Int×Int×List U2×Int×Int×Int×Unit)⊕Ug⊕Ug⊕Unit):=fun(b,c,d,e,a,f,g,h,j,k,i,_)=>
 match(ilt i k)with
 |true=>match a with
  |true=>some (.inr (.inl (b,c,d,e,a,f,g,h,0,())))
  |false=>match APu (((b,(c,(d,()))),(e,(a,(f,(g,()))))),())with|none=>none|some (u,_)=>match(ieq u 0)with
  |true=>some (.inr (.inl (b,c,d,e,a,f,g,h,4,())))
  |false=>match ADg (b,c,d,e,a,f,g,h,i,(w64 ((w64 (i+1))+j)),())with|none=>none|some (l,m,n,o,p,q,r,s,t,_)=>match(!(ieq t 0))with
  |true=>some (.inr (.inl (l,m,n,o,p,q,r,s,t,())))
  |false=>some (.inl (l,m,n,o,p,q,r,s,j,k,(w64 (i+1)),()))
 |false=>some (.inr (.inr (.inl (b,c,d,e,a,f,g,h,j,()))))
abbrev AAr:A1:=[Ac4,AcY,Aca,AcZ,Acp,Aco,Acq,Acs,Ac3,Ac5,AQ]
abbrev AAp:BF:=[(.ret,[Ac4,AcY,Aca,AcZ,Acp,Aco,Acq,Acs,Ac3,AE])]
def AAn[Lk]:Ug->Option (Ug⊕Ug⊕Unit):=fun(b,c,d,a,e,f,g,h,i,_)=>
 match A_ AAm many (b,c,d,a,e,f,g,h,i,(A3 a),0,())with|none=>none|some r=>match r with
 |.inl (j,k,l,m,n,o,p,q,s,_)=>some (.inr (.inl (j,k,l,m,n,o,p,q,s,())))
 |.inr r=>match r with
 |.inl (t,u,v,w,x,y,z,A,B,_)=>some (.inl (t,u,v,w,x,y,z,A,(w64 (B+1)),()))
 |.inr _=>none
def jg[Lk]:(List U6×Int×List Bool×List U5×Bool×Int×Int×List U2×Unit)->Option (Ug):=fun(a,b,c,d,e,f,g,h,_)=>
 match A_ AAn many (a,b,c,d,e,f,g,h,0,())with|none=>none|some r=>match r with
 |.inl (i,j,k,l,m,n,o,p,q,_)=>some (i,j,k,l,m,n,o,p,q,())
 |.inr _=>none
def oA[Lk]:=lkk jg
theorem AAs v:oA v=jg v:=A0 _
abbrev API:A1:=[AA,AD,AE,(.tmp 3,.dat (.slice (.arr 2 U0)))]
abbrev APH:A1:=[Acn,(.tmp 1,.own 271 U1),AE]
abbrev Ea:List RS:=[.one,.one,.one]
abbrev Ac7:Loc×Con:=(.cell 0 2,.nil .bool)
abbrev Ac8:Loc×Con:=(.cell 1 2,.dat Uh)
abbrev Ac9:Loc×Con:=(.cell 1 1,.di)
abbrev AIi:A1:=[(.tmp 8,.box 7),(.cell 0 0,.nil Ua),Aca,Ac7,(.cell 0 3,.nil U7),Aco,Acq,Acs,(.tmp 13,.box 8),(.cell 1 0,.dat V1),Ac9,Ac8,(.cell 1 3,.dat Ud),(.cell 1 4,.dat .bool),(.cell 1 5,.di),(.cell 1 6,.di),(.cell 1 7,.own 271 U1),(.tmp 31,.dat (.slice (.arr 2 U0))),(.tmp 32,.di),(.tmp 33,.di)]
abbrev AIh:BF:=[(.exit 0,[(.tmp 8,.box 7),(.cell 0 0,.nil Ua),Aca,Ac7,(.cell 0 3,.nil U7),Aco,Acq,Acs,(.tmp 13,.box 8),(.cell 1 0,.dat V1),Ac9,Ac8,(.cell 1 3,.dat Ud),(.cell 1 4,.dat .bool),(.cell 1 5,.di),(.cell 1 6,.di),(.cell 1 7,.own 271 U1)]),(.ret,[(.tmp 8,.box 7),AcY,Aca,AcZ,Acp,Aco,Acq,Acs,(.tmp 9,.own 271 U1),AX])]
def AIg[Lk]:(Int×Bool×Int×Int×List U6×Int×List Bool×List U5×Bool×Int×Int×List U2×List U5×Int×Int×Unit)->Option ((Int×Bool×Int×Int×List U6×Int×List Bool×List U5×Bool×Int×Int×List U2×List U5×Int×Int×Unit)⊕(Int×Bool×Int×Int×List U6×Int×List Bool×List U5×Bool×Int×Int×List U2×Unit)⊕Ug⊕Unit):=fun(b,c,d,e,f,g,h,i,a,j,k,l,n,o,m,_)=>
 match(ilt m o)with
 |true=>match idx n m with|none=>none|some p=>match a with
  |true=>some (.inr (.inl (b,c,d,e,f,g,h,i,a,j,k,l,())))
  |false=>match ADg (f,g,h,i,a,j,k,l,(A7 p 0 0),(A7 p 1 0),())with|none=>none|some (q,r,s,t,u,v,w,x,y,_)=>match(!(ieq y 0))with
  |true=>some (.inr (.inr (.inl (q,r,s,t,u,v,w,x,y,()))))
  |false=>some (.inl (b,c,d,e,q,r,s,t,u,v,w,x,n,o,(w64 (m+1)),()))
 |false=>some (.inr (.inl (b,c,d,e,f,g,h,i,a,j,k,l,())))
def uZ[Lk]:(Int×Int×Int×List U5×Unit)->Option (((((List U6)×Int×(List Bool)×Unit)×(List U5)×Bool×Int×Int×Unit)×List U2×Int×Unit)):=fun(c,d,e,a,_)=>
 match W9 (c,d,e,())with|none=>none|some (f,g,h,i,j,k,l,b,_)=>match(!(ieq b 0))with
 |true=>some (((([]:List U6),(0,(([]:List (Bool)),()))),(([]:List U5),(false,(0,(0,()))))),([]:List U2),b,())
 |false=>match A_ AIg many (0,false,0,0,f,g,h,i,j,k,l,([]:List U2),a,(A3 a),0,())with|none=>none|some r=>match r with
 |.inl (N,O,P,Q,m,n,o,p,q,s,t,u,_)=>match oA (m,n,o,p,q,s,t,u,())with|none=>none|some (v,w,x,y,z,A,B,C,D,_)=>some (((v,(w,(x,()))),(y,(z,(A,(B,()))))),C,D,())
 |.inr r=>match r with
 |.inl (E,F,G,H,I,J,K,L,M,_)=>some (((E,(F,(G,()))),(H,(I,(J,(K,()))))),L,M,())
 |.inr _=>none
def AAl[Lk]:=lkk uZ
theorem AIj v:AAl v=uZ v:=A0 _
abbrev AIq:A1:=[Acn,(.tmp 1,.dat Ui)]
abbrev AIp:A1:=[(.tmp 0,.own 202 U3)]
abbrev AAy:A1:=[(.tmp 2,.box 7),AcY,Aca,AcZ,Acp,Aco,Acq,Acs,(.tmp 5,.own 202 U3),(.tmp 9,.dat Ui),AX,AY]
abbrev AAx:BF:=[(.exit 0,[(.tmp 5,.own 202 U3)])]
def AAw[Lk]:(List U6×Int×List Bool×List U5×Bool×Int×Int×List U4×List U2×Int×Int×Unit)->Option ((List U6×Int×List Bool×List U5×Bool×Int×Int×List U4×List U2×Int×Int×Unit)⊕Va⊕Unit):=fun(a,f,g,h,i,j,k,b,d,e,c,_)=>
 match(ilt c e)with
 |true=>match idx d c with|none=>none|some l=>match l.2.2.2.1 with
  |true=>some (.inl (a,f,g,h,i,j,k,b,d,e,(w64 (c+1)),()))
  |false=>match(ilt l.2.2.1 0)with
  |true=>some (.inl (a,f,g,h,i,j,k,b,d,e,(w64 (c+1)),()))
  |false=>match(ile (A3 a) l.2.2.1)with
  |true=>some (.inl (a,f,g,h,i,j,k,b,d,e,(w64 (c+1)),()))
  |false=>match idx a l.2.2.1 with|none=>none|some m=>match(fits ((A3 b)+(A3 ([(m.1,(m.2.1,()))]:List U4))))with
  |true=>some (.inl (a,f,g,h,i,j,k,(Bi b ([(m.1,(m.2.1,()))]:List U4)),d,e,(w64 (c+1)),()))
  |false=>none
 |false=>some (.inr (.inl (b,())))
def jh[Lk]:((((List U6)×Int×(List Bool)×Unit)×(List U5)×Bool×Int×Int×Unit)×List U2×Unit)->Option (Va):=fun(a,b,_)=>
 match A_ AAw many (a.1.1,a.1.2.1,a.1.2.2.1,a.2.1,a.2.2.1,a.2.2.2.1,a.2.2.2.2.1,([]:List U4),b,(A3 b),0,())with|none=>none|some r=>match r with
 |.inl (c,_)=>some (c,())
 |.inr _=>none
def oD[Lk]:=lkk jh
theorem AAz v:oD v=jh v:=A0 _
abbrev AOn:A1:=[(.tmp 0,.dat Uk)]
def cW[Lk]:(Ut×Unit)->Option (Uc):=fun(a,_)=>
 match(ile 1 a.1)with
 |true=>match(ile a.1 100)with
  |true=>match(ile 1 a.2.1)with
   |true=>match(ile a.2.1 8)with
    |true=>some ((ile (A3 a.2.2.1) 4000),())
    |false=>some (false,())
   |false=>some (false,())
  |false=>some (false,())
 |false=>some (false,())
def nj[Lk]:=lkk cW
theorem jX v:nj v=cW v:=A0 _
abbrev AOp:A1:=[AA,(.tmp 1,.dat Uk)]
abbrev Fj:A1:=[AR,AD,AE]
abbrev AdA:Loc×Con:=(.tmp 44,.own 202 U3)
abbrev AdB:Loc×Con:=(.tmp 8,.own 271 U1)
abbrev AdC:Loc×Con:=(.tmp 10,.own 3 U0)
abbrev AdD:Loc×Con:=(.cell 2 1,.di)
abbrev AdE:Loc×Con:=(.cell 2 0,.di)
abbrev AIQ:A1:=[AdB,AdC,(.tmp 12,.box 2),AdE,AdD,AdA,AcV,Acw,(.tmp 54,.di),(.tmp 55,.di)]
abbrev AIO:BF:=[(.exit 2,[AdB,AdC,AdA,AcV,Acw])]
def AIM[Lk]:(List U2×List Int×Int×Int×List U4×Int×Int×Int×Int×Unit)->Option ((List U2×List Int×Int×Int×List U4×Int×Int×Int×Int×Unit)⊕(List U2×List Int×List U4×Int×Int×Unit)⊕Unit):=fun(d,b,c,i,e,f,g,h,a,_)=>
 match(ilt a h)with
 |true=>match(fits ((A3 b)+(A3 ([(w64 (c+a))]:List (Int)))))with
  |true=>some (.inl (d,(Bi b ([(w64 (c+a))]:List (Int))),c,i,e,f,g,h,(w64 (a+1)),()))
  |false=>none
 |false=>some (.inr (.inl (d,b,e,f,g,())))
abbrev AIR:A1:=[AdB,AdC,AdA,AcV,Acw]
abbrev AIP:BF:=[(.exit 0,[AdB,AdC])]
def AIN[Lk]:(List U2×List Int×List U4×Int×Int×Unit)->Option ((List U2×List Int×List U4×Int×Int×Unit)⊕(List U2×List Int×Unit)⊕Unit):=fun(c,d,b,e,a,_)=>
 match(ilt a e)with
 |true=>match idx b a with|none=>none|some k=>match A_ AIM many (c,d,(A7 b (A2 a) (0,(0,()))).1,(A7 b (A2 a) (0,(0,()))).2.1,b,e,a,(w64 ((A7 b (A2 a) (0,(0,()))).2.1-(A7 b (A2 a) (0,(0,()))).1)),0,())with|none=>none|some r=>match r with
  |.inl (f,g,h,i,j,_)=>some (.inl (f,g,h,i,(w64 (j+1)),()))
  |.inr _=>none
 |false=>some (.inr (.inl (c,d,())))
def Tk[Lk]:(Int×Ut×Unit)->Option (Uq):=fun(c,b,_)=>
 match(ilt c 0)with
 |true=>some (([]:List (Int)),0,1,())
 |false=>match(ilt 1000 c)with
 |true=>some (([]:List (Int)),0,1,())
 |false=>match nj ((b.1,(b.2.1,(b.2.2.1,()))),())with|none=>none|some (g,_)=>match(!g)with
 |true=>some (([]:List (Int)),0,1,())
 |false=>match(ieq c 0)with
 |true=>some (([]:List (Int)),0,0,())
 |false=>match AAl (c,b.1,b.2.1,b.2.2.1,())with|none=>none|some (a,d,e,_)=>match(!(ieq e 0))with
 |true=>some (([]:List (Int)),0,e,())
 |false=>match oD (((a.1.1,(a.1.2.1,(a.1.2.2.1,()))),(a.2.1,(a.2.2.1,(a.2.2.2.1,(a.2.2.2.2.1,()))))),d,())with|none=>none|some (f,_)=>match A_ AIN many (d,([]:List (Int)),f,(A3 f),0,())with|none=>none|some r=>match r with
 |.inl (h,i,_)=>some (i,(A3 h),0,())
 |.inr _=>none
def DH[Lk]:=lkk Tk
theorem Wp v:DH v=Tk v:=A0 _
def aF[Lk]:Ub->Option (Uc):=fun(a,_)=>
 match(ile 1 a)with
 |true=>some ((ile a 100),())
 |false=>some (false,())
def aG[Lk]:=lkk aF
theorem iD v:aG v=aF v:=A0 _
def Vq[Lk]:U4->Option (Ub):=fun(a,b,_)=>
 match(ilt a 0)with
 |true=>some (0,())
 |false=>match(ilt 1000 a)with
 |true=>some (0,())
 |false=>match aG (b,())with|none=>none|some (c,_)=>match(!c)with
 |true=>some (0,())
 |false=>match quo? .i64 (w64 ((w64 (a+b))-1)) b with|none=>none|some d=>some (d,())
def Yz[Lk]:=lkk Vq
theorem aM v:Yz v=Vq v:=A0 _
abbrev ARJ:A1:=[AcR,AD,AE]
def lT[Lk]:Uq->Option (Uf):=fun(a,b,c,_)=>
 match Ci a (w64 (b*c)) (Cl (A3 a) (w64 ((w64 (b+1))*c)))with|none=>none|some d=>some (d,())
def qX[Lk]:=lkk lT
theorem qW v:qX v=lT v:=A0 _
abbrev ALb:A1:=[AcR,(.tmp 1,.clo 287 [])]
abbrev AdF:Loc×Con:=(.tmp 0,.own 35 U8)
abbrev AdG:Loc×Con:=(.tmp 1,.dat U8)
abbrev ALa:A1:=[AdF,AdG]
abbrev AdH:Loc×Con:=(.tmp 6,.own 35 U8)
abbrev AdI:Loc×Con:=(.tmp 15,.di)
abbrev AFQ:A1:=[(.tmp 1,.clo 287 []),AdH,(.tmp 7,.dat U8),(.tmp 13,.dat Uj),Ac6,AdI]
abbrev AFP:BF:=[(.exit 0,[AdH,(.tmp 7,.dat U8)])]
def Lz[Lk]:(List Int×Int×List Int×Int×Int×Unit)->Option ((List Int×Int×List Int×Int×Int×Unit)⊕Ul⊕Unit):=fun(b,c,d,e,a,_)=>
 match(ilt a e)with
 |true=>match idx d a with|none=>none|some f=>match idx b a with|none=>none|some g=>some (.inl ((Bb b (A2 a) c),(IntKind.wrap .u32 (c+f)),d,e,(w64 (a+1)),()))
 |false=>some (.inr (.inl (b,c,())))
def aQ[Lk]:Uf->Option (Ul):=fun(a,_)=>
 match(B4 (A3 a)&&B4 (A3 a)&&ile (A3 a) (A3 a)&&true)with
 |true=>match A_ Lz many ((C2 (A2 (A3 a)) (0:Int)),(0:Int),a,(A3 a),(0:Int),())with|none=>none|some r=>match r with
  |.inl (b,c,_)=>some (b,c,())
  |.inr _=>none
 |false=>none
def Vs[Lk]:=lkk aQ
theorem iL v:Vs v=aQ v:=A0 _
abbrev AdJ:Loc×Con:=(.tmp 3,.clo 287 [])
abbrev AE0:A1:=[AcR,AD,(.tmp 2,.dat Uk),AdJ]
abbrev iE:A1:=[AdF,AdG,AE,AQ]
abbrev AdK:Loc×Con:=(.tmp 17,.own 35 U8)
abbrev AdL:Loc×Con:=(.tmp 76,.own 3 U0)
abbrev AdM:Loc×Con:=(.tmp 8,.own 35 U8)
abbrev AdN:Loc×Con:=(.tmp 9,.dat U8)
abbrev AdO:Loc×Con:=(.tmp 78,.di)
abbrev AdP:Loc×Con:=(.tmp 19,.di)
abbrev xM:A1:=[AcR,AD,AdJ,AdM,AdN,AX,AdK,AdP,AdL,(.tmp 77,.di),AdO,(.tmp 91,.own 35 U8),(.tmp 92,.di),(.tmp 93,.di)]
abbrev xJ:BF:=[(.exit 4,[AcR,AD,AdJ,AdM,AdN,AX,AdK,AdL,(.tmp 77,.di),AdO])]
def J5[Lk]:(List Int×Int×List Int×Int×Int×List Int×Int×List Int×Int×Int×List Int×Int×Int×Unit)->Option ((List Int×Int×List Int×Int×Int×List Int×Int×List Int×Int×Int×List Int×Int×Int×Unit)⊕Vh⊕Unit):=fun(g,c,e,h,i,d,b,j,k,l,f,m,a,_)=>
 match(ilt a m)with
 |true=>match idx f a with|none=>none|some n=>match idx d b with|none=>none|some o=>match idx e (w64 ((w64 (b*c))+a))with|none=>none|some p=>some (.inl (g,c,(Bb e (A2 (w64 ((w64 (b*c))+a))) (IntKind.wrap .u32 ((A7 d (A2 b) 0)+(A7 f (A2 a) 0)))),h,i,d,b,j,k,l,f,m,(w64 (a+1)),()))
 |false=>some (.inr (.inl (g,c,e,h,i,d,j,k,l,())))
abbrev xN:A1:=[AcR,AD,AdJ,AdM,AdN,AX,AdK,AdL,(.tmp 77,.di),AdO]
abbrev xK:BF:=[(.exit 2,[AdM,AdN,AX])]
def J6[Lk]:Vh->Option (Vh⊕Uq⊕Unit):=fun(c,d,e,f,g,j,b,h,a,_)=>
 match(ilt a h)with
 |true=>match idx b a with|none=>none|some v=>match qX (c,(A7 b (A2 a) 0),d,())with|none=>none|some (k,_)=>match Vs (k,())with|none=>none|some (i,w,_)=>match A_ J5 many (c,d,e,f,g,j,(A7 b (A2 a) 0),b,h,a,i,(A3 i),0,())with|none=>none|some r=>match r with
  |.inl (l,m,n,o,p,q,s,t,u,_)=>some (.inl (l,m,n,o,p,q,s,t,(w64 (u+1)),()))
  |.inr _=>none
 |false=>some (.inr (.inl (e,f,g,())))
abbrev xO:A1:=[AcR,AD,AdJ,AX,AcT,(.tmp 14,.own 35 U8),(.tmp 48,.own' 0),(.tmp 49,.di),(.tmp 50,.di)]
abbrev xL:BF:=[(.exit 0,[AcR,AD,AdJ,AX,AcT,(.tmp 14,.own 35 U8)])]
def J7[Lk]:(List Int×Int×Int×List Int×List Int×Int×Int×Unit)->Option ((List Int×Int×Int×List Int×List Int×Int×Int×Unit)⊕(List Int×Int×Int×List Int×List Int×Unit)⊕Unit):=fun(c,d,f,a,e,g,b,_)=>
 match(ilt b g)with
 |true=>match idx a b with|none=>none|some j=>match qX (c,(A7 a (A2 b) 0),d,())with|none=>none|some (h,_)=>match Vs (h,())with|none=>none|some (k,i,_)=>match idx e (A7 a (A2 b) 0)with|none=>none|some l=>some (.inl (c,d,f,a,(Bb e (A2 (A7 a (A2 b) 0)) i),g,(w64 (b+1)),()))
 |false=>some (.inr (.inl (c,d,f,a,e,())))
def Ps[Lk]:(List Int×Int×Ut×Unit)->Option (Vd):=fun(c,d,e,_)=>
 match aG (d,())with|none=>none|some (i,_)=>match(!i)with
 |true=>some (([]:List (Int)),0,0,1,())
 |false=>match(ilt 1000 (A3 c))with
 |true=>some (([]:List (Int)),0,0,1,())
 |false=>match Yz ((A3 c),d,())with|none=>none|some (a,_)=>match DH (a,(e.1,(e.2.1,(e.2.2.1,()))),())with|none=>none|some (f,j,g,_)=>match(!(ieq g 0))with
 |true=>some (([]:List (Int)),0,0,g,())
 |false=>match(B4 a&&B4 a&&ile a a&&true)with
 |true=>match A_ J7 many (c,d,j,f,(C2 (A2 a) (0:Int)),(A3 f),(0:Int),())with|none=>none|some r=>match r with
  |.inl (b,k,l,h,m,_)=>match Vs (m,())with|none=>none|some (n,o,_)=>match(B4 (A3 b)&&B4 (A3 b)&&ile (A3 b) (A3 b)&&true)with
   |true=>match A_ J6 many (b,k,(C2 (A2 (A3 b)) (0:Int)),o,l,n,h,(A3 h),(0:Int),())with|none=>none|some r=>match r with
    |.inl (p,q,s,_)=>some (p,q,(w64 (2*s)),0,())
    |.inr _=>none
   |false=>none
  |.inr _=>none
 |false=>none
def Sj[Lk]:=lkk Ps
theorem RI v:Sj v=Ps v:=A0 _
abbrev ACB:A1:=[AcR,AD,(.tmp 2,.dat Uk)]
def Yt[Lk]:(List Int×Int×Ut×Unit)->Option (Vd):=fun(b,c,a,_)=>
 match Sj (b,c,(a.1,(a.2.1,(a.2.2.1,()))),())with|none=>none|some (d,e,f,g,_)=>some (d,e,f,g,())
def iC[Lk]:=lkk Yt
theorem aE v:iC v=Yt v:=A0 _
abbrev AdQ:Loc×Con:=(.tmp 0,.dat Uh)
abbrev AMG:A1:=[AdQ,Ar]
abbrev L5:A1:=[AdF]
abbrev AFl:A1:=[Ar,(.tmp 5,.own 35 U8),(.tmp 11,.dat Uh),AK,AL]
abbrev AFk:BF:=[(.exit 0,[(.tmp 5,.own 35 U8)])]
def L4[Lk]:(Bool×List Int×List Bool×Int×Int×Unit)->Option ((Bool×List Int×List Bool×Int×Int×Unit)⊕Uf⊕Unit):=fun(c,b,d,e,a,_)=>
 match(ilt a e)with
 |true=>match idx d a with|none=>none|some f=>match(!(f==c))with
  |true=>match idx b a with|none=>none|some g=>some (.inl (c,(Bb b (A2 a) 1),d,e,(w64 (a+1)),()))
  |false=>some (.inl (c,b,d,e,(w64 (a+1)),()))
 |false=>some (.inr (.inl (b,())))
def aw[Lk]:(List Bool×Bool×Unit)->Option (Uf):=fun(a,b,_)=>
 match(B4 (A3 a)&&B4 (A3 a)&&ile (A3 a) (A3 a)&&true)with
 |true=>match A_ L4 many (b,(C2 (A2 (A3 a)) (0:Int)),a,(A3 a),(0:Int),())with|none=>none|some r=>match r with
  |.inl (c,_)=>some (c,())
  |.inr _=>none
 |false=>none
def mJ[Lk]:=lkk aw
theorem iZ v:mJ v=aw v:=A0 _
abbrev xv:A1:=[AcR,(.tmp 9,.own 35 U8),AY,Ac6,(.tmp 15,.own 3 U0),(.tmp 43,.own 3 U0),(.tmp 44,.di),AcV]
abbrev xu:BF:=[(.exit 0,[AY,Ac6,(.tmp 15,.own 3 U0)])]
def KD[Lk]:V3->Option (V3⊕(Int×Int×List Int×Unit)⊕Unit):=fun(e,c,f,g,d,b,h,a,_)=>
 match(ilt a h)with
 |true=>match idx b a with|none=>none|some j=>match idx e (A7 b (A2 a) 0)with|none=>none|some i=>match(ieq i 1)with
  |true=>match idx c (A7 b (A2 a) 0)with|none=>none|some k=>match idx d (A7 c (A2 (A7 b (A2 a) 0)) 0)with|none=>none|some l=>some (.inl (e,c,f,g,(Bb d (A2 (A7 c (A2 (A7 b (A2 a) 0)) 0)) (A7 b (A2 a) 0)),b,h,(w64 (a+1)),()))
  |false=>some (.inl (e,c,f,g,d,b,h,(w64 (a+1)),()))
 |false=>some (.inr (.inl (f,g,d,())))
def Vy[Lk]:(List Int×Int×Ut×Unit)->Option (Uq):=fun(c,g,a,_)=>
 match iC (c,g,(a.1,(a.2.1,(a.2.2.1,()))),())with|none=>none|some (h,b,i,d,_)=>match(!(ieq d 0))with
 |true=>some (([]:List (Int)),0,d,())
 |false=>match DH ((A3 c),(a.1,(a.2.1,(a.2.2.1,()))),())with|none=>none|some (e,j,f,_)=>match(!(ieq f 0))with
 |true=>some (([]:List (Int)),0,f,())
 |false=>match(B4 b&&B4 b&&ile b b&&true)with
 |true=>match A_ KD many (c,h,i,j,(C2 (A2 b) (0:Int)),e,(A3 e),(0:Int),())with|none=>none|some r=>match r with
  |.inl (k,l,m,_)=>some (m,(w64 (k+l)),0,())
  |.inr _=>none
 |false=>none
def Y4[Lk]:=lkk Vy
theorem av v:Y4 v=Vy v:=A0 _
abbrev AL1:A1:=[AdQ,AD,(.tmp 2,.dat Uk)]
def aq[Lk]:(List Bool×Int×Ut×Unit)->Option (Uq):=fun(b,c,a,_)=>
 match mJ (b,false,())with|none=>none|some (d,_)=>match Y4 (d,c,(a.1,(a.2.1,(a.2.2.1,()))),())with|none=>none|some (e,f,g,_)=>some (e,f,g,())
def mF[Lk]:=lkk aq
theorem iV v:mF v=aq v:=A0 _
abbrev ARn:A1:=[AcR,AD,AE,(.tmp 3,.dat Uk)]
abbrev AdR:Loc×Con:=(.tmp 16,.own 3 U0)
abbrev ALi:A1:=[AcR,AD,AY,Ac6,AdR,AcV,Acw]
abbrev ALg:BF:=[(.exit 2,[AY,Ac6,AdR])]
def OP[Lk]:Vc->Option (Vc⊕(Int×Int×List Int×Unit)⊕Unit):=fun(b,c,d,e,f,g,a,_)=>
 match(ilt a g)with
 |true=>match rby (b,f,a,c,())with|none=>none|some (h,_)=>some (.inl (b,c,d,e,h,g,(w64 (a+1)),()))
 |false=>some (.inr (.inl (d,e,f,())))
abbrev ALj:A1:=[AcR,AD,AY,Ac6,AdR,(.tmp 36,.di),(.tmp 37,.di)]
abbrev ALh:BF:=[(.exit 0,[AcR,AD,AY,Ac6,AdR])]
def OQ[Lk]:Vc->Option (Vc⊕(List Int×Int×Int×Int×List Int×Unit)⊕Unit):=fun(c,d,e,f,b,g,a,_)=>
 match(ilt a g)with
 |true=>match(fits ((A3 b)+(A3 ([a]:List (Int)))))with
  |true=>some (.inl (c,d,e,f,(Bi b ([a]:List (Int))),g,(w64 (a+1)),()))
  |false=>none
 |false=>some (.inr (.inl (c,d,e,f,b,())))
def Y0[Lk]:(List Int×Int×Int×Ut×Unit)->Option (Uq):=fun(a,c,g,b,_)=>
 match Px (c,())with|none=>none|some (d,_)=>match(ieq d 0)with
 |true=>some (([]:List (Int)),0,1,())
 |false=>match iC (a,g,(b.1,(b.2.1,(b.2.2.1,()))),())with|none=>none|some (p,q,h,e,_)=>match(!(ieq e 0))with
 |true=>some (([]:List (Int)),0,e,())
 |false=>match A_ OQ many (a,c,d,h,([]:List (Int)),(A3 a),0,())with|none=>none|some r=>match r with
 |.inl (i,j,f,k,l,_)=>match A_ OP many (i,j,f,k,l,f,0,())with|none=>none|some r=>match r with
  |.inl (m,n,o,_)=>some (o,(w64 (n*m)),0,())
  |.inr _=>none
 |.inr _=>none
def iO[Lk]:=lkk Y0
theorem aV v:iO v=Y0 v:=A0 _
abbrev AFS:A1:=[AcR,Ad]
abbrev AFR:A1:=[AdF,Ar]
abbrev xa:A1:=[AcR,AdH,(.tmp 14,.dat U7),AdI,(.tmp 16,.di)]
abbrev xZ:BF:=[(.exit 0,[AdH])]
def J'[Lk]:Vj->Option (Vj⊕Uf⊕Unit):=fun(c,a,d,e,b,_)=>
 match(ilt b e)with
 |true=>match idx d b with|none=>none|some g=>match idx c g with|none=>none|some f=>match(fits ((A3 a)+(A3 ([f]:List (Int)))))with
  |true=>some (.inl (c,(Bi a ([f]:List (Int))),d,e,(w64 (b+1)),()))
  |false=>none
 |false=>some (.inr (.inl (a,())))
def Vt[Lk]:V2->Option ((List Int×Bool×Unit)):=fun(b,a,_)=>
 match ACI (a,(A3 b),())with|none=>none|some (c,_)=>match(!c)with
 |true=>some (([]:List (Int)),false,())
 |false=>match A_ J' many (b,([]:List (Int)),a,(A3 a),0,())with|none=>none|some r=>match r with
 |.inl (d,_)=>some (d,true,())
 |.inr _=>none
def Sq[Lk]:=lkk Vt
theorem aU v:Sq v=Vt v:=A0 _
abbrev AdS:Loc×Con:=(.tmp 1,.dat (.prod U0 (.prod U0 (.prod Uk .unit))))
abbrev ji:A1:=[AcR,AdS]
abbrev AIs:A1:=[AdF,(.tmp 1,.own 3 U0),AE,AQ]
abbrev AdT:Loc×Con:=(.tmp 57,.di)
abbrev AA4:A1:=[Aa,(.tmp 11,.own 35 U8),AcT,Ac6,(.tmp 15,.own 35 U8),AdR,(.tmp 55,.own' 1),(.tmp 56,.di),AdT]
abbrev AA3:BF:=[(.exit 0,[Aa,Ac6,(.tmp 15,.own 35 U8),AdR])]
def KY[Lk]:(Int×List Int×List Int×Int×List Int×List Int×Int×Int×Unit)->Option ((Int×List Int×List Int×Int×List Int×List Int×Int×Int×Unit)⊕(Int×Int×List Int×List Int×Unit)⊕Unit):=fun(f,c,b,g,d,e,h,a,_)=>
 match(ilt a h)with
 |true=>match idx b a with|none=>none|some i=>match(ilt (w64 (a+1)) (A3 b))with
  |true=>match idx b (w64 (a+1))with|none=>none|some j=>match idx c (A7 b (A2 a) 0)with|none=>none|some k=>match(fits ((A3 d)+(A3 ([(A7 c (A2 (A7 b (A2 a) 0)) 0)]:List (Int)))))with
   |true=>match(fits ((A3 e)+(A3 ([(w64 ((A7 b (A2 (w64 (a+1))) 0)-(A7 b (A2 a) 0)))]:List (Int)))))with
    |true=>some (.inl (f,c,b,g,(Bi d ([(A7 c (A2 (A7 b (A2 a) 0)) 0)]:List (Int))),(Bi e ([(w64 ((A7 b (A2 (w64 (a+1))) 0)-(A7 b (A2 a) 0)))]:List (Int))),h,(w64 (a+1)),()))
    |false=>none
   |false=>none
  |false=>match idx c (A7 b (A2 a) 0)with|none=>none|some l=>match(fits ((A3 d)+(A3 ([(A7 c (A2 (A7 b (A2 a) 0)) 0)]:List (Int)))))with
  |true=>match(fits ((A3 e)+(A3 ([(w64 ((A3 c)-(A7 b (A2 a) 0)))]:List (Int)))))with
   |true=>some (.inl (f,c,b,g,(Bi d ([(A7 c (A2 (A7 b (A2 a) 0)) 0)]:List (Int))),(Bi e ([(w64 ((A3 c)-(A7 b (A2 a) 0)))]:List (Int))),h,(w64 (a+1)),()))
   |false=>none
  |false=>none
 |false=>some (.inr (.inl (f,g,d,e,())))
def QL[Lk]:(List Int×(Int×Int×Ut×Unit)×Unit)->Option (Un):=fun(b,a,_)=>
 match iO (b,a.1,a.2.1,(a.2.2.1.1,(a.2.2.1.2.1,(a.2.2.1.2.2.1,()))),())with|none=>none|some (g,h,c,_)=>match(!(ieq c 0))with
 |true=>some (([]:List (Int)),([]:List (Int)),0,c,())
 |false=>match Sq (b,g,())with|none=>none|some (d,o,_)=>match ZS (d,())with|none=>none|some (i,_)=>match mF (i,a.2.1,(a.2.2.1.1,(a.2.2.1.2.1,(a.2.2.1.2.2.1,()))),())with|none=>none|some (e,j,f,_)=>match(!(ieq f 0))with
 |true=>some (([]:List (Int)),([]:List (Int)),0,f,())
 |false=>match A_ KY many (h,d,e,j,([]:List (Int)),([]:List (Int)),(A3 e),0,())with|none=>none|some r=>match r with
 |.inl (k,l,m,n,_)=>some (m,n,(w64 (k+l)),0,())
 |.inr _=>none
def Tx[Lk]:=lkk QL
theorem R4 v:Tx v=QL v:=A0 _
abbrev NZ:A1:=[AdF,AD,AE]
def ZR[Lk]:(List Int×(Int×Int×Ut×Unit)×Unit)->Option (Uq):=fun(b,a,_)=>
 match Tx (b,(a.1,(a.2.1,((a.2.2.1.1,(a.2.2.1.2.1,(a.2.2.1.2.2.1,()))),()))),())with|none=>none|some (c,f,d,e,_)=>some (c,d,e,())
def ct[Lk]:=lkk ZR
theorem cr v:ct v=ZR v:=A0 _
abbrev APX:A1:=[Aw,AdS]
abbrev APW:A1:=[Az,AD,AE]
abbrev AI0:A1:=[AL,Ac6,(.tmp 15,.own 39 U3),(.tmp 48,.own 35 U8),(.tmp 49,.di),(.tmp 50,.di)]
abbrev AIy:BF:=[(.exit 2,[AL,Ac6,(.tmp 15,.own 39 U3)])]
def Hf[Lk]:(Int×Int×List U4×List Int×Int×Int×Unit)->Option ((Int×Int×List U4×List Int×Int×Int×Unit)⊕(Int×Int×List U4×Unit)⊕Unit):=fun(d,e,b,c,f,a,_)=>
 match(ilt a f)with
 |true=>match idx c a with|none=>none|some h=>match ADl ((A7 c (A2 a) 0),())with|none=>none|some (g,_)=>match(fits ((A3 b)+(A3 ([g]:List U4))))with
  |true=>some (.inl (d,e,(Bi b ([g]:List U4)),c,f,(w64 (a+1)),()))
  |false=>none
 |false=>some (.inr (.inl (d,e,b,())))
abbrev AdU:Loc×Con:=(.cell 0 4,.dat (.slice (.arr 2 U0)))
abbrev AdV:Loc×Con:=(.tmp 7,.own 35 U8)
abbrev AdW:Loc×Con:=(.cell 0 3,.di)
abbrev AdX:Loc×Con:=(.cell 0 2,.di)
abbrev AI1:A1:=[(.tmp 3,.box 5),AG,Aca,AdX,AdW,AdU,AdV,(.tmp 18,.dat Uy),AdP,(.tmp 20,.di)]
abbrev AIz:BF:=[(.ret,[(.tmp 4,.nil U3),Acf,AcC]),(.exit 0,[(.tmp 3,.box 5),AG,Aca,AdX,AdW,AdU,AdV])]
def Mb[Lk]:(Int×Int×Int×Int×List U5×List Int×List U4×Int×Int×Unit)->Option ((Int×Int×Int×Int×List U5×List Int×List U4×Int×Int×Unit)⊕U4⊕(Int×Int×Int×Int×List U5×List Int×Unit)⊕Unit):=fun(d,e,f,g,h,a,i,j,b,_)=>
 match(ilt b j)with
 |true=>match idx i b with|none=>none|some c=>match AA2 ((c.1,(c.2.1,())),())with|none=>none|some (k,l,_)=>match(!l)with
  |true=>some (.inr (.inl (0,10,())))
  |false=>match(!(ieq c.1 c.2.1))with
  |true=>match(fits ((A3 a)+(A3 ([k]:List (Int)))))with
   |true=>some (.inl (d,e,f,g,h,(Bi a ([k]:List (Int))),i,j,(w64 (b+1)),()))
   |false=>none
  |false=>some (.inl (d,e,f,g,h,a,i,j,(w64 (b+1)),()))
 |false=>some (.inr (.inr (.inl (d,e,f,g,h,a,()))))
def Tz[Lk]:(List U4×(Int×Int×Ut×Unit)×Unit)->Option ((List U4×Int×Int×Unit)):=fun(b,a,_)=>
 match A_ Mb many (a.1,a.2.1,a.2.2.1.1,a.2.2.1.2.1,a.2.2.1.2.2.1,([]:List (Int)),b,(A3 b),0,())with|none=>none|some r=>match r with
 |.inl (d,e,_)=>some (([]:List U4),d,e,())
 |.inr r=>match r with
 |.inl (f,g,h,i,j,k,_)=>match ct (k,(f,(g,((h,(i,(j,()))),()))),())with|none=>none|some (c,l,m,_)=>match A_ Hf many (l,m,([]:List U4),c,(A3 c),0,())with|none=>none|some r=>match r with
  |.inl (n,o,p,_)=>some (p,n,o,())
  |.inr _=>none
 |.inr _=>none
def PC[Lk]:=lkk Tz
theorem W0 v:PC v=Tz v:=A0 _
abbrev TZ:A1:=[AM,(.cap 1 0,.box 2),AG,AcD,(.tmp 1,.clo 104 [(0,0)])]
abbrev nQ:A1:=[Av,AG,AcD,AA]
abbrev ee:A1:=[Av,AG,AcD,AM,(.tmp 1,.clo 104 [(0,0)]),AO,AN]
abbrev ec:BF:=[(.ret,[Av,AG,AcD,AP]),(.exit 0,[Av,AG,AcD])]
def Fe[Lk]:(Int×List U2×List Int×Int×Int×Unit)->Option ((Int×List U2×List Int×Int×Int×Unit)⊕(Int×List U2×Int×Unit)⊕(Int×List U2×Unit)⊕Unit):=fun(a,c,d,e,b,_)=>
 match(ilt b e)with
 |true=>match idx d b with|none=>none|some f=>match(ile a f)with
  |true=>some (.inr (.inl (a,c,b,())))
  |false=>some (.inl (a,c,d,e,(w64 (b+1)),()))
 |false=>some (.inr (.inr (.inl (a,c,()))))
def NN[Lk]:(List Int×Int×List U2×Unit)->Option ((Int×List U2×Int×Unit)):=fun(a,b,c,_)=>
 match A_ Fe many (b,c,a,(A3 a),0,())with|none=>none|some r=>match r with
 |.inl (d,e,f,_)=>some (d,e,f,())
 |.inr r=>match r with
 |.inl (g,h,_)=>some (g,h,(-1:Int),())
 |.inr _=>none
def Rq[Lk]:=lkk NN
theorem Qv v:Rq v=NN v:=A0 _
def mz[Lk]:U4->Option (Uc):=fun(a,b,_)=>
 match AGr (a,())with|none=>none|some (c,_)=>match c with
 |true=>match AGr (b,())with|none=>none|some (d,_)=>match(!d)with
  |true=>some (true,())
  |false=>some ((ilt a b),())
 |false=>some ((ilt a b),())
def DC[Lk]:=lkk mz
theorem tW v:DC v=mz v:=A0 _
abbrev AdY:Loc×Con:=(.obj 0,.own 3 U0)
abbrev KO:A1:=[AdY]
abbrev ATT:A1:=[AdY,Ai,AD,AE,AcC,AO]
abbrev ATS:BF:=[(.exit 2,[AdY,Ai,AD,AE,AcC])]
abbrev ATU:A1:=[AdY,Ai,AD,AE,AcC]
abbrev nK:BF:=[(.exit 0,[AdY])]
def AWi[Lk]:=Ox (0:Int) DC tId
def AYR[Lk]:=tn (0:Int) DC tId
theorem ATV v:AYR v=AWi v:=A0 _
abbrev Kx:A1:=[AR,AD,AE,AQ]
abbrev ALM:A1:=[AdY,Ai,AE,AQ,AN]
abbrev ALL:BF:=[(.exit 0,[AdY]),(.ret,[AdY])]
def ARi[Lk]:=Ky (0:Int) DC tId
def AU0[Lk]:=Sm (0:Int) DC tId
theorem ALN v:AU0 v=ARi v:=A0 _
abbrev AOT:A1:=[AdY,Ai,AcC,AO,AX]
abbrev AOR:BF:=[(.exit 2,[AdY])]
abbrev AOU:A1:=[AdY,Ai,AcC,AO,AN,Aa]
abbrev AOS:BF:=[(.exit 0,[AdY,Ai,AcC,AO,AN])]
def ATk[Lk]:=LC (0:Int) DC tId
def AVE[Lk]:=Xq (0:Int) DC tId
theorem AOV v:AVE v=ATk v:=A0 _
abbrev AJl:A1:=[AdY,Ai,AD,AcC,(.tmp 7,.box 1),Ak,(.tmp 8,.dat (.int .u64)),Aa]
def AQB[Lk]:=Ih (0:Int) DC tId
def AQD[Lk]:=PO (0:Int) DC tId
theorem AJm v:AQD v=AQB v:=A0 _
abbrev AGe:A1:=[AR,AD,AE,Am,AJ]
abbrev AGd:A1:=[AdY,An,AJ,AA,AD]
def AGf[Lk]:=GM (0:Int) DC tId
def ACo[Lk]:=Hs (0:Int) DC tId
theorem zO v:ACo v=AGf v:=A0 _
abbrev AG4:A1:=[AR,AD,AE,AQ,Ao,AJ]
abbrev jB:A1:=[AdY,An,AJ,AA]
def AG5[Lk]:=GP (0:Int) DC tId
def AC5[Lk]:=Hv (0:Int) DC tId
theorem zh v:AC5 v=AG5 v:=A0 _
abbrev AHJ:A1:=[AR,AD,Ap,AJ]
def AHK[Lk]:=GQ (0:Int) DC tId
def ADA[Lk]:=Hw (0:Int) DC tId
theorem zn v:ADA v=AHK v:=A0 _
abbrev AMV:A1:=[AdY,AA,AD]
def AMW[Lk]:=IP (0:Int) DC tId
def AMY[Lk]:=OX (0:Int) DC tId
theorem AFt v:AMY v=AMW v:=A0 _
abbrev ARy:A1:=[AdY,Ai,AcC,AO]
def AVq[Lk]:=OT (0:Int) DC tId
def AX6[Lk]:=rJ (0:Int) DC tId
theorem ARz v:AX6 v=AVq v:=A0 _
abbrev yi:A1:=[AdY,AB]
abbrev sb:A1:=[AdY,Ai,AD,AE,AO,AN,AX]
abbrev sW:BF:=[(.exit 6,[AdY,Ai,AD,AE,AO,AN])]
abbrev sc:A1:=[AdY,Ai,AD,AE,AO,AN,Aa]
abbrev sX:BF:=[(.exit 4,[AdY,Ai,AD,AE,AO,AN])]
abbrev Xb:A1:=[AdY,Ai,AD,AE,AO,AN]
abbrev sY:BF:=[(.exit 2,[AdY,Ai,AD,AE,AO,AN])]
abbrev AdZ:Loc×Con:=(.tmp 6,.dat .bool)
abbrev sZ:BF:=[(.ret,[AdY,AdZ]),(.exit 0,[AdY])]
def yj[Lk]:=Ex (0:Int) DC tId
def se[Lk]:=IT (0:Int) DC tId
theorem sd v:se v=yj v:=A0 _
abbrev AGK:A1:=[AdY,AA]
abbrev RX:A1:=[AdY,Ai,AD,Aa,AX]
abbrev zC:BF:=[(.exit 4,[AdY,Ai,AD,Aa,AX])]
abbrev zD:BF:=[(.exit 2,[AdY,Ai,AD,Aa,AX])]
abbrev zE:BF:=[(.exit 0,[AdY,Aa])]
def AGL[Lk]:=GH (0:Int) DC tId
def ACj[Lk]:=K4 (0:Int) DC tId
theorem zF v:ACj v=AGL v:=A0 _
abbrev ASk:A1:=[AdY,AA,Ar]
abbrev Oe:A1:=[AdY,Ai,AD,AX,AY]
abbrev AM7:BF:=[(.exit 8,[AdY,Ai,AD,AX,AY])]
abbrev AM8:BF:=[(.exit 6,[AdY,Ai,AD,AX,AY])]
abbrev AM9:BF:=[(.exit 4,[AdY,Ai,AD,AY])]
abbrev ANA:BF:=[(.exit 2,[AdY,Ai,AD,AX,AY])]
abbrev ANB:BF:=[(.exit 0,[AdY,Ai,AD,AX,AY])]
def ASl[Lk]:=K3 (0:Int) DC tId
def AU8[Lk]:=Qr (0:Int) DC tId
theorem ANC v:AU8 v=ASl v:=A0 _
abbrev ACc:A1:=[AdY,Ai,AD,AE,AQ,Aq,(.tmp 9,.dat .bool)]
abbrev ACb:BF:=[(.ret,[AdY])]
def ACa[Lk]:=JB (0:Int) DC tId
def AWC[Lk]:=OY (0:Int) DC tId
def bG[Lk]:=Iv (0:Int) DC tId
def ASX[Lk]:=ry (0:Int) DC tId
theorem ASW v:ASX v=bG 100 v:=A0 _
def ARR[Lk]:=Kt (0:Int) DC tId
def qb[Lk]:=aH (0:Int) DC tId
theorem AK6 v:qb v=ARR v:=A0 _
abbrev Ada:Loc×Con:=(.tmp 2,.clo 125 [])
abbrev AXL:A1:=[(.tmp 0,.dat Ui),(.tmp 1,.dat U1),Ada]
abbrev ABi:A1:=[AA,Ar]
abbrev Adb:Loc×Con:=(.cell 0 3,.dat .bool)
abbrev AUg:A1:=[(.tmp 0,.dat Ui),Ada,(.tmp 4,.box 4),AG,Aca,AdX,Adb,AN,Aa,AX]
abbrev AUf:BF:=[(.exit 0,[(.tmp 0,.dat Ui),Ada,(.tmp 4,.box 4),AG,Aca,AdX,Adb,AN,Aa])]
def UE[Lk]:(List U2×Int×Int×Int×Bool×Int×Int×Int×Unit)->Option ((List U2×Int×Int×Int×Bool×Int×Int×Int×Unit)⊕(List U2×Int×Int×Int×Bool×Int×Int×Unit)⊕Unit):=fun(a,b,c,d,e,h,f,i,_)=>
 match(ilt f i)with
 |true=>match shr? .u64 (IntKind.wrap .u64 (w64 (f+i))) 1 with|none=>none|some j=>match idx a (w64 j)with|none=>none|some g=>match Fc ((g.1,(g.2.1,(g.2.2.1,(g.2.2.2.1,())))),(b,(c,(d,(e,())))),())with|none=>none|some (k,_)=>match(ilt k 0)with
  |true=>some (.inl (a,b,c,d,e,h,(w64 ((w64 j)+1)),i,()))
  |false=>some (.inl (a,b,c,d,e,h,f,(w64 j),()))
 |false=>some (.inr (.inl (a,b,c,d,e,h,f,())))
def ABj[Lk]:(List U2×U2×Unit)->Option ((Int×Bool×Unit)):=fun(d,a,_)=>
 match A_ UE many (d,a.1,a.2.1,a.2.2.1,a.2.2.2.1,(A3 d),0,(A3 d),())with|none=>none|some r=>match r with
 |.inl (e,f,g,h,i,j,b,_)=>match(ilt b j)with
  |true=>match idx e b with|none=>none|some c=>match Fc ((c.1,(c.2.1,(c.2.2.1,(c.2.2.2.1,())))),(f,(g,(h,(i,())))),())with|none=>none|some (k,_)=>some (b,(ieq k 0),())
  |false=>some (b,false,())
 |.inr _=>none
def AQJ[Lk]:=lkk ABj
theorem ADv v:AQJ v=ABj v:=A0 _
abbrev TF:A1:=[Ay,AD,AE]
def bk[Lk]:V5->Option ((Int×Bool×Unit)):=fun(c,a,b,_)=>
 match AQJ (c.2.1,((Cl a b),((imax a b),(0,(false,())))),())with|none=>none|some (d,e,_)=>some (d,e,())
def zw[Lk]:=lkk bk
theorem jF v:zw v=bk v:=A0 _
abbrev Adc:Loc×Con:=(.tmp 1,.clo 294 [(1,0)])
abbrev Ade:Loc×Con:=(.cell 1 1,.dat Ud)
abbrev O3:A1:=[AR,(.cap 1 0,.box 2),AJ,Ade,Adc]
abbrev Adf:Loc×Con:=(.obj 1,.box 2)
abbrev cL:A1:=[AdY,Adf,AJ,Ade,AA]
abbrev YW:A1:=[AdY,Adf,AJ,Ade,Ai,Adc,AO,AN]
abbrev YV:BF:=[(.ret,[AdY,Adf,AJ,Ade,AP]),(.exit 0,[AdY,Adf,AJ,Ade])]
def Di[Lk]:Vm->Option (Vm⊕(List Int×Int×List U5×Int×Unit)⊕(List Int×Int×List U5×Unit)⊕Unit):=fun(a,c,d,e,b,_)=>
 match(ilt b e)with
 |true=>match idx a b with|none=>none|some f=>match(ile c (A7 a (A2 b) 0))with
  |true=>some (.inr (.inl (a,c,d,b,())))
  |false=>some (.inl (a,c,d,e,(w64 (b+1)),()))
 |false=>some (.inr (.inr (.inl (a,c,d,()))))
def KT[Lk]:(List Int×Int×List U5×Unit)->Option ((List Int×Int×List U5×Int×Unit)):=fun(a,b,c,_)=>
 match A_ Di many (a,b,c,(A3 a),0,())with|none=>none|some r=>match r with
 |.inl (d,e,f,g,_)=>some (d,e,f,g,())
 |.inr r=>match r with
 |.inl (h,i,j,_)=>some (h,i,j,(-1:Int),())
 |.inr _=>none
def NM[Lk]:=lkk KT
theorem Ns v:NM v=KT v:=A0 _
abbrev ATo:A1:=[(.tmp 0,.nil U1),AD]
abbrev Adg:Loc×Con:=(.tmp 0,.own 66 U1)
abbrev ADO:A1:=[Adg]
def nZ[Lk]:Ub->Option ((List U2×Unit)):=fun(a,_)=>
 match(ilt a 0)with
 |true=>none
 |false=>match(ilt 0 (w64 (a-(w64 (0-0)))))with
 |true=>match Ci ([]:List Unit) 0 0 with|none=>none|some _u0=>match(B4 (w64 (a-(w64 (0-0)))))with
  |true=>match Ci (C2 (A2 (w64 (a-(w64 ((0:Int)-(0:Int)))))) ((0:Int),((0:Int),((0:Int),(false,()))))) (0:Int) (0:Int)with|none=>none|some b=>some ((CT (A2 (A3 b)) (C2 (A2 (w64 (a-(w64 ((0:Int)-(0:Int)))))) ((0:Int),((0:Int),((0:Int),(false,())))))),())
  |false=>none
 |false=>some (([]:List U2),())
def ADP[Lk]:=lkk nZ
theorem uB v:ADP v=nZ v:=A0 _
abbrev Adh:Loc×Con:=(.tmp 0,.dat (.slice Ui))
abbrev AJH:A1:=[Adh]
abbrev ABI:A1:=[(.tmp 6,.own 66 U1),(.tmp 25,.dat (.slice Ui)),AW,AU]
abbrev ABG:BF:=[(.exit 2,[(.tmp 6,.own 66 U1)])]
def Kc[Lk]:(List U2×List (List U2)×Int×Int×Unit)->Option ((List U2×List (List U2)×Int×Int×Unit)⊕(List U2×Unit)⊕Unit):=fun(a,c,d,b,_)=>
 match(ilt b d)with
 |true=>match idx c b with|none=>none|some e=>match(fits ((A3 a)+(A3 e)))with
  |true=>some (.inl ((Bi a e),c,d,(w64 (b+1)),()))
  |false=>none
 |false=>some (.inr (.inl (a,())))
abbrev ABJ:A1:=[Adh,AQ,(.tmp 9,.dat (.slice Ui)),AX,AY]
abbrev ABH:BF:=[(.exit 0,[Adh,AQ])]
def Kd[Lk]:(List (List U2)×Int×List (List U2)×Int×Int×Unit)->Option ((List (List U2)×Int×List (List U2)×Int×Int×Unit)⊕(List (List U2)×Int×Unit)⊕Unit):=fun(c,a,d,e,b,_)=>
 match(ilt b e)with
 |true=>match idx d b with|none=>none|some f=>match(ilt (w64 (a+(A3 f))) 0)with
  |true=>none
  |false=>some (.inl (c,(w64 (a+(A3 f))),d,e,(w64 (b+1)),()))
 |false=>some (.inr (.inl (c,a,())))
def W3[Lk]:(List (List U2)×Unit)->Option ((List U2×Unit)):=fun(a,_)=>
 match A_ Kd many (a,0,a,(A3 a),0,())with|none=>none|some r=>match r with
 |.inl (b,c,_)=>match ADP (c,())with|none=>none|some (d,_)=>match A_ Kc many (d,b,(A3 b),0,())with|none=>none|some r=>match r with
  |.inl (e,_)=>some (e,())
  |.inr _=>none
 |.inr _=>none
def T9[Lk]:=lkk W3
theorem dD v:T9 v=W3 v:=A0 _
def ADU[Lk]:(U2×U2×Unit)->Option (Ub):=fun(a,b,_)=>
 match Bn ((a.1,(a.2.1,())),(b.1,(b.2.1,())),())with|none=>none|some (c,_)=>some (c,())
def DQ[Lk]:=lkk ADU
theorem AOi v:DQ v=ADU v:=A0 _
abbrev Adi:Loc×Con:=(.tmp 3,.clo 96 [])
abbrev Wd:A1:=[Adg,AD,AE,Adi]
abbrev Adj:Loc×Con:=(.obj 0,.own 66 U1)
abbrev KM:A1:=[Adj]
abbrev ATK:A1:=[Adj,Ai,AD,AE,Adi,AN,Aa]
abbrev ATJ:BF:=[(.exit 2,[Adj,Ai,AD,AE,Adi,AN])]
abbrev ATL:A1:=[Adj,Ai,AD,AE,Adi,AN]
abbrev nH:BF:=[(.exit 0,[Adj])]
def AWe[Lk]:=Ox ((0,(0,(0,(false,())))):U2) DQ tLt
def AYP[Lk]:=tn ((0,(0,(0,(false,())))):U2) DQ tLt
theorem ATM v:AYP v=AWe v:=A0 _
abbrev Adk:Loc×Con:=(.tmp 4,.clo 96 [])
abbrev Kv:A1:=[Adg,AD,AE,AQ,Adk]
abbrev ALG:A1:=[Adj,Ai,AE,AQ,Adk,AX]
abbrev ALF:BF:=[(.exit 0,[Adj]),(.ret,[Adj])]
def ARe[Lk]:=Ky ((0,(0,(0,(false,())))):U2) DQ tLt
def AUy[Lk]:=Sm ((0,(0,(0,(false,())))):U2) DQ tLt
theorem ALH v:AUy v=ARe v:=A0 _
abbrev AOJ:A1:=[Adj,Ai,Adi,AN,Aa,AK]
abbrev AOH:BF:=[(.exit 2,[Adj])]
abbrev AOK:A1:=[Adj,Ai,Adi,AN,Aa,AX,AY]
abbrev AOI:BF:=[(.exit 0,[Adj,Ai,Adi,AN,Aa,AX])]
def ATg[Lk]:=LC ((0,(0,(0,(false,())))):U2) DQ tLt
def AVC[Lk]:=Xq ((0,(0,(0,(false,())))):U2) DQ tLt
theorem AOL v:AVC v=ATg v:=A0 _
abbrev AJh:A1:=[Adj,Ai,AD,AN,(.tmp 9,.box 1),Ak,Al,AY]
def AP6[Lk]:=Ih ((0,(0,(0,(false,())))):U2) DQ tLt
def breakT[Lk]:=PO ((0,(0,(0,(false,())))):U2) DQ tLt
theorem AJi v:breakT v=AP6 v:=A0 _
abbrev AGW:A1:=[Adg,AD,AE,Am,AJ,Adk]
abbrev AGV:A1:=[Adj,An,AJ,AA,AD]
def AGX[Lk]:=GM ((0,(0,(0,(false,())))):U2) DQ tLt
def ACm[Lk]:=Hs ((0,(0,(0,(false,())))):U2) DQ tLt
theorem zM v:ACm v=AGX v:=A0 _
abbrev AGy:A1:=[Adg,AD,AE,AQ,Ao,AJ,(.tmp 5,.clo 96 [])]
abbrev iz:A1:=[Adj,An,AJ,AA]
def AGz[Lk]:=GP ((0,(0,(0,(false,())))):U2) DQ tLt
def AC3[Lk]:=Hv ((0,(0,(0,(false,())))):U2) DQ tLt
theorem zf v:AC3 v=AGz v:=A0 _
abbrev AHD:A1:=[Adg,AD,Ap,AJ,Adi]
def AHE[Lk]:=GQ ((0,(0,(0,(false,())))):U2) DQ tLt
def AC8[Lk]:=Hw ((0,(0,(0,(false,())))):U2) DQ tLt
theorem zl v:AC8 v=AHE v:=A0 _
abbrev AMN:A1:=[Adj,AA,AD]
def AMO[Lk]:=IP ((0,(0,(0,(false,())))):U2) DQ tLt
def AMQ[Lk]:=OX ((0,(0,(0,(false,())))):U2) DQ tLt
theorem AFr v:AMQ v=AMO v:=A0 _
abbrev ARu:A1:=[Adj,Ai,AN,Aa]
def AVm[Lk]:=OT ((0,(0,(0,(false,())))):U2) DQ tLt
def AX4[Lk]:=rJ ((0,(0,(0,(false,())))):U2) DQ tLt
theorem ARv v:AX4 v=AVm v:=A0 _
abbrev yc:A1:=[Adj,AB]
abbrev sK:A1:=[Adj,Ai,AD,AE,Adi,Aa,AX,AK]
abbrev sG:BF:=[(.exit 6,[Adj,Ai,AD,AE,Adi,Aa,AX])]
abbrev sL:A1:=[Adj,Ai,AD,AE,Adi,Aa,AX,AY]
abbrev sH:BF:=[(.exit 4,[Adj,Ai,AD,AE,Adi,Aa,AX])]
abbrev XZ:A1:=[Adj,Ai,AD,AE,Adi,Aa,AX]
abbrev sI:BF:=[(.exit 2,[Adj,Ai,AD,AE,Adi,Aa,AX])]
abbrev sJ:BF:=[(.ret,[Adj,Aq]),(.exit 0,[Adj])]
def yd[Lk]:=Ex ((0,(0,(0,(false,())))):U2) DQ tLt
def sN[Lk]:=IT ((0,(0,(0,(false,())))):U2) DQ tLt
theorem sM v:sN v=yd v:=A0 _
abbrev AGE:A1:=[Adj,AA]
abbrev RV:A1:=[Adj,Ai,AD,Adk,AY,AK]
abbrev yu:BF:=[(.exit 4,[Adj,Ai,AD,Adk,AY,AK])]
abbrev yv:BF:=[(.exit 2,[Adj,Ai,AD,Adk,AY,AK])]
abbrev yw:BF:=[(.exit 0,[Adj,AY])]
def AGF[Lk]:=GH ((0,(0,(0,(false,())))):U2) DQ tLt
def ACh[Lk]:=K4 ((0,(0,(0,(false,())))):U2) DQ tLt
theorem yx v:ACh v=AGF v:=A0 _
abbrev ASg:A1:=[Adj,AA,Ar]
abbrev Oa:A1:=[Adj,Ai,AD,Adk,AK,AL]
abbrev AMv:BF:=[(.exit 8,[Adj,Ai,AD,Adk,AK,AL])]
abbrev AMw:BF:=[(.exit 6,[Adj,Ai,AD,Adk,AK,AL])]
abbrev AMx:BF:=[(.exit 4,[Adj,Ai,AD,AL])]
abbrev AMy:BF:=[(.exit 2,[Adj,Ai,AD,Adk,AK,AL])]
abbrev AMz:BF:=[(.exit 0,[Adj,Ai,AD,Adk,AK,AL])]
def ASh[Lk]:=K3 ((0,(0,(0,(false,())))):U2) DQ tLt
def AU6[Lk]:=Qr ((0,(0,(0,(false,())))):U2) DQ tLt
theorem AM0 v:AU6 v=ASh v:=A0 _
abbrev ACW:A1:=[Adj,Ai,AD,AE,AQ,Adk,As,At]
abbrev ACV:BF:=[(.ret,[Adj])]
def ACU[Lk]:=JB ((0,(0,(0,(false,())))):U2) DQ tLt
def AV8[Lk]:=OY ((0,(0,(0,(false,())))):U2) DQ tLt
def bE[Lk]:=Iv ((0,(0,(0,(false,())))):U2) DQ tLt
def ASP[Lk]:=ry ((0,(0,(0,(false,())))):U2) DQ tLt
theorem ASO v:ASP v=bE 100 v:=A0 _
abbrev ARM:A1:=[Adg,(.tmp 1,.clo 96 [])]
def ARN[Lk]:=Kt ((0,(0,(0,(false,())))):U2) DQ tLt
def AK4[Lk]:=aH ((0,(0,(0,(false,())))):U2) DQ tLt
theorem AK3 v:AK4 v=ARN v:=A0 _
abbrev Adl:Loc×Con:=(.tmp 0,.win' 0)
abbrev oG:A1:=[AcI,An,AcH,AcJ,Adl]
abbrev ep:A1:=[AcI,An,AcH,AcJ,Ai,AcG,Acf,AcC]
abbrev eo:BF:=[(.exit 0,[AcI,An,AcH,AcJ,Ai,Acf])]
def H0[Lk]:(List U4×List Vf×Int×Int×Unit)->Option ((List U4×List Vf×Int×Int×Unit)⊕(List U4×List Vf×Int×Unit)⊕Unit):=fun(a,d,c,b,_)=>
 match(ilt b (A3 a))with
 |true=>match idx a b with|none=>none|some e=>match(!(ieq ((A8 d ((A7 a (A2 b) (0,(0,()))).1,((A7 a (A2 b) (0,(0,()))).2.1,()))).getD 0) 0))with
  |true=>match idx a c with|none=>none|some f=>some (.inl ((Bb a (A2 c) ((A7 a (A2 b) (0,(0,()))).1,((A7 a (A2 b) (0,(0,()))).2.1,()))),d,(w64 (c+1)),(w64 (b+1)),()))
  |false=>some (.inl (a,d,c,(w64 (b+1)),()))
 |false=>some (.inr (.inl (a,d,c,())))
def Na[Lk]:(List U4×List Vf×Unit)->Option ((List U4×List Vf×Int×Unit)):=fun(g,h,_)=>
 match Rs (g,h,())with|none=>none|some (c,e,d,_)=>match(ieq d (-1:Int))with
 |true=>some (c,e,(A3 c),())
 |false=>match A_ H0 many (c,e,d,(w64 (d+1)),())with|none=>none|some r=>match r with
 |.inl (a,i,b,_)=>match Ci a b (A3 a)with|none=>none|some f=>match Ci (Bp (A2 b) (A2 (A3 f)) (0,(0,())) a) 0 b with|none=>none|some j=>some ((Bp (A2 b) (A2 (A3 f)) (0,(0,())) a),i,(((A2 (A3 j)):Nat):Int),())
 |.inr _=>none
def Nb[Lk]:=lkk Na
theorem Q3 v:Nb v=Na v:=A0 _
def Rv[Lk]:Ub->Option (Uc):=fun(a,_)=>
 match(ile 0 a)with
 |true=>some ((ile a 1099511627776),())
 |false=>some (false,())
def O4[Lk]:=lkk Rv
theorem Xp v:O4 v=Rv v:=A0 _
abbrev Adm:Loc×Con:=(.tmp 0,.dat (.slice (.int .u8)))
abbrev AEJ:A1:=[Adm,AD]
def fU[Lk]:Ul->Option ((Int×Bool×Unit)):=fun(b,a,_)=>
 match(ilt a 0)with
 |true=>some (0,false,())
 |false=>match(ilt (w64 ((A3 b)-2)) a)with
 |true=>some (0,false,())
 |false=>match idx b a with|none=>none|some c=>match shl? .i64 (w64 c) 8 with|none=>none|some d=>match idx b (w64 (a+1))with|none=>none|some e=>some ((w64 ((BitVec.ofInt (IntKind.bits .i64) d ||| BitVec.ofInt (IntKind.bits .i64) (w64 e)).toNat)),true,())
def ABy[Lk]:=lkk fU
theorem wP v:ABy v=fU v:=A0 _
def AUw[Lk]:Ub->Option (Uc):=fun(a,_)=>
 match(ile 1 a)with
 |true=>some ((ile a 3),())
 |false=>some (false,())
def wb1[Lk]:=lkk AUw
theorem AVT v:wb1 v=AUw v:=A0 _
def g9{R:Type}(slot:Nat)(H:List Ob)(fz:List Bool)(k:AV->Eff->Option R)(v:AV)(e:Eff):Option R:=
 match e.heap with
 |none=>match v with
  |.win id 0 n=>match(C9 e H)[id]? with
   |some (.arr T t xs)=>match BK (FT e fz) id&&Bh (C9 e H) (FT e fz) (slot+3)&&(e.objs.any fun p=>Nat.beq p.1 id)with
    |true=>k (.own (slot+3)) { objs:=e.objs++[(id,.dead),(slot+3,.arr T t (CT n xs))],frz:=e.frz }
    |false=>none
   |_=>none
  |_=>none
 |some _=>none
def IH(s:Spec):Spec:=fun R args H fz slot k=>s R args H fz slot (g9 slot H fz k)
section
variable {P:Program} {g:FuncId}
theorem AII{w:World}{F:Nat->Prop}{m:Mp}{H:List Ob}{fz:List Bool}(hi:HI w F m H fz){id n slot:Nat}{T:TypeId}{t:Ty}{xs:List t.den}(i:H[id]? = some (.arr T t xs))(A:BK fz id=true)
  (o:Bh H fz slot=true) {u:Value} (e:Rep w F m H (.win id 0 n) u) :
  ∃ f,BT w F m H fz w F f ((H.set id .dead).set slot (.arr T t (CT n xs))) fz/\Rep w F f ((H.set id .dead).set slot (.arr T t (CT n xs))) (.own slot) u:=by
 have c:=hi.obj id _ i;obtain⟨B,c⟩:=c;unfold Rep at e;rw[i]at e;obtain⟨q,e⟩:=e;rw[AZ3]at q;have r:slot≠id:=nk o i;have d:=BT.kill hi (DS i A);have zero:∀ a,n=0->u = .slice a 0 0->∃ f,BT w F m H fz w F f ((H.set id .dead).set slot (.arr T t (CT n xs))) fz/\Rep w F f ((H.set id .dead).set slot (.arr T t (CT n xs))) (.own slot) u:=by intro a I J;subst I;subst J;obtain⟨f,s,j⟩:=E3 (w:=w) d.2 (NJ o r) T B a;exact⟨f,d.trans s,j⟩
 cases v:m id with
  |none=>rw[v]at e c;obtain⟨a,C⟩:=e;simp_all
  |some p=>
   obtain⟨b,cap⟩:=p;rw[v]at e c;obtain⟨vs,y,C,O,K,L,M,Q⟩:=c;obtain⟨a,rfl,N⟩:=e;rcases Aah cap with D|D;simp_all;have:=N D;rw[AbF]at this;subst this;have E:=fun(x:t.den) cs (h:Dat w F t x cs)=>Dat.length t h;have k:(xs.take n).length=n:=by grind
   have l:=FA E n M;have z:=B2 E l;rw[k]at z;have s:=BT.move (w':=w) hi (DS i A) v o (ob:=.arr T t (CT n xs)) trivial (b':=b) (c':=cap) (.inl rfl) rfl rfl rfl (AY8 _) (fun _ _ _=>rfl) (fun _=>⟨B,vs,y.take (n*t.size),C,by
    show(xs.take n).length<=cap;omega,K,L,l,by
    grind⟩)
   refine⟨_,s,?_⟩;have G:=BW (CA o).1;unfold Rep;rw[Bs (by grind),Ba];show Value.slice _ n (cap-0)=Value.slice _ (xs.take n).length cap;grind
theorem qT{s:Spec}(l:BS P g s):BS P g (IH s):=by
 intro R args H fz slot k r o;obtain⟨v,e,a,p,q,x⟩:=l R args H fz slot _ r o;unfold g9 at a;split at a;rename_i f;split at a;rename_i id n;split at a;rename_i T t xs i;split at a;rename_i d;refine⟨_,_,a,fun E G => ?_,q,fun w F m b hi y => ?_⟩;unfold IH;rw[p];simp only[g9,f,i,d];refine(x w F m b hi y).mono ?_;rintro I w' ⟨u,rfl,z,J,j,c⟩;simp only[AY3]at d;obtain⟨A,h,B⟩:=AII j.2 i d.1.1 d.1.2 c;have C:C9 { objs:=e.objs++[(id,.dead),(slot+3,.arr T t (CT n xs))],frz:=e.frz } H=((C9 e H).set id .dead).set (slot+3) (.arr T t (CT n xs)):=by rw[Cx rfl,Cx f,XR];rfl
 have D:FT { objs:=e.objs++[(id,.dead),(slot+3,.arr T t (CT n xs))],frz:=e.frz } fz=FT e fz:=by rw[Dk rfl,Dk f]
 refine⟨u,rfl,z,A,?_,?_⟩;rw[C,D];exact j.trans h;grind;grind;grind;grind;grind
theorem GO{np b:Nat}{a outs:A1}{rs:List RS}{f:Bf (leaves a)->Option (Bf (leaves outs))}(d:∀ x,f x=none):BS P g (BX np b a outs rs f):=by intro R args H fz slot k r c;unfold BX at c;grind
end
section
variable {S:List Nat} {H H':List Ob}
theorem Hm.wk{s:Spec}(h:Hm s):G7 s:=
 fun R args H H' fz fz' slot k S c _ b=>h R args H H' fz fz' slot k ⟨fun id a=>b.heap id (c id a),b.slotH,b.slotF,b.len,fun id a=>by cases a⟩
def Xi:A1->Bool
 |[]=>true
 |(.obj _,_)::_=>false
 |_::r=>Xi r
def AVu(S:List Nat)(v:AV):Prop:=∀ id∈BU v,id∈S
def dM(S:List Nat)(a:List Bnd):Prop:=∀ b∈a,∀ id,b.id? = some id->id∈S
theorem dM.get{a:List Bnd}(h:dM S a){j:Nat}{b:Bnd}{id:Nat}(c:a[j]? = some b)(hi:b.id? = some id):id∈S:=h b (AY9 c) id hi
theorem dM.snoc{c:List Bnd}(h:dM S c){b:Bnd}(d:∀ id,b.id? = some id->id∈S):dM S (c++[b]):=by intro x a id hi;rcases AY5.1 a with a|a;exact h x a id hi;grind
theorem ADF{g:List AV}{h:List Bnd}{l:Loc}(k:∀ id∈Bz g,id∈S)(n:Ze S H)(p:∀ id∈S,H[id]? = H'[id]?)(q:dM S h)(u:∀ j,l≠.obj j):
  look (lk g) H h l=look (lk g) H' h l/\∀ v,look (lk g) H h l=some v->AVu S v:=by
 cases l with
  |tmp t=>refine⟨rfl,fun v e id d=>k id ?_⟩;exact Dm (AY9 e) d
  |cell j c=>
   simp only[look];cases r:h[j]? with
    |none=>simp
    |some b=>
     cases b with
      |none=>simp
      |cut id=>simp
      |whole id=>
       have d:=q.get r (id:=id) rfl;simp only;rw[p id d];refine⟨rfl,fun v e => ?_⟩;cases s:H'[id]? with
        |none=>grind
        |some o=>
         rw[s]at e;cases o<;>simp only at e<;>first|grind|skip
         rename_i cs;intro i hi;exact n id d cs (by grind) i (Dm (AY9 e) hi)
  |cap t i=>
   refine⟨rfl,fun v e => ?_⟩;simp only[look]at e;cases m:lk g t with
    |none=>grind
    |some a=>
     rw[m]at e;cases a<;>simp only at e<;>first|grind|skip
     rename_i f cs;intro id d;refine k id (Dm (AY9 (show g[t]? = _ from m)) ?_);simp only[BU];exact Dm (AY9 e) d;rename_i f cs;intro id d;refine k id (Dm (AY9 (show g[t]? = _ from m)) ?_);simp only[BU];exact Dm (AY9 e) d
  |obj j=>grind
theorem M4{f:List Nat}{fz fz':List Bool}(a:fz.length=fz'.length){id:Nat}(h:fz.getD id false=fz'.getD id false):(BJ f fz).getD id false=(BJ f fz').getD id false:=by rw[Bk,Bk,h,a]
theorem APY{y:List AV}(J:∀ id∈Bz y,id∈S)(K:Ze S H)(C:∀ id∈S,H[id]? = H'[id]?):∀ (z:A1) (fz fz':List Bool) (i:List Bnd),Xi z=true->dM S i->fz.length=fz'.length->(∀ id∈S,fz.getD id false=fz'.getD id false) ->
  dec (lk y) H z fz i=dec (lk y) H' z fz' i:=by
 intro z;induction z with
  |nil=>intro fz fz' i _ _ _ _;rfl
  |cons p r G=>
   intro fz fz' i F m A I;obtain⟨l,c⟩:=p;have E:(∀ j,l≠.obj j)/\Xi r=true:=by
    cases l with
     |obj j=>cases F
     |tmp t=>exact⟨fun j h=>(by cases h),F⟩
     |cell a b=>exact⟨fun j h=>(by cases h),F⟩
     |cap a b=>exact⟨fun j h=>(by cases h),F⟩
   obtain⟨o,D⟩:=ADF J K C m E.1;have g:=fun i m=>G fz fz' i E.2 m A I;have B:∀ id∈S,BK fz id=BK fz' id:=fun id d=>by unfold BK;grind
   cases c with
    |dat t=>
     simp only[dec,<- o];cases s:look (lk y) H i l with
      |none=>rfl
      |some v=>
       simp only;rw[X' t v fun id d=>C id (D v s id d)];cases dP H' t v with
        |none=>rfl
        |some q=>obtain⟨x,f⟩:=q;simp only;rw[G (BJ f fz) (BJ f fz') i E.2 m (by rw[EK,EK,A]) (fun id d=>M4 A (I id d))]
    |own T e=>
     simp only[dec,<- o];cases s:look (lk y) H i l with
      |none=>rfl
      |some v=>
       cases v with
        |nils L=>simp only;rw[g _ (m.snoc fun id h=>by cases h)]
        |own id=>have d:id∈S:=D _ s id (by simp[BU]);simp only;rw[<- C id d,B id d,g _ (m.snoc fun w h=>by simp only[Bnd.id?,AY1]at h;grind)]
        |win id off n=>
         have d:id∈S:=D _ s id (by simp[BU]);cases off with
          |succ off=>rfl
          |zero=>simp only;rw[<- C id d,B id d,g _ (m.snoc fun w h=>by simp only[Bnd.id?,AY1]at h;grind)]
        |_=>rfl
    |box n=>
     simp only[dec,<- o];cases s:look (lk y) H i l with
      |none=>rfl
      |some v=>
       cases v with
        |ptr id off=>
         have d:id∈S:=D _ s id (by simp[BU]);cases off with
          |succ off=>rfl
          |zero=>simp only;rw[<- C id d,g _ (m.snoc fun w h=>by simp only[Bnd.id?,AY1]at h;grind)]
        |_=>rfl
    |map k v=>
     simp only[dec,<- o];cases s:look (lk y) H i l with
      |none=>rfl
      |some u=>
       cases u with
        |mp id=>have d:id∈S:=D _ s id (by simp[BU]);simp only;rw[<- C id d,g _ (m.snoc fun w h=>by simp only[Bnd.id?,AY1]at h;grind)]
        |_=>rfl
    |rows T e t=>
     simp only[dec,<- o];cases s:look (lk y) H i l with
      |none=>rfl
      |some u=>
       cases u with
        |own id=>have d:id∈S:=D _ s id (by simp[BU]);simp only;rw[<- C id d,B id d,g _ (m.snoc fun w h=>by simp only[Bnd.id?,AY1]at h;grind)]
        |_=>rfl
    |mrows j e t=>
     simp only[dec,<- o];cases s:look (lk y) H i l with
      |none=>rfl
      |some u=>
       cases u with
        |mp id=>have d:id∈S:=D _ s id (by simp[BU]);simp only;rw[<- C id d,B id d,g _ (m.snoc fun w h=>by simp only[Bnd.id?,AY1]at h;grind)]
        |_=>rfl
    |aptr T e n=>
     simp only[dec,<- o];cases s:look (lk y) H i l with
      |none=>rfl
      |some u=>
       cases u with
        |aptr id M=>have d:id∈S:=D _ s id (by simp[BU]);simp only;rw[<- C id d,B id d,g _ (m.snoc fun w h=>by simp only[Bnd.id?,AY1]at h;grind)]
        |_=>rfl
    |aptr' j n=>simp only[dec,<- o,g i m]
    |bndp f j=>simp only[dec,<- o,g i m]
    |nilp=>simp only[dec,<- o,g i m]
    |own' j=>simp only[dec,<- o,g i m]
    |ptr' j off=>simp only[dec,<- o,g i m]
    |map' j=>simp only[dec,<- o,g i m]
    |sub' j=>simp only[dec,<- o,g i m]
    |win' j=>
     simp only[dec,<- o];rw[g i m];cases s:look (lk y) H i l with
      |none=>rfl
      |some v=>
       cases v with
        |own id=>have d:id∈S:=D _ s id (by simp[BU]);grind
        |win id off n=>grind
        |_=>simp
    |clo f N=>simp only[dec,<- o,g i m]
    |bnd f j=>simp only[dec,<- o,g i m]
    |prs T j=>
     simp only[dec,<- o];cases s:look (lk y) H i l with
      |none=>rfl
      |some v=>
       cases v with
        |nils L=>simp only;rw[g _ (m.snoc fun id h=>by cases h)]
        |own id=>have d:id∈S:=D _ s id (by simp[BU]);simp only;rw[<- C id d,g _ (m.snoc fun w h=>by simp only[Bnd.id?,AY1]at h;grind)]
        |_=>rfl
    |nil e=>simp only[dec,<- o,g i m]
theorem Tf{fz fz':List Bool}:∀ (n:Nat) (a:List Bnd) (slot:Nat),(∀ s,slot<=s->s<slot+n->Bh H fz s=Bh H' fz' s)->Gp H fz (Df n a slot) a=Gp H' fz' (Df n a slot) a:=by
 intro n;induction n with
  |zero=>intro a slot _;cases a<;>rfl
  |succ n c=>
   intro a slot h;cases a with
    |nil=>simp only[Df,Gp,List.tail_nil];grind
    |cons b a=>
     cases b with
      |whole id=>simp only[Df,Gp,Aar];grind
      |none=>simp only[Df,Gp,Aar];grind
      |cut id=>simp only[Df,Gp,Aar];grind
theorem CR{np j:Nat}{a outs:A1}{rs:List RS}{f:Bf (leaves a)->Option (Bf (leaves outs))}(d:Xi a=true)(l:Nat.ble (Dw outs) 4=true):G7 (BX np j a outs rs f):=by intro R args H H' fz fz' slot k S m n c;have o:=AZn l;have hd:dec (lk args) H a fz []=dec (lk args) H' a fz' []:=APY m n c.heap a fz fz' [] d (fun b p=>by cases p) c.len c.wrF;unfold BX;rw[hd];split;rfl;rename_i x h e _;split;rfl;split;rfl;have i:∀ (g:List Nat) s,slot<=s->s<slot+Dw outs->Bh H (BJ g fz) s=Bh H' (BJ g fz') s:=fun g s q r=>FI c q (by omega) g;unfold Kh;rw[Tf (fz:=fz) (fz':=fz') (Dw outs) (h.take np) slot (i []),Tf (fz:=BJ e fz) (fz':=BJ e fz') (Dw outs) (h.take np) slot (i e)]
theorem AH3:∀ (n:Nat) (a:List Bnd) (slot i:Nat),i∈Df n a slot->(∃ b∈a,b.id? = some i)\/(slot<=i/\i<slot+n):=by
 intro n;induction n with
  |zero=>intro a slot i h;cases a<;>cases h
  |succ n f=>
   intro a slot i h;have next:∀ c,i∈slot::Df n c (slot+1)->(∃ b∈c,b.id? = some i)\/(slot<=i/\i<slot+(n+1)):=by grind
   cases a with
    |nil=>exact next [] h
    |cons b a=>
     cases b with
      |whole id=>simp only[Df]at h;rcases AZJ.1 h with rfl|h;exact .inl ⟨.whole i,by simp,rfl⟩;grind
      |none=>rcases next a h with⟨b,d,e⟩|h;all_goals grind
      |cut id=>rcases next a h with⟨b,d,e⟩|h;all_goals grind
theorem AI5{w:List AV}(C:∀ id∈Bz w,id∈S)(D:Ze S H):∀ (o:A1) (fz:List Bool) (u:List Bnd) (x:Bf (leaves o)) (q:List Bnd) (z:List Nat),Xi o=true->dM S u ->
  dec (lk w) H o fz u=some (x,q,z)->dM S q:=by
 intro o;induction o with
  |nil=>intro fz u x q z _ m h;simp only[dec,AY1]at h;grind
  |cons p r g=>
   intro fz u x q z y m h;obtain⟨l,c⟩:=p;have d:(∀ j,l≠.obj j)/\Xi r=true:=by
    cases l with
     |obj j=>cases y
     |tmp t=>exact⟨fun j h=>(by cases h),y⟩
     |cell a b=>exact⟨fun j h=>(by cases h),y⟩
     |cap a b=>exact⟨fun j h=>(by cases h),y⟩
   have s:=(ADF (H':=H) C D (fun _ _=>rfl) m d.1 (l:=l)).2;have one:∀ {id:Nat} {b:Bnd},id∈S->b.id? = some id->dM S (u++[b]):=fun E B=>m.snoc fun F G=>by grind
   cases c<;>simp only[dec]at h
   case dat t=>
    grind
   case own T e=>
    split at h
    ·split at h
     ·split at h
      ·rename_i hd;cases h;exact g _ _ _ _ _ d.2 (m.snoc fun id h=>by cases h) hd
      grind
     grind
    ·rename_i id i
     split at h
     ·split at h
      ·split at h
       ·rename_i hd;cases h;exact g _ _ _ _ _ d.2 (one (s _ i id (by simp[BU])) rfl) hd
       grind
      grind
     grind
    ·rename_i id n i
     split at h
     ·split at h
      ·split at h
       ·rename_i hd;cases h;exact g _ _ _ _ _ d.2 (one (s _ i id (by simp[BU])) rfl) hd
       grind
      grind
     grind
    grind
   case prs T j=>
    split at h
    ·split at h
     ·rename_i hd;cases h;exact g _ _ _ _ _ d.2 (m.snoc fun id h=>by cases h) hd
     grind
    ·rename_i id i
     split at h
     ·split at h
      ·split at h
       ·rename_i hd;cases h;exact g _ _ _ _ _ d.2 (one (s _ i id (by simp[BU])) rfl) hd
       grind
      grind
     grind
    grind
   case box n=>
    split at h
    ·rename_i id i
     split at h
     ·split at h
      ·exact g _ _ _ _ _ d.2 (one (s _ i id (by simp[BU])) rfl) h
      grind
     grind
    grind
   case map k v=>
    split at h
    ·rename_i id i
     split at h
     ·split at h
      ·split at h
       ·rename_i hd;cases h;exact g _ _ _ _ _ d.2 (one (s _ i id (by simp[BU])) rfl) hd
       grind
      grind
     grind
    grind
   case rows T e t=>
    split at h
    ·rename_i id i
     split at h
     ·split at h
      ·split at h
       ·rename_i hd;cases h;exact g _ _ _ _ _ d.2 (one (s _ i id (by simp[BU])) rfl) hd
       grind
      grind
     grind
    grind
   case mrows j e t=>
    split at h
    ·rename_i id i
     split at h
     ·split at h
      ·split at h
       ·rename_i hd;cases h;exact g _ _ _ _ _ d.2 (one (s _ i id (by simp[BU])) rfl) hd
       grind
      grind
     grind
    grind
   case aptr T e n=>
    split at h
    ·rename_i id I i
     split at h
     ·split at h
      ·split at h
       ·rename_i hd;cases h;exact g _ _ _ _ _ d.2 (one (s _ i id (by simp[BU])) rfl) hd
       grind
      grind
     grind
    grind
   case bndp f j=>
    split at h
    ·split at h
     ·exact g _ _ _ _ _ d.2 m h
     grind
    grind
   case nilp=>
    cases A:look (lk w) H u l with
    |none=>grind
    |some v=>
     rw[A]at h
     cases v<;>simp only at h<;>first|exact g _ _ _ _ _ d.2 m h|cases h
   case aptr' j n=>
    split at h
    ·split at h
     ·exact g _ _ _ _ _ d.2 m h
     grind
    grind
   case own' j=>
    split at h
    ·split at h
     ·exact g _ _ _ _ _ d.2 m h
     grind
    grind
   case ptr' j off=>
    split at h
    ·split at h
     ·exact g _ _ _ _ _ d.2 m h
     grind
    grind
   case map' j=>
    split at h
    ·split at h
     ·exact g _ _ _ _ _ d.2 m h
     grind
    grind
   case win' j=>
    grind
   case sub' j=>
    grind
   case clo f ps=>
    split at h
    ·split at h
     ·exact g _ _ _ _ _ d.2 m h
     grind
    grind
   case bnd f j=>
    split at h
    ·split at h
     ·exact g _ _ _ _ _ d.2 m h
     grind
    grind
   case nil e=>
    cases A:look (lk w) H u l with
    |none=>grind
    |some v=>
     rw[A]at h
     cases v<;>simp only at h<;>first|exact g _ _ _ _ _ d.2 m h|cases h
theorem ARD{np L:Nat}{a outs:A1}{rs:List RS}{f:Bf (leaves a)->Option (Bf (leaves outs))}(z:Xi a=true)(M:Nat.ble (Dw outs) 4=true):G7 (IH (BX np L a outs rs f)):=by
 intro R args H H' fz fz' slot k E I J d;have N:=AZn M;have hd:dec (lk args) H a fz []=dec (lk args) H' a fz' []:=APY I J d.heap a fz fz' [] z (fun b w=>by cases w) d.len d.wrF;have A:∀ x c m,dec (lk args) H a fz []=some (x,c,m)->dM E c:=fun x c m h=>AI5 I J a fz [] x c m z (fun b w=>by cases w) h;unfold IH BX;rw[hd]at A |-;split;rfl
 ·rename_i x c m B;have w:=A x c m B;split;rfl
  ·split;rfl
   ·rename_i y _;have K:∀ (g:List Nat) s,slot<=s->s<slot+Dw outs->Bh H (BJ g fz) s=Bh H' (BJ g fz') s:=fun g s o C=>FI d o (by omega) g;have O:∀ (e:Eff) (v:AV),e.heap=none->(∀ p∈e.objs,p.1∈given (c.drop np)\/p.1∈Df (Dw outs) (c.take np) slot)->g9 slot H fz k v e=g9 slot H' fz' k v e:=by
     intro e v l P;unfold g9;rw[l];simp only;have F:Bh (C9 e H) (FT e fz) (slot+3)=Bh (C9 e H') (FT e fz') (slot+3):=by rw[Cx l,Cx l,Dk l,Dk l];unfold Bh;rw[Hp e.objs H H' (d.slotH (slot+3) (by omega) (by omega)),M4 d.len (d.slotF (slot+3) (by omega) (by omega))]
     cases v with
      |win id off n=>
       cases off with
        |succ off=>rfl
        |zero=>
         simp only;cases q:(e.objs.any fun p=>Nat.beq p.1 id)with
          |false=>grind
          |true=>
           rw[AbG]at q;obtain⟨p,G,r⟩:=q;have r:=AZl r;subst r;have D:(∃ b∈c,b.id? = some p.1)\/(slot<=p.1/\p.1<slot+Dw outs):=by rcases P p G with h|h;obtain⟨j,Q⟩:=Wo.1 h;exact .inl ⟨_,Aav (AY9 Q),rfl⟩;·rcases AH3 _ _ _ _ h with⟨b,o,C⟩|h;all_goals grind
           have o:H[p.1]? = H'[p.1]? := by
            rcases D with⟨b,t,u⟩|⟨o,C⟩
            exact d.heap _ (w b t _ u);exact d.slotH _ o (by omega)
           have C:fz.getD p.1 false=fz'.getD p.1 false:=by
            rcases D with⟨b,t,u⟩|⟨o,C⟩
            exact d.wrF _ (w b t _ u);exact d.slotF _ o (by omega)
           have T:(C9 e H)[p.1]? = (C9 e H')[p.1]? := by rw[Cx l,Cx l];exact Hp e.objs H H' o
           have U:BK (FT e fz) p.1=BK (FT e fz') p.1:=by rw[Dk l,Dk l];unfold BK;rw[M4 d.len C]
           grind
      |_=>rfl
    have mem:∀ p∈(given (c.drop np)).map (fun i=>(i,Ob.dead))++(Df (Dw outs) (c.take np) slot).zip ((encode (cellsOf rs) outs y).heap.map (Em (Df (Dw outs) (c.take np) slot))),p.1∈given (c.drop np)\/p.1∈Df (Dw outs) (c.take np) slot:=by intro p G;rcases AY5.1 G with h|h;grind;exact .inr (List.of_mem_zip h).1
    unfold Kh;rw[Tf (fz:=fz) (fz':=fz') (Dw outs) (c.take np) slot (K []),Tf (fz:=BJ m fz) (fz':=BJ m fz') (Dw outs) (c.take np) slot (K m)];split;·split;all_goals grind
    ·split;all_goals grind
end
def AVI(i:Nat)(args:List AV):Option FuncId:=
 match args[i]? with
 |some (.clo f _)=>some f
 |some (.bnd f _)=>some f
 |_=>none
def Env.YZ(E:Env)(g:FuncId)(i:Nat)(c:FuncId)(s:Spec):Env where
 spec x:=match Nat.beq x g with
  |true=>fun R args H fz slot k=>match AVI i args with
   |some c'=>match Nat.beq c' c with
    |true=>s R args H fz slot k
    |false=>E.spec x R args H fz slot k
   |.none=>Option.none
  |false=>E.spec x
 loc x:=match Nat.beq x g with
  |true=>false
  |false=>E.loc x
 HW x:=match Nat.beq x g with
  |true=>E.HW g
  |false=>E.HW x
 pan x:=match Nat.beq x g with
  |true=>.none
  |false=>E.pan x
theorem Env.Tn{P:Program}{E:Env}{g:FuncId}{i:Nat}{c:FuncId}{s:Spec}(h:BH P E)(o:BS P g s)(f:G7 s):BH P (E.YZ g i c s):=by
 refine⟨?_,⟨?_,?_⟩,fun x p a => ?_⟩;intro x;simp only[Env.YZ];cases a:Nat.beq x g with
  |false=>exact h.1 x
  |true=>have:=AZl a;subst this;intro R args H fz slot k r d;simp only at d;split at d;rename_i c' q;split at d;rename_i b;obtain⟨v,e,t,j,u,w⟩:=o R args H fz slot k r d;grind;rename_i b;obtain⟨v,e,t,j,u,w⟩:=h.1 x R args H fz slot k r d;grind;grind
 intro x a;simp only[Env.YZ]at a |-;cases b:Nat.beq x g with
  |true=>grind
  |false=>rw[b]at a;exact h.2.1.1 x a
 intro x a;simp only[Env.YZ]at a |-;cases b:Nat.beq x g with
  |true=>rw[b]at a;have:=AZl b;subst this;have j:=h.2.1.2 x a;intro R args H H' fz fz' slot k S l m n;simp only;split;split;exact f R args H H' fz fz' slot k S l m n;exact j R args H H' fz fz' slot k S l m n;rfl
  |false=>rw[b]at a;exact h.2.1.2 x a
 simp only[Env.YZ]at a |-;cases b:Nat.beq x g with
  |true=>grind
  |false=>rw[b]at a;exact h.2.2 x p a
def th:List Value->Option (List (IntKind×Int))
 |[]=>some []
 |.int k n::r=>(th r).map ((k,n) :: ·)
 |_::_=>none
def AQo:Exit->Option PV
 |.panic [⟨.iface T (.agg a),false,false⟩]=>(th a.toList).map fun l=>(T,l)
 |_=>none
def rP(T:TypeId)(a:List IntKind)(e:Exit):Option (List Int):=
 match AQo e with
 |some (T',l)=>match decide (T'=T)&&decide (l.map (·.1)=a)with
  |true=>some (l.map (·.2))
  |false=>none
 |none=>none
def AQi:List IntKind->List Int->List (IntKind×Int)
 |[],_=>[]
 |k::ks,ns=>(k,ns.headD 0)::AQi ks ns.tail
def AFg(T:TypeId)(a:List IntKind)(b:List Int):PV:=(T,AQi a b)
theorem ANx:∀ {vs:List Value} {l:List (IntKind×Int)},th vs=some l->vs=l.map fun p=>Value.int p.1 p.2:=by
 intro vs;induction vs with
  |nil=>intro l h;simp only[th,AY1]at h;grind
  |cons v vs b=>intro l h;unfold th at h;split at h;grind;rename_i k n r a;cases a;simp only[AZB]at h;grind;grind
theorem AB0{e:Exit}{p:PV}(h:AQo e=some p):e = .panic [DE p]:=by unfold AQo at h;split at h;rename_i T a;simp only[AZB]at h;obtain⟨l,b,rfl⟩:=h;have:=ANx b;simp only[DE,LY];rw[<- this];grind
theorem rN{T:TypeId}{a:List IntKind}{e:Exit}{b:List Int}(h:rP T a e=some b):e = .panic [DE (AFg T a b)]:=by
 unfold rP at h;split at h;rename_i g l d;split at h;rename_i c;simp only[AY3,AY2]at c;obtain⟨rfl,rfl⟩:=c;simp only[AY1]at h;subst h;rw[AB0 d];unfold AFg;have:∀ l:List (IntKind×Int),AQi (l.map (·.1)) (l.map (·.2))=l:=by
  intro l;induction l with
   |nil=>rfl
   |cons p l f=>simp only[AZN,AQi,Abk,Aar,f]
 rw[this];grind;grind
noncomputable section
abbrev AQZ(os:BF)(pits:A1):Type:=dY os⊕(List Int×Bf (leaves pits))
def Vv(np f:Nat)(b:A1)(os:BF)(T:TypeId)(g:List IntKind)(a:A1)(e:Exit)(st:St):Option (Bf (leaves b)⊕AQZ os a):=
 match e with
 |.normal=>match decode np f st b with
  |some d=>some (.inl d)
  |none=>none
 |.panic c=>match rP T g (.panic c)with
  |some h=>match decode np f st a with
   |some d=>some (.inr (.inr (h,d)))
   |none=>none
  |none=>none
 |e=>match Xg np f e st os with
  |some x=>some (.inr (.inl x))
  |none=>none
def AAT(b:Nat){R:Type}(T:TypeId)(c:List IntKind)(a:A1)(k:Exit->St->Option R)(os:BF):AQZ os a->Option R
 |.inl r=>cR b k os r
 |.inr q=>k (.panic [DE (AFg T c q.1)]) (encode b a q.2)
def ND[Lk](np c:Nat)(b:A1)(os:BF)(T:TypeId)(d:List IntKind)(a:A1)(step:Bf (leaves b)->Option (Bf (leaves b)⊕AQZ os a)):dZ:=fun R st k=>
 match decode np c st b with
 |none=>none
 |some v=>match A_ step many v with
  |none=>none
  |some r=>AAT c T d a k os r
def KB[Lk](P:Program)(E:Env)(h:Hints)(n np d:Nat)(c:Code)(a:A1)(os:BF)(T:TypeId)(e:List IntKind)(b:A1)(v:Bf (leaves a)):Option (Bf (leaves a)⊕AQZ os b):=
 Be P E h _ c n (encode d a v) (Vv np d a os T e b)
def DY[Lk](np:Nat)(P:Program)(E:Env)(h:Hints)(fn:Func)(b outs:A1)(rs:List RS)(T:TypeId)(d:List IntKind)(a:A1)(x:Bf (leaves b)):Option (Bf (leaves outs)⊕(List Int×Bf (leaves a))):=
 match fn.body with
 |none=>none
 |some c=>Be P E h _ c 0 (encode fn.ntmps b x) fun e st=>
  match e with
  |.normal=>match finish np P fn outs rs st with
   |some y=>some (.inl y)
   |none=>none
  |.ret=>match finish np P fn outs rs st with
   |some y=>some (.inl y)
   |none=>none
  |.panic c=>match rP T d (.panic c)with
   |some f=>match dec (lk []) st.heap a st.frz []with
    |some (z,bs,_)=>match pins np 0 bs&&(st.heap.take np).all CH with
     |true=>some (.inr (f,z))
     |false=>none
    |none=>none
   |none=>none
  |_=>none
def I5(np c:Nat)(b outs:A1)(rs:List RS)(T:TypeId)(d:List IntKind)(a:A1)(f:Bf (leaves b)->Option (Bf (leaves outs)⊕(List Int×Bf (leaves a)))):Mn:=fun R args H fz slot k kp=>
 match dec (lk args) H b fz []with
 |none=>none
 |some (x,bs,fr)=>match bs.all Bnd.ABz&&decide (bs.length=Dw b)&&decide (args.length=c)&&(HT b&&HT outs&&HT a)with
  |false=>none
  |true=>match f x with
   |none=>none
   |some (.inl y)=>Kh R (given (bs.drop np)) (bs.take np) fr rs (encode (cellsOf rs) outs y) (Df (Dw outs) (bs.take np) slot) H fz k
   |some (.inr q)=>Kh R (given (bs.drop np)) (bs.take np) fr [] (encode 0 a q.2) (Df (Dw a) (bs.take np) slot) H fz fun _ e=>kp (AFg T d q.1) e
def Dg{α β:Type}:Option (α⊕β)->Option α
 |some (.inl y)=>some y
 |_=>none
end
section
variable {P:Program} {E:Env}
theorem bl[DfI]{S:Hints}(hE:∀ g,BS P g (E.spec g))(hL:E_ E)(hP:G6 P E){np p n:Nat}{b:Code}{o:A1}{os:BF}{T:TypeId}{G:List IntKind}{f:A1}{stp:Bf (leaves o)->Option (Bf (leaves o)⊕AQZ os f)}
  (A:∀ v,stp v=KB P E S n np p b o os T G f v) (hl:B0 P np S b n):I4 P np (.loop b) (ND np p o os T G f stp):=by
 intro R st k r B;unfold ND at B;split at B;cases B;rename_i v hv;split at B;cases B;rename_i x hx;have H:∃ e st',k e st'=some r/\∀ (I:Type) (C:Exit->St->Option I),AAT p T G f C os x=C e st':=by
  cases x with
   |inl x=>exact jV os x B
   |inr q=>exact⟨_,_,B,fun _ _=>rfl⟩
 obtain⟨e,st',h1,h2⟩:=H;refine⟨e,st',h1,fun I C=>by simp only[ND,hv,hx];grind,?_⟩
 have U:∀ (i:Nat) (v:Bf (leaves o)),BA stp i v=some x->∀ (w:World) (F:Nat->Prop) (m:Mp) (a:Act) (Q:Exit->Act->World->Prop),SI w F m (encode p o v) a ->
   (∀ t w' V W,SI w' V W st' t->I3 np w F m (encode p o v).heap (encode p o v).frz w' V W st'.heap st'.frz->Q e t w')->Code.rounds P b Q i a w:=by
  intro i
  induction i with
  |zero=>intro v h;simp[BA]at h
  |succ i ih=>
   intro v h w F m a Q X O
   simp only[BA]at h
   rw[A v]at h
   cases Y:KB P E S n np p b o os T G f v with
   |none=>grind
   |some y=>
    rw[Y]at h
    unfold KB at Y
    obtain⟨u,J,s,_,g3⟩:=DZ hE hL hP b n hl _ _ _ _ Y
    show b.wp P (Exit.then (Code.rounds P b Q i) Q) a w
    refine g3 w F m a _ X fun t w' V W s1 x1 => ?_
    have fin:∀ (j:A1) (d:Bf (leaves j)),decode np p J j=some d->(∀ (I:Type) (C:Exit->St->Option I),AAT p T G f C os x=C u (encode p j d))->Q u t w':=by
     intro j d Z o2
     obtain⟨K,L,M,N⟩:=Hg s1 Z
     have e3:=(h2 (Exit×St) fun e st=>some (e,st)).symm.trans (o2 (Exit×St) fun e st=>some (e,st))
     simp only[AY1,AZI]at e3
     obtain⟨rfl,rfl⟩:=e3
     exact O t w' K L M (x1.trans N)
    have other:u≠.normal->(∀ c,u≠.panic c)->Q u t w':=by
     intro hn hp
     have D:(match Xg np p u J os with
      |some x=>some (Sum.inr (Sum.inl x))
      |none=>none)=some y:=by
      cases u<;>first|grind|exact absurd rfl (hp _)|exact s
     split at D
     ·rename_i z hz
      simp only[AY1]at D;subst D
      simp only[AY1]at h;subst h
      obtain⟨j,d,Z,o2⟩:=tC os _ hz
      exact fin j d Z o2
     grind
    cases u with
    |normal=>
     simp only[Vv]at s
     split at s
     ·rename_i d hd
      simp only[AY1]at s;subst s
      obtain⟨K,L,M,N⟩:=Hg s1 hd
      show Code.rounds P b Q i t w'
      exact ih d h w' K L t Q M fun a3 w3 F3 m3 s3 x3=>O a3 w3 F3 m3 s3 (x1.trans (N.trans x3))
     grind
    |panic c=>
     simp only[Vv]at s
     split at s
     ·rename_i ns hns
      split at s
      ·rename_i d hd
       simp only[AY1]at s;subst s
       simp only[AY1]at h;subst h
       exact fin f d hd fun I C=>by rw[rN hns];rfl
      grind
     grind
    |exit id=>exact other (by simp) (by simp)
    |goto l=>exact other (by simp) (by simp)
    |ret=>exact other (by simp) (by simp)
    |outgrown=>exact other (by simp) (by simp)
 intro w F m a Q X O;obtain⟨K,L,M,N⟩:=Hg X hv;exact wp_loop_rounds many (U many v (by rw[<- BO];exact hx) w K L a Q M fun a3 w3 F3 m3 s3 x3=>O a3 w3 F3 m3 s3 (N.trans x3))
variable {h:Hints} {g:FuncId} {fn:Func} {c:Code}
theorem rj(e:∀ g,BS P g (E.spec g))(f:E_ E)(i:G6 P E)(j:fn.body=some c){np:Nat}{a outs:A1}{rs:List RS}{T:TypeId}{k:List IntKind}{b:A1}(l:B0 P np h c 0)(x:Bf (leaves a)){y:Bf (leaves outs)}
  (d:DY np P E h fn a outs rs T k b x=some (.inl y)):Dn np P E h fn a outs rs x=some y:=by unfold DY at d;unfold Dn;rw[j]at d |-;simp only at d |-;obtain⟨m,st',n,o,_⟩:=DZ e f i c 0 l _ _ _ _ d;grind
theorem AS8(f:∀ g,BS P g (E.spec g))(i:E_ E)(j:G6 P E)(k:fn.body=some c){np:Nat}{a outs:A1}{rs:List RS}{T:TypeId}{m:List IntKind}{d:A1}(l:B0 P np h c 0)(x:Bf (leaves a)):
  Dg (DY np P E h fn a outs rs T m d x)=Dn np P E h fn a outs rs x:=by
 cases e:DY np P E h fn a outs rs T m d x with
  |some y=>
   cases y with
    |inl y=>exact(rj f i j k l x e).symm
    |inr q=>
     cases b:Dn np P E h fn a outs rs x with
      |none=>rfl
      |some y=>exfalso;unfold Dn at b;unfold DY at e;rw[k]at e b;simp only at e b;obtain⟨n,st',o,p,_⟩:=DZ f i j c 0 l _ _ _ _ b;grind
  |none=>
   cases b:Dn np P E h fn a outs rs x with
    |none=>rfl
    |some y=>exfalso;unfold Dn at b;unfold DY at e;rw[k]at e b;simp only at e b;obtain⟨n,st',o,p,_⟩:=DZ f i j c 0 l _ _ _ _ b;grind
theorem MA(hE:∀ g,BS P g (E.spec g))(hL:E_ E)(hP:G6 P E)(hf:P.funcs[g]? = some fn)(Z:fn.body=some c)(hc:Ip P g)
  {np J:Nat} (K:J<=fn.ntmps) {l outs:A1} {rs:List RS} {T:TypeId} {L:List IntKind} {b:A1} {f:Bf (leaves l)->Option (Bf (leaves outs)⊕(List Int×Bf (leaves b)))} (C:∀ x,f x=DY np P E h fn l outs rs T L b x) (hl:B0 P np h c 0) :
  H7 P g (BX np J l outs rs fun x=>Dg (f x)) (I5 np J l outs rs T L b f):=by
 intro R args H fz slot k kp r j;simp only[I5]at j;split at j;cases j;rename_i x bs fr d;split at j;cases j;rename_i t;simp only[AY3,AY2]at t;obtain⟨⟨⟨a,u⟩,n⟩,⟨o,v⟩,A⟩:=t;split at j;cases j;rename_i y p;left;obtain⟨e,M,_,_,h5,_⟩:=UH j;refine⟨_,e,M,fun R' k' N => ?_,fun R' k' => ?_⟩;simp only[I5,d,a,u,n,o,v,A,p,AZD,AaC];grind;simp only[BX,d,a,u,n,o,v,p,Dg,AZD,AaC];grind;rename_i q p;right;obtain⟨ns,z⟩:=q;simp only at j;obtain⟨e,M,O,Q,h5,S,U,V⟩:=UH j;refine⟨_,e,M,fun R' k' N => ?_,hc,fun w F m vals hi hr => ?_⟩;simp only[I5,d,a,u,n,o,v,A,p,AZD,AaC];grind;rw[C x]at p;unfold DY at p;rw[Z]at p;simp only at p;obtain⟨ex,st',B,_,g3⟩:=DZ hE hL hP c 0 hl _ _ _ _ p;have D:∃ i s,ex = .panic [DE (AFg T L ns)]/\dec (lk []) st'.heap b st'.frz []=some (z,i,s)/\pins np 0 i=true:=by
  cases ex with
   |normal=>grind
   |ret=>grind
   |panic ch=>simp only at B;split at B;rename_i ns' W;split at B;rename_i z' i s hd;split at B;rename_i I;simp only[AY1,Sum.inr.injEq,AZI]at B;obtain⟨rfl,rfl⟩:=B;rw[AY3]at I;exact⟨i,s,rN W,hd,I.1⟩;grind;grind;grind
   |_=>grind
 obtain⟨i,s,rfl,X,I⟩:=D;refine calls_of_wp hf Z ?_;obtain⟨F2,m2,gA,G,Y⟩:=R9 hi hr n K d;refine g3 w F2 m2 _ _ Y fun a' w' F' m' s1 x1 => ?_;obtain⟨F3,m3,hg,_⟩:=dL (rs:=[]) hi gA G a o A rfl rfl O Q S U V s1.heap x1 (vs:=[]) (us:=[]) Mm rfl X I;exact⟨s1.defers,rfl,F3,m3,hg⟩
theorem L9 (hE : BH P E) (hf : P.funcs[g]? = some fn) (hb : fn.body.isSome = true) (hn : (fn.name == "runtime.NumGoroutine") = false) {np na : Nat} (hna : Nat.ble na fn.ntmps = true) {its outs : A1} {rs : List RS} {T : TypeId} {ks : List IntKind} {pits : A1}
  {f:Bf (leaves its)->Option (Bf (leaves outs)⊕(List Int×Bf (leaves pits)))} (hfun:∀ x,f x=DY np P E h fn its outs rs T ks pits x) (hl:B0 P np h (B5 fn) 0):BS P g (BX np na its outs rs fun x=>Dg (f x)):=
 GW hE hf hb hn hna (fun x=>by rw[hfun];exact AS8 hE.1 hE.2.1 hE.2.2 (G2 hb) hl x) hl
def Env.ny(E:Env)(g:FuncId)(HW:Bool)(a:Spec)(s:Mn):Env where
 spec x:=match Nat.beq x g with
  |true=>a
  |false=>E.spec x
 loc x:=match Nat.beq x g with
  |true=>false
  |false=>E.loc x
 HW x:=match Nat.beq x g with
  |true=>HW
  |false=>E.HW x
 pan x:=match Nat.beq x g with
  |true=>some s
  |false=>E.pan x
theorem Env.ZN{HW:Bool}{d:Spec}{s:Mn}(h:BH P E)(i:BS P g d)(j:H7 P g d s)(e:HW=true->G7 d):BH P (E.ny g HW d s):=by
 refine⟨?_,⟨?_,?_⟩,fun x f a => ?_⟩;intro x;simp only[Env.ny];cases a:Nat.beq x g with
  |true=>simp_all
  |false=>exact h.1 x
 intro x a;simp only[Env.ny]at a |-;cases b:Nat.beq x g with
  |true=>grind
  |false=>rw[b]at a;exact h.2.1.1 x a
 intro x a;simp only[Env.ny]at a |-;cases b:Nat.beq x g with
  |true=>grind
  |false=>rw[b]at a;exact h.2.1.2 x a
 simp only[Env.ny]at a |-;cases b:Nat.beq x g with
  |true=>simp_all
  |false=>rw[b]at a;exact h.2.2 x f a
def AJO(i:Nat)(c:FuncId)(s:Mn)(a:Option Mn):Mn:=fun R args H fz slot k kp=>
 match AVI i args with
 |some c'=>match Nat.beq c' c with
  |true=>s R args H fz slot k kp
  |false=>match a with
   |some a=>a R args H fz slot k kp
   |none=>none
 |none=>none
def Env.Xx(E:Env)(g:FuncId)(i:Nat)(c:FuncId)(a:Spec)(s:Mn):Env:=
 { E.YZ g i c a with pan:=fun x=>match Nat.beq x g with
  |true=>some (AJO i c s (E.pan g))
  |false=>E.pan x }
theorem Env.uP{i:Nat}{c:FuncId}{j:Spec}{s:Mn}(h:BH P E)(C:BS P g j)(D:H7 P g j s)(y:G7 j):BH P (E.Xx g i c j s):=by
 have B:=Env.Tn (i:=i) (c:=c) h C y;refine⟨B.1,B.2.1,fun x z q => ?_⟩;simp only[Env.Xx]at q;cases w:Nat.beq x g with
  |false=>
   rw[w]at q;have e:(E.Xx g i c j s).spec x=E.spec x:=by simp only[Env.Xx,Env.YZ,w]
   rw[e];exact h.2.2 x z q
  |true=>
   rw[w]at q;have:=AZl w;subst this;simp only[AY1]at q;subst q;intro R args H fz slot k kp r t;unfold AJO at t;split at t;rename_i c' a;have e:∀ (b:Type) (f:AV->Eff->Option b),(E.Xx x i c j s).spec x b args H fz slot f=match Nat.beq c' c with
     |true=>j b args H fz slot f
     |false=>E.spec x b args H fz slot f:=by
    intro b f
    simp only[Env.Xx,Env.YZ,Nat.beq_refl,a]<;>grind
   split at t;rename_i d;rcases D R args H fz slot k kp r t with⟨v,l,m,A,u⟩|⟨p,l,m,A,u⟩
   exact .inl ⟨v,l,m,fun b f n=>by simp only[AJO,a,d];grind,fun b f=>by grind⟩;exact .inr ⟨p,l,m,fun b f n=>by simp only[AJO,a,d];grind,u⟩;rename_i d;split at t;rename_i z o;rcases h.2.2 x z o R args H fz slot k kp r t with⟨v,l,m,A,u⟩|⟨p,l,m,A,u⟩
   exact .inl ⟨v,l,m,fun b f n=>by simp only[AJO,a,d,o];grind,fun b f=>by grind⟩;exact .inr ⟨p,l,m,fun b f n=>by simp only[AJO,a,d,o];grind,u⟩;grind;grind
end
end
end Go.Pev
end
section
namespace Go.Pev
open Go.RowKit
noncomputable section
def oJ:List Oper->Option (FuncId×List Operand×Tmp)
 |[o0,o1]=>match o0.op,o0.dst,o0.guard with
  |.makeFunc (.func g) first cs,some t,none=>match o1.op,o1.dst,o1.guard with
   |.defer c,none,none=>match c.callee with
    |.value (.tmp t')=>match Nat.beq t' t&&(c.args.isEmpty&&first.isEmpty)with
     |true=>some (g,cs.toList,t)
     |false=>none
    |_=>none
   |_,_,_=>none
  |_,_,_=>none
 |_=>none
def isRec(o:Oper):Bool:=match o.op,o.guard with
 |.call { callee:=.builtin .recover,args,.. },none=>args.isEmpty
 |_,_=>false
def WB[Lk](P:Program)(E:Env)(h:Hints)(R:Type)(fnC:Func)(rv:AV)(caps:List AV)(H:List Ob)(fz:List Bool)(k:St->Option R):Option R:=
 match fnC.body with
 |some (.seq (.region _ ops false) rest)=>match ops.toList with
  |[]=>none
  | o :: os => match isRec o && (Nat.beq (loops rest) 0 && (fnC.results.toList.isEmpty && (Nat.ble caps.length fnC.ntmps && !(fnC.name == "runtime.NumGoroutine")))) with
   |false=>none
   |true=>Gj P E R (o::os) os H.length ((({ tmps:=.of caps fnC.ntmps,heap:=H,frz:=fz }:St).pad (DF (o::os))).put o.dst rv) fun st=>Be P E h R rest 0 st fun e st=>match e with
    |.normal=>k st
    |.ret=>k st
    |_=>none
 |_=>none
def M9[Lk](P:Program)(E:Env)(h:Hints)(R:Type):Nat->Code->St->(Exit->St->Option R)->(List Oper->Code->St->Option R)->Option R
 |0,.seq (.region _ ops false) b,st,_,kd=>kd ops.toList b st
 |m+1,.seq a b,st,ke,kd=>match Nat.beq (loops a) 0 with
  |true=>Be P E h R a 0 st fun e st=>match e with
   |.normal=>M9 P E h R m b st ke kd
   |e=>ke e st
  |false=>none
 |_,_,_,_,_=>none
def dN(H:List Ob):AV->Bool
 |.ptr i 0=>Gn H i
 |_=>false
def ACN(np:Nat):AV->Bool
 |.ptr i 0=>decide (i<np)
 |_=>false
def vB:Nat->Code->Code
 |0,.seq _ b=>b
 |m+1,.seq _ b=>vB m b
 |_,c=>c
def AYH(t:Tmp):Operand->Bool
 |.tmp t' => !(Nat.beq t' t)
 |_=>true
def RT[Lk](P:Program)(E:Env)(fn:Func)(m:Nat)(j outs:A1)(rs:List RS)(n o k:Hints)(d:A1)(l:Nat)(x:Bf (leaves j)):Option (Bf (leaves outs)):=
 match fn.body with
 |none=>none
 |some c=>M9 P E n _ m c (encode fn.ntmps j x)
  (fun e st=>match e with
   |.ret=>finish 0 P fn outs rs st
   |_=>none)
  fun ops b st=>match oJ ops with
   |none=>none
   |some (g,cs,t)=>match P.funcs[g]? with
    |none=>none
    |some i=>match decode 0 fn.ntmps (st.put (some t) (.clo g (cs.map (Bc st.tmps)))) d with
     |none=>none
     |some v=>match(Nat.blt t fn.ntmps&&cs.all (AYH t))&&(cs.map (Bc (encode fn.ntmps d v).tmps)).all fun a=>ACN l a&&dN (encode fn.ntmps d v).heap a with
      |false=>none
      |true=>Be P E o _ b 0 (encode fn.ntmps d v) fun e f=>match(cs.map (Bc (encode fn.ntmps d v).tmps)).all (dN f.heap)with
       |false=>none
       |true=>match e with
        |.normal=>WB P E k _ i (.ifc none) (cs.map (Bc (encode fn.ntmps d v).tmps)) f.heap f.frz fun h=>finish 0 P fn outs rs { tmps:=f.tmps,heap:=h.heap,frz:=h.frz }
        |.ret=>WB P E k _ i (.ifc none) (cs.map (Bc (encode fn.ntmps d v).tmps)) f.heap f.frz fun h=>finish 0 P fn outs rs { tmps:=f.tmps,heap:=h.heap,frz:=h.frz }
        |.panic q=>match AQo (.panic q)with
         |some p=>WB P E k _ i (.ifc (some p)) (cs.map (Bc (encode fn.ntmps d v).tmps)) f.heap f.frz fun h=>finish 0 P fn outs rs { tmps:=f.tmps,heap:=h.heap,frz:=h.frz }
         |none=>none
        |_=>none
end
section
variable {P:Program} {E:Env} {h:Hints}
theorem yG{R:Type}{r:R}(M:∀ g,BS P g (E.spec g)){ops:Array Oper}{Q:Exit->Act->List Frame->World->Prop}{cs:List Frame}{k:St->Option R}:∀ (b c:List Oper) (slot:Nat) (st:St) (w:World) (F:Nat->Prop) (m:Mp) (a:Act),ops.toList=c++b ->
  Gj P E R ops.toList b slot st k=some r->SI w F m st a->(∀ f w',AUt r k w F m st.heap st.frz f w'->Q .normal f cs w')->wpOpsS P ops Q (List.range' c.length b.length) a cs w:=by
 intro b;induction b with
  |nil=>intro c slot st w F m a _ h y t;exact t a w ⟨st,F,m,h,y,Ext.refl ..⟩
  |cons o b I=>
   intro c slot st w F m a q h y t;simp only[Gj]at h;have s:ops[c.length]? = some o:=by rw[<- AaE,q];simp
   have d:ops.toList=(c++[o])++b:=by grind
   have J:(c++[o]).length=c.length+1:=by simp
   rw[AZC,Aai];simp only[wpOpsS,s];obtain⟨st',i,z,A,N⟩:=Rx y h;rcases N with⟨B,O⟩|⟨B,S⟩
   rw[AZA B];obtain⟨v,e,T,_,U⟩:=FL M o.op R _ _ _ _ _ _ _ O;have j:o.wp P a w (fun f w'=>wpOpsS P ops Q (List.range' (c.length+1) b.length) f cs w') (fun e f w'=>Q e f cs w'):=by
    refine U w F m a o _ _ rfl rfl i.heap (fun x=>Fi i.tmps x) fun u w' V W K X => ?_;have l:=(i.go K).put X o.dst;have:=I (c++[o]) _ _ w' V W (a.put o.dst u) d T l fun f n ⟨p,C,D,G,H,Y⟩=>t f n ⟨p,C,D,G,H,by
     have L:=K.1;rw[z,A]at L;refine L.trans ?_;have:((st'.app e).put o.dst v).heap=C9 e st.heap/\((st'.app e).put o.dst v).frz=FT e st.frz:=by cases o.dst<;>simp[St.put,St.app,z,A]
     grind⟩
    grind
   unfold Oper.wp at j;generalize (execOp a.eval o).run P w=res at j |-;split;simp[Oper.upon]at j;omega;rw[AY7 (by simp[B])];have l:SI w F m (st'.put o.dst CS) (a.put o.dst undef):=i.put Sk o.dst;have:=I (c++[o]) _ _ w F m (a.put o.dst undef) d S l fun f n ⟨p,C,D,G,H,Y⟩=>t f n ⟨p,C,D,G,H,by
    have:(st'.put o.dst CS).heap=st.heap/\(st'.put o.dst CS).frz=st.frz:=by cases o.dst<;>simp[St.put,z,A]
    grind⟩
   grind
theorem I3.ext{w:World}{F:Nat->Prop}{m:Mp}{H:List Ob}{fz:List Bool}{w':World}{a:Nat->Prop}{b:Mp}{H':List Ob}{fz':List Bool}(x:I3 H.length w F m H fz w' a b H' fz'):Ext w F m H fz w' a b H' fz':=
 ⟨x.os,x.tape,x.output,x.size,x.keep,x.sub,x.bnd,x.own,fun i o c d=>x.comp i o (BW c) c d⟩
theorem I3.AYf{np:Nat}{w:World}{F:Nat->Prop}{m:Mp}{H:List Ob}{fz:List Bool}{w':World}{a:Nat->Prop}{b:Mp}{H':List Ob}{fz':List Bool}(x:I3 np w F m H fz w' a b H' fz'):I3 0 w F m H fz w' a b H' fz':=
 ⟨x.os,x.tape,x.output,x.size,x.keep,x.sub,x.bnd,x.own,fun i o h=>absurd h (Nat.not_lt_zero _)⟩
theorem AFz(U:∀ g,BS P g (E.spec g))(hL:E_ E)(hP:G6 P E){R:Type}{r:R}{g:FuncId}{b:Func}{I:AV}{d:List AV}{H:List Ob}{fz:List Bool}{k:St->Option R}(hf:P.funcs[g]? = some b)(y:WB P E h R b I d H fz k=some r):
  ∃ a,k a=some r/\Ip P g/\∀ (w:World) (F:Nat->Prop) (m:Mp) (c:List Value) (u:FrameMode),HI w F m H fz->BD w F m H d c->((u = .returning/\I = .ifc none)\/∃ p,u = .panicking [DE p]/\I = .ifc (some p)) ->
   CallsD P g c.toArray u w fun q f w'=>(∃ v,q = .returned v)/\settle f = .returning/\∃ j l,BT w F m H fz w' j l a.heap a.frz:=by
 unfold WB at y;split at y;rename_i id ops i hb;split at y;cases y;rename_i o os s;split at y;cases y;rename_i hc;simp only[AY3]at hc;obtain⟨K,z,hres,L,hnm⟩:=hc;have z:=AZl z;have L:=AZn L;obtain⟨M,h1,h2⟩:=bC U _ _ _ _ y;obtain⟨e,a,g1,_,g3⟩:=DZ U hL hP (np:=M.heap.length) i 0 (Nh i 0 z) R _ _ r h1;have x:k a=some r/\(e = .normal\/e = .ret):=by grind
 refine⟨a,x.1,Cj hf (by grind) (by grind),fun w F m c u hi hr hu => ?_⟩;have N:=Bd hr;have V:SI w F m { tmps:=.of d b.ntmps,heap:=H,frz:=fz } { tmps:=c.toArray++Array.replicate (b.ntmps-c.toArray.size) undef,defers:=[] }:=by refine⟨fun t => ?_,?_,hi,rfl⟩;have:=lN hr (b.ntmps-d.length) t;simp only[AaT,N];exact this;simp[N,Tm.of];omega
 obtain⟨W,X⟩:=V.pad (DF (o::os));refine callsD_of_wpS hf hb fun n cs O => ?_;refine wpS_seq (wpS_region ?_);have A:o.guard=none/\∃ args ts,o.op = .call { callee:=.builtin .recover,args:=args,argTypes:=ts }/\args.isEmpty=true:=by unfold isRec at K;grind
 obtain⟨hg,args,ts,A,Y⟩:=A;have B:ops.size=os.length+1:=by rw[<- AZV,s];rfl
 have h0:ops[0]? = some o:=by rw[<- AaE,s];rfl
 rw[B,Aax,Aai];simp only[wpOpsS,h0];rw[AZA (by simp[Region.wanted,hg])];have S:(execOp (Act.eval { tmps:=c.toArray++Array.replicate (b.ntmps-c.toArray.size) undef,defers:=[] }) o).run P w = .ok .recover w:=by
  have ha:args = #[]:=by grind
  subst ha;simp[execOp,A,resolve,invoke,builtin]
 rw[S];simp only
 have go:∀ (v:Value) (J:Frame) (f:FrameMode),Rep w F m ((St.pad { tmps:=.of d b.ntmps,heap:=H,frz:=fz } (DF (o::os))).heap) I v->J = { n with mode:=f }->settle f = .returning ->
   wpOpsS P ops (Exit.thenS (i.wpS P (bodyPostS P b n cs fun q f w'=>(∃ v,q = .returned v)/\settle f = .returning/\∃ j l,BT w F m H fz w' j l a.heap a.frz)) (bodyPostS P b n cs fun q f w'=>(∃ v,q = .returned v)/\settle f = .returning/\∃ j l,BT w F m H fz w' j l a.heap a.frz))
    (List.range' 1 os.length) (Act.put { tmps:=c.toArray++Array.replicate (b.ntmps-c.toArray.size) undef,defers:=[] } o.dst v) (J::cs) w:=by
  intro v J f Z hc1 hst
  have hs3:=W.put Z o.dst
  have h3:Gj P E St ops.toList os H.length ((St.pad { tmps:=.of d b.ntmps,heap:=H,frz:=fz } (DF (o::os))).put o.dst I) some=some M:=by
   grind
  have:=yG (cs:=J::cs) U os [o] _ _ w F m _ (by grind) h3 hs3 (Q:=(Exit.thenS (i.wpS P (bodyPostS P b n cs fun q f w'=>(∃ v,q = .returned v)/\settle f = .returning/\∃ j l,BT w F m H fz w' j l a.heap a.frz)) (bodyPostS P b n cs fun q f w'=>(∃ v,q = .returned v)/\settle f = .returning/\∃ j l,BT w F m H fz w' j l a.heap a.frz))) fun a' w' hp => ?_
  ·omega
  ·obtain⟨st',j,l,e1,s1,x1⟩:=hp
   cases e1
   show i.wpS P _ a' (J::cs) w'
   refine wpS_of_wp (g3 w' j l a' _ s1 fun a2 T F2 m2 s2 x2 => ?_)
   have hx:Ext w F m H fz T F2 m2 a.heap a.frz:=by
    have hh:=Fb (St.pad { tmps:=.of d b.ntmps,heap:=H,frz:=fz } (DF (o::os))) o.dst I
    rw[hh.1,hh.2]at x1
    exact X.trans (x1.trans x2.ext)
   have C:b.results.toList=[]:=by grind
   obtain⟨us,r1,_⟩:=M6 (P:=P) s2 (fn:=b) (vs:=[]) (by rw[C];rfl)
   have D:a2.defers=[]/\∃ f,(J::cs:List Frame) = { n with mode:=f }::cs/\∃ v,(results b a2.tmps).run P T = .ok v T/\((∃ v',Ending.returned v = .returned v')/\settle f = .returning/\∃ j l,BT w F m H fz T j l a.heap a.frz):=
    ⟨s2.defers,f,by rw[hc1],_,r1,⟨_,rfl⟩,hst,F2,m2,hx,s2.heap⟩
   rcases x.2 with rfl|rfl<;>exact D
 rcases hu with⟨rfl,rfl⟩|⟨p,rfl,rfl⟩
 have G:recoverD (n::cs)=none:=by simp[recoverD,O]
 rw[G];simp only;exact go .nilIface n .returning (by unfold Rep;rfl) (by cases n;grind) rfl;have G:recoverD (n::cs)=some (LY (some p),{ n with mode:=.panicking [{ v:=LY (some p),recovered:=true }] }::cs):=by simp[recoverD,O,DE]
 rw[G];simp only;exact go _ _ (.panicking [{ v:=LY (some p),recovered:=true }]) (by unfold Rep;rfl) rfl rfl;grind
theorem AFx(L:∀ g,BS P g (E.spec g))(M:E_ E)(N:G6 P E){R:Type}{r:R}{v:Exit->St->Option R}{J:List Oper->Code->St->Option R}:∀ (m:Nat) (c:Code) (st:St),M9 P E h R m c st v J=some r ->
  (∃ e st',e≠.normal/\v e st'=some r/\AYb P 0 c st e st') \/
  (∃ id ops b st',J ops.toList b st'=some r/\vB m c=b/\∀ (w:World) (F:Nat->Prop) (m:Mp) (a:Act) (Q:Exit->Act->World->Prop),SI w F m st a ->
   (∀ i w' j k,SI w' j k st' i->I3 0 w F m st.heap st.frz w' j k st'.heap st'.frz->(Code.seq (.region id ops false) b).wp P Q i w')->c.wp P Q a w):=by
 intro m;induction m with
  |zero=>
   intro c st f;cases c with
    |seq a b=>cases a with
     |region id ops s=>cases s with
      |false=>
       simp only[M9]at f
       exact .inr ⟨id,ops,b,st,f,rfl,fun w F m a Q l n=>n a w F m l (I3.refl ..)⟩
      |true=>simp[M9]at f
     |_=>simp[M9]at f
    |_=>simp[M9]at f
  |succ m O=>
   intro c st f;cases c with
    |seq a b=>
     simp only[M9]at f;split at f;rename_i o;have o:=AZl o;obtain⟨e,p,S,_,x⟩:=DZ L M N (np:=0) a 0 (Nh a 0 o) R _ _ r f;by_cases K:e = .normal;subst K;rcases O b p S with⟨T,q,y,z,U⟩|⟨id,ops,b',q,y,V,z⟩
     refine .inl ⟨T,q,y,z,fun w F m d Q l n=>wp_seq ?_⟩;refine x w F m d _ l fun i w' j k t u => ?_;exact U w' j k i Q t fun A B C D G H=>n A B C D G (u.trans H);refine .inr ⟨id,ops,b',q,y,V,fun w F m d Q l n=>wp_seq ?_⟩;refine x w F m d _ l fun i w' j k t u => ?_;exact z w' j k i Q t fun A B C D G H=>n A B C D G (u.trans H);have I:v e p=some r:=by grind
     refine .inl ⟨e,p,K,I,fun w F m d Q l n=>wp_seq ?_⟩;refine x w F m d _ l fun i w' j k t u => ?_;have:=n i w' j k t u;cases e<;>first|grind|exact this
     grind
    |_=>simp[M9]at f
variable {g0:FuncId} {fn:Func} {c:Code}
theorem oI{ops:List Oper}{g:FuncId}{cs:List Operand}{t:Tmp}(h:oJ ops=some (g,cs,t)):∃ a b,ops=[a,b]/\a.guard=none/\a.dst=some t/\(∃ d fst,a.op = .makeFunc (.func g) fst d/\fst.toList=[]/\d.toList=cs) /\
  b.guard=none/\b.dst=none/\∃ args ts,b.op = .defer { callee:=.value (.tmp t),args:=args,argTypes:=ts }/\args.toList=[]:=by
 unfold oJ at h;split at h;rename_i a b;split at h;rename_i i first f t' j k l
 split at h;rename_i cl m n o;split at h;rename_i p q;split at h;rename_i e;simp only[AY3]at e;simp only[AY1,AZI]at h;obtain⟨rfl,rfl,rfl⟩:=h;have:=AZl e.1;subst this;obtain⟨callee,args,ts⟩:=cl;grind;grind;grind;grind;grind;grind
theorem yD{np:Nat}{H:List Ob}{v:AV}(h:(ACN np v&&dN H v)=true):∃ i cs,v = .ptr i 0/\i<np/\H[i]? = some (.box cs):=by rw[AY3]at h;obtain⟨a,b⟩:=h;unfold ACN at a;split at a;rename_i i;refine⟨i,?_⟩;simp only[AY2]at a;simp only[dN,Gn]at b;grind;grind
theorem AJd{np:Nat}{w w':World}{F g:Nat->Prop}{m j:Mp}{H H':List Ob}{fz fz':List Bool}(x:I3 np w F m H fz w' g j H' fz'):∀ {vs:List AV} {us:List Value},(vs.all fun a=>ACN np a&&dN H a)=true->vs.all (dN H')=true->BD w F m H vs us->BD w' g j H' vs us:=by
 intro vs;induction vs with
  |nil=>intro us _ _ h;unfold BD at *;exact h
  |cons v vs o=>
   intro us b d h;simp only[List.all_cons]at b d;rw[AY3]at b d;unfold BD at h |-;obtain⟨u,e,rfl,k,p⟩:=h;refine⟨u,e,rfl,?_,o b.2 d.2 p⟩;obtain⟨i,cs,rfl,hi,l⟩:=yD b.1;have n:=d.1;simp only[dN,Gn]at n;split at n
   ·rename_i q f;unfold Rep Hl at k |-;rw[l]at k;rw[f];rcases x.comp i _ hi l (by simp)with r|⟨_,o',r,s,t,_⟩
    all_goals grind
   grind
theorem tJ(hE:∀ g,BS P g (E.spec g))(hL:E_ E)(hP:G6 P E)(hf:P.funcs[g0]? = some fn)(hb:fn.body=some c)(hc:Ip P g0)
  {m:Nat} {na:Nat} (hna:na<=fn.ntmps) {s outs:A1} {rs:List RS} {hA hB hC:Hints} {j:A1} {npB:Nat} {f:Bf (leaves s)->Option (Bf (leaves outs))} (hfun:∀ x,f x=RT P E fn m s outs rs hA hB hC j npB x)
  (hl:∀ [DfI],B0 P npB hB (vB m c) 0):BS P g0 (BX 0 na s outs rs f):=by
 intro R args H fz slot k r K;simp only[BX]at K;split at K;cases K;rename_i x bs fr O;split at K;cases K;rename_i Q;simp only[AY3,AY2]at Q;obtain⟨⟨⟨l,hbl⟩,hal⟩,hri,hro⟩:=Q;split at K;cases K;rename_i y hy;generalize S:Df (Dw outs) (bs.take 0) slot=ids at K;generalize hgv:given (bs.drop 0)=gv at K;obtain⟨e,h4,he1,he2,h5,hok,hnd,hfl⟩:=UH K;refine⟨_,e,h4,fun R' k' => ?_,hc,fun w F mm vals hi hr => ?_⟩;simp only[BX,O,l,hbl,hal,hri,hro,hy,AZD,AaC,S,hgv];grind;rw[hfun x]at hy;unfold RT at hy;rw[hb]at hy;simp only at hy;refine calls_of_wp_defers hf hb ?_;obtain⟨F2,m2,gA,invA,hsi⟩:=R9 hi hr hal hna O
 have fin:∀ (w':World) (o:Nat->Prop) (q:Mp) (st':St) (tm:Array Value),SI w' o q st' { tmps:=tm,defers:=[] }->I3 0 w F2 m2 (encode fn.ntmps s x).heap (encode fn.ntmps s x).frz w' o q st'.heap st'.frz->finish 0 P fn outs rs st'=some y ->
   Leaves P fn tm (fun en w'=>∃ u,en = .returned u/\∃ o q,BT w F mm H fz w' o q (C9 e H) (FT e fz)/\Rep w' o q (C9 e H) (single (FD rs (Km ids (encode (cellsOf rs) outs y).tmps.list))) u) [] .returning w':=by
  intro w' o q st' tm hs x1 hfin
  obtain⟨vs,tm',bs',fr',hvs,htm,hd',hp⟩:=Xv hfin
  rw[AY3]at hp
  obtain⟨us,r1,r2⟩:=M6 hs hvs
  exact⟨_,r1,_,rfl,dL hi gA invA l hri hro S hgv he1 he2 hok hnd hfl hs.heap x1 r2 htm hd' hp.1⟩
 rcases AFx hE hL hP m c _ hy with⟨ex,st',M,hke,A⟩|⟨id,ops,b,st',i,hcb,A⟩
 have hex:ex = .ret/\finish 0 P fn outs rs st'=some y:=by grind
 obtain⟨rfl,hke⟩:=hex;refine A w F2 m2 _ _ hsi fun d w' o q T x1 => ?_;show Leaves P fn d.tmps _ d.defers .returning w';rw[show d.defers=[]from T.defers];exact fin w' o q st' d.tmps ⟨T.tmps,T.size,T.heap,rfl⟩ x1 hke;split at i;cases i;rename_i g cs t hdf;split at i;cases i;rename_i fnC hfC;split at i;cases i;rename_i v hv;split at i;cases i;rename_i B;rw[AY3,AY3]at B;obtain⟨⟨htn,hnt⟩,hcap⟩:=B;refine A w F2 m2 _ _ hsi fun d w' o q T x1 => ?_;obtain⟨o0,o1,C,hg0,hd0,⟨a,fst,hop0,hfst,hcs⟩,hg1,hd1,U,ts1,hop1,hargs1⟩:=oI hdf;have V:ops.size=2:=by rw[<- AZV,C];rfl
 have h0:ops[0]? = some o0:=by rw[<- AaE,C];rfl
 have h1:ops[1]? = some o1:=by rw[<- AaE,C];rfl
 have W:fst = #[]:=by grind
 have G:U = #[]:=by grind
 subst W;subst G;subst hcs;have X:(execOp d.eval o0).run P w' = .ok (.value (.func (.func g) #[] (a.map d.eval))) w':=by simp[execOp,hop0,Instr.makeFunc]
 have hcr:BD w' o q st'.heap (a.toList.map (Bc st'.tmps)) (a.map d.eval).toList:=dR (fun x=>Fi T.tmps x) a;have hrc:Rep w' o q st'.heap (.clo g (a.toList.map (Bc st'.tmps))) (.func (.func g) #[] (a.map d.eval)):=by unfold Rep;grind
 have s2:=T.put hrc (some t);obtain⟨F3,m3,s3,x3⟩:=Hg s2 hv;have hev:(d.put (some t) (.func (.func g) #[] (a.map d.eval))).eval (.tmp t) = .func (.func g) #[] (a.map d.eval):=by
  have h1:t<d.tmps.size:=by
   have h2:(st'.put (some t) (.clo g (a.toList.map (Bc st'.tmps)))).tmps.n=fn.ntmps:=by unfold decode at hv;grind
   rw[<- T.size];rw[show st'.tmps.n=fn.ntmps from h2];simp_all
  simp[Act.eval,Act.put,h1]
 have Y:(execOp (d.put (some t) (.func (.func g) #[] (a.map d.eval))).eval o1).run P w' = .ok (.defer { target:=.fn (.func g) (a.map d.eval),args:=#[] }) w':=by simp[execOp,hop1,resolve,hev,Deferred.ofValue]
 refine wp_seq (wp_region ?_);rw[V];refine Mr h0 hg0 (C5 X ?_);rw[hd0];refine Mr h1 hg1 ?_;unfold Oper.wp;rw[Y,Oper.upon_defer,hd1];have e0:(d.put (some t) (.func (.func g) #[] (a.map d.eval))).defers=[]:=s2.defers;have s3t:=s3.tmps;have s3s:=s3.size;have s3h:=s3.heap;letI D:DfI:=⟨[{ target:=.fn (.func g) (a.map d.eval),args:=#[] }]⟩
 have s4:@SI D w' F3 m3 (encode fn.ntmps j v) { (d.put (some t) (.func (.func g) #[] (a.map d.eval)))with defers:={ target:=.fn (.func g) (a.map d.eval),args:=#[] }::(d.put (some t) (.func (.func g) #[] (a.map d.eval))).defers }:=
  @SI.mk D _ _ _ _ _ s3t s3s s3h (by rw[e0];rfl)
 obtain⟨ex,N,g1,_,g3⟩:=DZ hE hL hP b 0 (hcb▸hl) _ _ _ _ i;have Z:BD w' F3 m3 (encode fn.ntmps j v).heap (a.toList.map (Bc (encode fn.ntmps j v).tmps)) (a.map d.eval).toList:=by
  have h1:a.map d.eval=a.map (d.put (some t) (.func (.func g) #[] (a.map d.eval))).eval:=by
   apply Array.map_congr_left;intro z hz;rw[AZR]at hnt;have:=hnt z (by grind);cases z with
    |tmp t'=>
     have M:t≠t':=by rintro rfl;simp[AYH]at this
     simp[Act.eval,Act.put,Array.getElem?_setIfInBounds_ne M]
    |_=>rfl
  rw[h1];exact dR (fun x=>Fi s3t x) a
 refine g3 w' F3 m3 _ _ s4 fun L w2 F4 m4 s5 x5 => ?_;split at g1;cases g1;rename_i hal2
 have closing:∀ (rv:AV) (u:FrameMode),u≠.run->((u = .returning/\rv = .ifc none)\/∃ p,u = .panicking [DE p]/\rv = .ifc (some p)) ->
   WB P E hC _ fnC rv (a.toList.map (Bc (encode fn.ntmps j v).tmps)) N.heap N.frz (fun I=>finish 0 P fn outs rs { tmps:=N.tmps,heap:=I.heap,frz:=I.frz })=some y ->
   Leaves P fn L.tmps (fun en w'=>∃ u,en = .returned u/\∃ o q,BT w F mm H fz w' o q (C9 e H) (FT e fz)/\Rep w' o q (C9 e H) (single (FD rs (Km ids (encode (cellsOf rs) outs y).tmps.list))) u) [{ target:=.fn (.func g) (a.map d.eval),args:=#[] }] u w2:=by
  intro rv u M hmode hclo
  obtain⟨I,k1,kc,k2⟩:=AFz hE hL hP hfC hclo
  refine leaves_cons (f:=g) (args:=a.map d.eval) M (by simp[invoke,kc _ w2]) ?_
  have J:=k2 w2 F4 m4 _ u s5.heap (AJd x5 hcap hal2 Z) hmode
  rw[AbC]at J
  refine J.mono fun en u' w3 ⟨⟨v',hen⟩,hset,F5,m5,hgo⟩ => ?_
  subst hen
  show Leaves P fn L.tmps _ [] (settle u') w3
  rw[hset]
  refine fin w3 F5 m5 { tmps:=N.tmps,heap:=I.heap,frz:=I.frz } L.tmps (@SI.mk noDf _ _ _ _ _ (fun t=>hgo.1.rep s5.heap (s5.tmps t)) s5.size hgo.2 rfl) ?_ k1
  exact x1.trans (x3.trans (x5.AYf.trans (hgo.1.toN 0)))
 have hdf2:L.defers=[{ target:=.fn (.func g) (a.map d.eval),args:=#[] }]:=s5.defers;cases ex with
  |normal=>show Leaves P fn L.tmps _ L.defers .returning w2;grind
  |ret=>show Leaves P fn L.tmps _ L.defers .returning w2;grind
  |panic ch=>simp only at g1;split at g1;rename_i p hp;have:=AB0 hp;simp only[Exit.panic.injEq]at this;subst this;show Leaves P fn L.tmps _ L.defers (.panicking [DE p]) w2;grind;grind
  |_=>grind
end
theorem DR[DfI]{P:Program}{np:Nat}{h:Hints}:∀ (c:Code) (n:Nat),loops c=0->B0 P np h c n:=by
 intro c;induction c with
  |seq a b e f=>intro n d;simp only[loops]at d;exact⟨e n (by omega),f _ (by omega)⟩
  |cond c a b e f=>intro n d;simp only[loops]at d;exact⟨e n (by omega),f _ (by omega)⟩
  |block id c g=>intro n d;simp only[loops]at d;exact g n d
  |scope c g=>intro n d;simp only[loops]at d;exact g n d
  |loop c g=>intro n d;simp only[loops]at d;omega
  |_=>intro n _;trivial
def XI[DfI](P:Program)(np:Nat)(h:Hints):List (Nat×Code)->Prop
 |[]=>True
 |p::l=>I4 P np (.loop p.2) (h.loop p.1)/\XI P np h l
theorem dy[DfI]{P:Program}{np:Nat}{h:Hints}:∀ {a b:List (Nat×Code)},XI P np h (a++b)->XI P np h a/\XI P np h b:=by
 intro a;induction a with
  |nil=>exact fun h=>⟨trivial,h⟩
  |cons p a c=>intro b h;exact⟨⟨h.1,(c h.2).1⟩,(c h.2).2⟩
theorem pG[DfI]{P:Program}{np:Nat}{h:Hints}:∀ (c:Code) (n:Nat),XI P np h (Ca c n)->B0 P np h c n:=by
 intro c;induction c with
  |seq a b e f=>intro n d;have:=dy d;exact⟨e n this.1,f _ this.2⟩
  |cond c a b e f=>intro n d;have:=dy d;exact⟨e n this.1,f _ this.2⟩
  |block id c g=>intro n d;exact g n d
  |scope c g=>intro n d;exact g n d
  |loop c g=>intro n d;exact d.1
  |_=>intro n _;trivial
theorem YC[DfI]{P:Program}{np:Nat}{h:Hints}{c:Code}{n:Nat}{l:List (Nat×Code)}(e:Ca c n=l)(a:XI P np h l):B0 P np h c n:=pG c n (by grind)
def Tj:List (Nat×List (List Nat))->Nat->List (List Nat)
 |[],_=>[]
 |(k,x)::l,n=>match Nat.beq k n with
  |true=>x
  |false=>Tj l n
end Go.Pev
end
section
namespace Go.Pev
open Go.RowKit
noncomputable section
noncomputable def PK(n:Nat):Spec:=fun R args _ _ _ k=>
 match args with
 |[.data (.slice e) xs]=>match decide (e.size=n)with
  |true=>k (.clip e xs) {}
  |false=>none
 |_=>none
structure kE(P:Program)(fn:Func)(T e:TypeId)(n:Nat):Prop where
 body:fn.body=some (.seq (.region 0 #[CZ fn 0 0] false) (.seq (.region 1 #[CZ fn 1 0,CZ fn 1 1,CZ fn 1 2,CZ fn 1 3,CZ fn 1 4,CZ fn 1 5,CZ fn 1 6] false) .ret))
 nt:fn.ntmps=9
 res:fn.results = #[.tmp 2]
 d:(CZ fn 0 0).dst=some 2/\(CZ fn 1 0).dst=some 3/\(CZ fn 1 1).dst=some 4/\(CZ fn 1 2).dst=some 5/\(CZ fn 1 3).dst=some 6/\(CZ fn 1 4).dst=some 7/\(CZ fn 1 5).dst=some 8/\(CZ fn 1 6).dst=some 2
 g:(CZ fn 0 0).guard=none/\(CZ fn 1 0).guard=none/\(CZ fn 1 1).guard=none/\(CZ fn 1 2).guard=none/\(CZ fn 1 3).guard=none/\(CZ fn 1 4).guard=none/\(CZ fn 1 5).guard=none/\(CZ fn 1 6).guard=none
 o00:(CZ fn 0 0).op = .assign (.const (.slice none 0 0))
 o10:(CZ fn 1 0).op = .move (.tmp 0)
 o11:(CZ fn 1 1).op = .move (.tmp 0)
 o12:(CZ fn 1 2).op = .call { callee:=.builtin .len,args:=#[.tmp 4],argTypes:=#[T] }
 o13:(CZ fn 1 3).op = .move (.tmp 0)
 o14:(CZ fn 1 4).op = .call { callee:=.builtin .len,args:=#[.tmp 6],argTypes:=#[T] }
 o15:(CZ fn 1 5).op = .slice T (.tmp 3) none (some (.tmp 5)) (some (.tmp 7))
 o16:(CZ fn 1 6).op = .assign (.tmp 8)
 sl:P.underlying T=some (.slice e)
 sz:CM P e=some n
section
variable {P:Program} {g:FuncId} {fn:Func} {T e:TypeId} {n:Nat}
theorem AUV (hs : kE P fn T e n) (hf : P.funcs[g]? = some fn) (hn : (fn.name == "runtime.NumGoroutine") = false) : BS P g (PK n) := by
 intro R args H fz slot k r hk;unfold PK at hk;split at hk;rename_i t xs;split at hk;rename_i hsz;refine⟨_,_,hk,fun R' k'=>by simp only[PK,hsz],Cj hf (by rw[hs.body];rfl) hn,fun w F m vals hi hr => ?_⟩;simp only[AY2]at hsz;obtain⟨i,hi0,hsz'⟩:=By hs.sz;unfold BD at hr;obtain⟨v,vs',rfl,hrv,hnil⟩:=hr;unfold BD at hnil;subst hnil;have hrv:Dat w F (.slice t) xs [v]:=hrv;obtain⟨a,cap,e1,e2,e3⟩:=hrv;simp only[AZb,AbZ]at e1;subst e1;refine calls_of_wp hf hs.body ?_;obtain⟨d0,d1,d2,d3,d4,d5,d6,d7⟩:=hs.d;obtain⟨g0,g1,g2,g3,g4,g5,g6,g7⟩:=hs.g;have hres:∀ (tm:Array Value) (w0:World),(results fn tm).run P w0 = .ok (tm.getD 2 undef) w0:=fun tm w0=>by simp[results,hs.res]
 refine wp_seq (wp_region ?_);simp only[AaT,AZC,AZP,AZo,AbL,AZk];refine DL (by rfl) g0 (C5 (IY hs.o00) ?_);refine wp_seq (wp_region ?_);simp only[AaT,AZC,AZP,AZo,AbL,AZk,AZe];refine DL (by rfl) g1 (C5 (MU hs.o10) ?_);refine DL (by rfl) g2 (C5 (MU hs.o11) ?_);refine DL (by rfl) g3 (C5 (u:=.int .i64 (List.length (α:=t.den) xs)) (w':=w) (by simp[execOp,hs.o12,resolve,invoke,builtin,Act.eval,Act.put,d0,d1,d2,hs.nt,CX hs.sl]) ?_);refine DL (by rfl) g4 (C5 (MU hs.o13) ?_);refine DL (by rfl) g5 (C5 (u:=.int .i64 (List.length (α:=t.den) xs)) (w':=w) (by simp[execOp,hs.o14,resolve,invoke,builtin,Act.eval,Act.put,d0,d1,d2,d3,d4,hs.nt,CX hs.sl]) ?_);have hrun:=ON (P:=P) (w:=w) (kh:=.i64) (km:=.i64) hs.sl hi0 a (List.length (α:=t.den) xs) cap (l:=0) (h:=(List.length (α:=t.den) xs:Int)) (.inl ⟨rfl,rfl⟩) (by omega) (by omega) (by omega);refine DL (by rfl) g6 (C5 (u:=.slice a (List.length (α:=t.den) xs) (List.length (α:=t.den) xs)) (w':=w) (by simp[execOp,hs.o15,Act.eval,Act.put,d0,d1,d2,d3,d4,d5,hs.nt,hrun];intro _;cases a<;>rfl) ?_)
 refine DL (by rfl) g7 (C5 (IY hs.o16) ?_);refine wp_ret ?_;refine⟨by simp[Act.put,d0,d1,d2,d3,d4,d5,d6,d7],_,hres _ _,?_⟩;refine⟨_,rfl,F,m,BT.refl hi,?_⟩;have:Rep w F m H (.clip t xs) (.slice a (List.length (α:=t.den) xs) (List.length (α:=t.den) xs)):=by unfold Rep;exact⟨⟨a,_,rfl,AY8 _,e3⟩,a,rfl⟩
 show Rep _ _ _ H _ _;simpa [Act.put,Act.eval,d0,d1,d2,d3,d4,d5,d6,d7,hs.nt]using this;grind;grind
theorem PJ(n:Nat):Hm (PK n):=fun _ _ _ _ _ _ _ _ _=>rfl
end
abbrev Tab:=Nat->A1×BF
def E2[Lk](P:Program)(E:Env)(np d:Nat)(tab:Tab):Code->Nat->Hints->Hints
 |.seq a b,n,h=>E2 P E np d tab a n (E2 P E np d tab b (n+loops a) h)
 |.cond _ a b,n,h=>E2 P E np d tab a n (E2 P E np d tab b (n+loops a) h)
 |.block _ c,n,h=>E2 P E np d tab c n h
 |.scope c,n,h=>E2 P E np d tab c n h
 |.loop c,n,h=>{ fp:=h.fp,loop:=fun m=>match Nat.beq m n with
   |true=>LX np d (tab n).1 (tab n).2 (roundOf P E (E2 P E np d tab c (n+1) h) (n+1) np d c (tab n).1 (tab n).2)
   |false=>(E2 P E np d tab c (n+1) h).loop m }
 |_,_,h=>h
theorem cQ(P:Program)(E:Env)(np i:Nat)(tab:Tab):∀ (c:Code) (n:Nat) (h:Hints) (m:Nat),(m<n\/n+loops c<=m)->(E2 P E np i tab c n h).loop m=h.loop m:=by
 intro c;induction c with
  |seq a b f g=>intro n h m d;simp only[E2,loops]at *;grind
  |cond c a b f g=>intro n h m d;simp only[E2,loops]at *;grind
  |block id c e=>intro n h m d;exact e n h m d
  |scope c e=>intro n h m d;exact e n h m d
  |loop c e=>
   intro n h m d;simp only[E2,loops]at *;have:Nat.beq m n=false:=by
    cases j:Nat.beq m n with
     |true=>have:=AZl j;omega
     |false=>rfl
   grind
  |_=>intro n h m d;rfl
theorem Q6{P:Program}{np:Nat}{h l:Hints}:∀ (c:Code) (n:Nat),(∀ m,n<=m->m<n+loops c->l.loop m=h.loop m)->B0 P np h c n->B0 P np l c n:=by
 intro c;induction c with
  |seq a b f g=>intro n d e;simp only[loops]at d;exact⟨f n (fun m i k=>d m i (by omega)) e.1,g _ (fun m i k=>d m (by omega) (by omega)) e.2⟩
  |cond c a b f g=>intro n d e;simp only[loops]at d;exact⟨f n (fun m i k=>d m i (by omega)) e.1,g _ (fun m i k=>d m (by omega) (by omega)) e.2⟩
  |block id c j=>intro n d e;exact j n d e
  |scope c j=>intro n d e;exact j n d e
  |loop c j=>intro n d e;simp only[loops]at d;unfold B0 at *;grind
  |_=>intro n d e;trivial
theorem AH8{P:Program}{E:Env}(i:BH P E){np g:Nat}{tab:Tab}:∀ (c:Code) (n:Nat) (h:Hints),B0 P np (E2 P E np g tab c n h) c n:=by
 intro c;induction c with
  |seq a b d e=>intro n h;refine⟨d n _,?_⟩;refine Q6 b _ (fun m j k => ?_) (e (n+loops a) h);simp only[E2];exact cQ P E np g tab a n _ m (by omega)
  |cond c a b d e=>intro n h;refine⟨d n _,?_⟩;refine Q6 b _ (fun m j k => ?_) (e (n+loops a) h);simp only[E2];exact cQ P E np g tab a n _ m (by omega)
  |block id c f=>intro n h;exact f n h
  |scope c f=>intro n h;exact f n h
  |loop c f=>intro n h;unfold B0;simp only[E2];rw[show Nat.beq n n=true from Nat.beq_refl n];exact P2 i (fun _=>rfl) (f (n+1) h)
  |_=>intro n h;trivial
def nn{R:Type}(n:Int)(k:Int->R):R:=match n with
 |.ofNat m=>nf m fun m=>k (.ofNat m)
 |.negSucc m=>nf m fun m=>k (.negSucc m)
def Wr{α:Type}(f:(R:Type)->α->(α->R)->R):List α->(R:Type)->(List α->R)->R
 |[],_,k=>k []
 |x::xs,R,k=>f R x fun x=>Wr f xs R fun xs=>k (x::xs)
def O6:(t:Ty)->(R:Type)->t.den->(t.den->R)->R
 |.unit,_,_,k=>k ()
 |.bool,_,b,k=>match b with
  |true=>k true
  |false=>k false
 |.int _,_,n,k=>nn n k
 |.slice e,R,xs,k=>Wr (O6 e) xs R k
 |.prod a b,R,d,k=>O6 a R d.1 fun x=>O6 b R d.2 fun y=>k (x,y)
 |.arr _ e,R,xs,k=>Wr (O6 e) xs R k
 |.nul _,_,_,k=>k ()
 |.mapi _ e,R,xs,k=>Wr (fun R (p:Int×e.den) k=>nn p.1 fun i=>O6 e R p.2 fun y=>k (i,y)) xs R k
def BZ:(ts:List Ty)->(R:Type)->Bf ts->(Bf ts->R)->R
 |[],_,_,k=>k ()
 |t::ts,R,d,k=>O6 t R d.1 fun x=>BZ ts R d.2 fun y=>k (x,y)
theorem jY{R:Type}(n:Int)(k:Int->R):nn n k=k n:=by cases n<;>simp only[nn,Oj]
theorem Wq{α:Type}{f:(R:Type)->α->(α->R)->R}(a:∀ R x k,f R x k=k x):∀ (xs:List α) (R:Type) (k:List α->R),Wr f xs R k=k xs:=by
 intro xs;induction xs with
  |nil=>intro R k;rfl
  |cons x xs b=>intro R k;simp only[Wr,a,b]
theorem AIS:∀ (t:Ty) (R:Type) (d:t.den) (k:t.den->R),O6 t R d k=k d:=by
 intro t;induction t with
  |unit=>intro R d k;rfl
  |bool=>intro R d k;cases d<;>rfl
  |int j=>intro R d k;exact jY _ _
  |slice e c=>intro R d k;exact Wq c _ _ _
  |prod a b f g=>intro R d k;simp only[O6,f,g]
  |arr n e c=>intro R d k;exact Wq c _ _ _
  |nul e=>intro R d k;rfl
  |mapi j e c=>intro R d k;exact Wq (fun R x k=>by simp only[jY,c]) _ _ _
theorem BE:∀ (ts:List Ty) (R:Type) (d:Bf ts) (k:Bf ts->R),BZ ts R d k=k d:=by
 intro ts;induction ts with
  |nil=>intro R d k;rfl
  |cons t ts a=>intro R d k;simp only[BZ,AIS,a]
structure Row where
 g:FuncId
 k:Nat:=0
 np:Nat:=0
 na:Nat:=0
 fl:Nat:=0
 clo:Option (Nat×FuncId):=none
 its:A1:=[]
 os:BF:=[]
 rs:List RS:=[]
 fp:List (Nat×List (List Nat)):=[]
 tab:List (Nat×A1×BF):=[]
def AOz{α:Type}(d:α):List (Nat×α)->Nat->α
 |[],_=>d
 |p::l,n=>match Nat.beq p.1 n with
  |true=>p.2
  |false=>AOz d l n
def Row.outs(r:Row):A1:=match r.os with
 |[]=>[]
 |o::_=>o.2
def Row.mark(r:Row)(i:Nat):Bool:=Nat.testBit r.fl i
def Row.hint[Lk](r:Row)(P:Program)(E:Env)(fn:Func):Hints:=
 E2 P E r.np fn.ntmps (AOz ([],[]) r.tab) (B5 fn) 0 { fp:=AOz [] r.fp }
def Row.loc(r:Row):Bool:=c8 r.its&&(Nat.ble (Dw r.outs) 4 && !r.mark 3)
def Row.HW(r:Row):Bool:=Xi r.its&&Nat.ble (Dw r.outs) 4
def Row.call(r:Row)(f:Bf (leaves r.its)->Option (Bf (leaves r.outs))):Spec:=BX r.np r.na r.its r.outs r.rs f
def Row.self[Lk](r:Row)(P:Program)(E:Env)(fn:Func):Bf (leaves r.its)->Option (Bf (leaves r.outs)):=
 Dn r.np P E (r.hint P E fn) fn r.its r.outs r.rs
def Row.put[Lk](r:Row)(E:Env)(s:Spec):Env:=
 match r.clo with
 |none=>E.ext r.g r.loc r.HW (match r.mark 3 with
  |true=>IH s
  |false=>s)
 |some (i,c)=>E.YZ r.g i c (match r.mark 3 with
  |true=>IH s
  |false=>s)
def Row.okF(r:Row)(fn:Func):Bool:=
 fn.body.isSome && (!(fn.name == "runtime.NumGoroutine") && (Nat.ble r.na fn.ntmps && (match r.k with
  |1=>Nat.beq (loops (B5 fn)) 0
  |_=>true)&&(match r.clo with
  |none=>true
  |some _=>r.HW)))
theorem Row.AV1{P:Program}{E:Env}{r:Row}(e:BH P E){f:Bf (leaves r.its)->Option (Bf (leaves r.outs))}(j:BS P r.g (r.call f))(k:(match r.clo with
  |none=>true
  |some _=>r.HW)=true):BH P (r.put E (r.call f)):=by
 have a:r.HW=true->G7 (match r.mark 3 with
  |true=>IH (r.call f)
  |false=>r.call f):=by
  intro h
  simp only[Row.HW,AY3]at h
  cases r.mark 3 with
  |true=>exact ARD h.1 h.2
  |false=>exact CR h.1 h.2
 have b:BS P r.g (match r.mark 3 with
  |true=>IH (r.call f)
  |false=>r.call f):=by
  cases r.mark 3 with
  |true=>exact qT j
  |false=>exact j
 unfold Row.put;split;refine Env.CB e b (fun h => ?_) a;simp only[Row.loc,AY3]at h;have l:r.mark 3=false:=by grind
 rw[l];exact NB h.1 h.2.1;rename_i i c d;rw[d]at k;exact Env.Tn e b (a k)
theorem Row.AE9 {P : Program} {E : Env} {r : Row} {fn : Func} (hE : BH P E) (hf : P.funcs[r.g]? = some fn) (hb : fn.body.isSome = true) (hn : (fn.name == "runtime.NumGoroutine") = false) (ha : Nat.ble r.na fn.ntmps = true)
  {f:Bf (leaves r.its)->Option (Bf (leaves r.outs))} (he:∀ x,f x=r.self P E fn x):BS P r.g (r.call f):=
 GW hE hf hb hn ha he (AH8 hE _ _ _)
variable {P:Program} {E:Env} {r:Row} {fn:Func}
def Row.ev[Lk](r:Row)(E:Env):Env:={ E with keep:=r.mark 0,rows:=r.mark 1,arrs:=r.mark 2 }
def Row.Cf[Lk](r:Row)(E:Env)(f:Bf (leaves r.its)->Option (Bf (leaves r.outs))):Env:=r.put E (r.call f)
theorem Row.BM(r:Row)(b:BH P E)(c:P.funcs[r.g]? = some fn){f d:Bf (leaves r.its)->Option (Bf (leaves r.outs))}(e:∀ x,f x=d x)
  (a:r.okF fn=true:=by kernel_rfl) (hd:∀ x,d x=r.self P (r.ev E) fn x:=by intro _;kernel_rfl):BH P (r.Cf E f):=by simp only[Row.okF,AY3,AaG]at a;obtain⟨h,i,⟨j,l⟩,k⟩:=a;exact Row.AV1 b (Row.AE9 (E:=r.ev E) b c h i j fun x=>(e x).trans (hd x)) k
structure Chn(P:Program)where
  e:[Lk]->Env
  h:BH P e
def Chn.g{P:Program}{fn:Func}(c:Chn P)(r:Row)(f:[Lk]->Bf (leaves r.its)->Option (Bf (leaves r.outs)))(i:P.funcs[r.g]? = some fn){d:Bf (leaves r.its)->Option (Bf (leaves r.outs))}(k:∀ x,f x=d x)(a:r.okF fn=true:=by kernel_rfl)(b:∀ x,d x=r.self P (r.ev c.e) fn x:=by intro _;kernel_rfl):Chn P:=⟨r.Cf c.e f,Row.BM r c.h i k a b⟩
structure Ma{α β:Type}(f:α->β)where
 d:α->β
 h:∀ v,f v=d v
end
end Go.Pev
end
section
namespace Go.Pev
open Go.Proofs
noncomputable section
abbrev AKQ:Row:=⟨112,0,0,1,0,none,BR,[(.ret,BP)],A5,[],[]⟩
def vj[Lk]:Env:=Env.none.ext 112 true true (BX 0 1 BR BP A5 RA)
theorem vi:BH Tryz.prog vj:=Row.BM AKQ Env.ASu Tryz.func112 gk
def AXw:=Chn.g ⟨vj,vi⟩ ⟨158,0,0,2,0,none,OE,[(.ret,BP)],A5,[],[]⟩ tin Tryz.func158 AKm
def AVb:=Chn.g AXw ⟨248,0,0,3,0,none,AKs,[(.ret,BR)],A5,[],[]⟩ AKt Tryz.func248 AB8
def AKP:=Chn.g AVb ⟨189,0,0,2,0,none,OE,[(.ret,AKO)],SY,[],[]⟩ lH Tryz.func189 gj
def AQ1:=Chn.g AKP ⟨155,0,0,1,0,none,BR,[(.ret,AQ0)],AB4,[],[(0,AKd,AKc)]⟩ AB5 Tryz.func155 qK
def AN4:=Chn.g AQ1 ⟨152,0,0,2,0,none,Oy,[(.ret,BR)],A5,[],[(0,AHy,MN)]⟩ Wg Tryz.func152 jQ
def uu:=Chn.g AN4 ⟨205,0,0,2,0,none,Oy,[(.ret,BP)],A5,[],[]⟩ Hh Tryz.func205 T5
def AWV:=Chn.g uu ⟨114,0,0,1,0,none,bY,[(.ret,BR)],A5,[],[(0,ASx,AC0)]⟩ ANU Tryz.func114 AC1
def ATr:=Chn.g AWV ⟨199,0,0,2,0,none,ATq,[(.ret,Hx)],A5,[],[]⟩ ADQ Tryz.func199 uC
def QN:=Chn.g ATr ⟨141,0,0,1,0,none,AJJ,[(.ret,Hx)],A5,[],[(0,ABN,ABL),(1,ABM,ABK)]⟩ QO Tryz.func141 dE
theorem AFb:Tryz.f187.body.isSome=true:=by kernel_rfl
theorem AFa : (Tryz.f187.name == "runtime.NumGoroutine") = false := by kernel_rfl
theorem AFZ:loops (B5 Tryz.f187)=0:=by kernel_rfl
def YI[Lk]:Env:=QN.e.ext 187 false false (CE Tryz.prog QN.e {} Tryz.f187)
theorem dq:BH Tryz.prog YI:=Env.CB QN.h (Bq QN.h Tryz.func187 AFb AFa AFZ) (by simp) (by simp)
def cK:=Chn.g ⟨YI,dq⟩ ⟨149,0,0,2,0,some (1,187),O2,[(.ret,BR)],A5,[],[(0,YU,MN)]⟩ NL Tryz.func149 Nr
def AWR:=Chn.g cK ⟨188,0,0,1,0,none,bY,[(.ret,BP)],A5,[],[(0,ASq,ASp)]⟩ once Tryz.func188 ACr
def SX:=Chn.g AWR ⟨282,0,0,2,0,none,Oy,[(.ret,Hx)],A5,[(1,[[],[],[],[],[],[],[],[0]])],[]⟩ Zw Tryz.func282 gi
theorem AEg:Tryz.f204.body.isSome=true:=by kernel_rfl
theorem AEf : (Tryz.f204.name == "runtime.NumGoroutine") = false := by kernel_rfl
theorem AEe:loops (B5 Tryz.f204)=0:=by kernel_rfl
def YH[Lk]:Env:=SX.e.ext 204 false false (CE Tryz.prog SX.e {} Tryz.f204)
theorem df:BH Tryz.prog YH:=Env.CB SX.h (Bq SX.h Tryz.func204 AEg AEf AEe) (by simp) (by simp)
def Wl:=Chn.g ⟨YH,df⟩ ⟨203,0,1,2,0,some (1,204),Wk,[(.ret,Wj)],A5,[],[(0,TW,TV)]⟩ KQ Tryz.func203 LA
def Sa:=Chn.g Wl ⟨159,0,0,2,0,none,OC,[(.ret,BR)],A5,[],[]⟩ VV Tryz.func159 gn
theorem AUs:Tryz.f190.body.isSome=true:=by kernel_rfl
theorem AUr : (Tryz.f190.name == "runtime.NumGoroutine") = false := by kernel_rfl
theorem AUq:loops (B5 Tryz.f190)=0:=by kernel_rfl
def kD[Lk]:Env:=Sa.e.ext 190 false false (CE Tryz.prog Sa.e {} Tryz.f190)
theorem pn:BH Tryz.prog kD:=Env.CB Sa.h (Bq Sa.h Tryz.func190 AUs AUr AUq) (by simp) (by simp)
def AWp:=Chn.g ⟨kD,pn⟩ ⟨115,0,0,2,0,none,AWo,[(.ret,BP)],A5,[(8,[[],[],[],[],[],[],[],[],[1000003],[],[],[],[],[],[],[],[],[0],[0],[0],[],[0],[0],[0],[2,26],[],[2,26],[2,26]]),(13,[[],[0],[0],[0],[2],[],[],[],[0],[0],[0],[6],[],[0],[0],[0],[4]]),(3,[[],[],[],[],[],[],[],[],[11],[],[],[],[8,10,12]])],[(0,ATw,ATv)]⟩ goes Tryz.func115 ADR
def AWU:=Chn.g AWp ⟨222,0,0,1,0,none,BR,[(.ret,BP)],A5,[],[]⟩ AGr Tryz.func222 K7
def ABO:=Chn.g AWU ⟨169,0,0,2,0,none,OE,[(.ret,BR)],A5,[],[]⟩ Eb Tryz.func169 Ie
def AQj:=Chn.g ABO ⟨285,0,0,2,0,none,kK,[(.ret,BR)],A5,[],[]⟩ DA Tryz.func285 px
def AS7:=Chn.g AQj ⟨221,0,0,1,0,none,m6,[(.ret,BR)],A5,[],[]⟩ ADG Tryz.func221 tX
def AJq:=Chn.g AS7 ⟨167,0,0,1,0,none,m6,[(.ret,BR)],A5,[],[]⟩ bitsLen Tryz.func167 dO
def AD9:=Chn.g AJq ⟨266,0,1,1,0,none,AD8,[(.ret,AD7)],A5,[(3,[[],[0],[0],[],[0],[0],[],[],[0],[1]]),(2,[[],[0],[0],[],[0],[0],[],[],[0],[1]]),(1,[[],[0],[0],[],[0],[0],[],[],[0],[1]])],[]⟩ xorNext Tryz.func266 Zf
def AGp:=Chn.g AD9 ⟨265,0,0,1,0,none,BR,[(.ret,m6)],A5,[],[]⟩ ZB Tryz.func265 bW
def AWh:=Chn.g AGp ⟨311,0,1,4,0,some (3,285),We,[(.ret,KN)],Bm,[(4,[[],[],[],[],[],[],[],[0],[0],[],[],[],[0],[0]]),(6,[[],[],[],[],[],[],[],[],[0],[0],[],[],[0],[0],[0],[1],[0],[1]])],[(0,ATQ,nJ),(1,ATP,ATO)]⟩ AYQ Tryz.func311 ATR
def ARh:=Chn.g AWh ⟨328,0,1,5,0,some (4,285),Kw,[(.ret,KN)],Bm,[(6,[[],[],[],[],[],[],[],[],[],[],[],[],[0],[0],[],[],[],[],[0],[0],[0],[1],[0],[1]]),(5,[[],[],[],[],[],[0],[0],[],[],[],[],[0],[0]]),(3,[[],[],[],[],[],[],[],[],[],[],[0],[0],[],[],[],[],[],[0],[0]])],[(0,ALJ,ALI)]⟩ AUz Tryz.func328 ALK
def ATj:=Chn.g ARh ⟨312,0,1,4,0,some (3,285),We,[(.ret,KN)],Bm,[(10,[[],[],[],[],[],[],[],[],[],[],[0],[0],[],[],[0],[0],[0],[1],[0],[1]])],[(0,AOP,AON),(1,AOO,AOM)]⟩ AVD Tryz.func312 AOQ
def AP9:=Chn.g ATj ⟨313,0,1,4,0,some (3,285),We,[(.ret,KN)],Bm,[(10,[[],[],[],[],[],[],[],[],[],[],[0],[0],[],[],[0],[0],[0],[1],[0],[1]])],[(0,AJj,nJ)]⟩ AQA Tryz.func313 AJk
def AGc:=Chn.g AP9 ⟨334,0,2,5,0,some (4,285),AGa,[(.ret,AGZ)],BV,[(1,[[],[],[],[0],[0],[],[],[0],[0]])],[]⟩ ACn Tryz.func334 zN
def AG3:=Chn.g AGc ⟨330,0,2,6,0,some (5,285),AG1,[(.ret,jA)],A5,[],[]⟩ AC4 Tryz.func330 zg
def AHI:=Chn.g AG3 ⟨329,0,2,4,0,some (3,285),AHG,[(.ret,jA)],A5,[],[]⟩ AC9 Tryz.func329 zm
def AMT:=Chn.g AHI ⟨314,0,1,4,0,some (3,285),We,[(.ret,AMR)],BV,[],[]⟩ AMU Tryz.func314 AFs
def AVp:=Chn.g AMT ⟨315,0,1,4,0,some (3,285),We,[(.ret,KN)],Bm,[(3,[[],[],[],[],[],[],[0],[0],[],[],[0],[0],[0],[1],[0],[1]])],[(0,ARw,nJ)]⟩ AX5 Tryz.func315 ARx
def yh:=Chn.g AVp ⟨316,0,1,4,0,some (3,285),We,[(.ret,yf)],A5,[(11,[[],[],[],[],[],[],[],[],[0],[0],[],[],[0],[0],[0],[1],[0],[1]]),(5,[[],[],[],[],[],[],[],[0],[0],[],[],[],[0],[0]]),(17,[[],[],[],[],[],[],[],[],[0],[0],[],[],[0],[0],[0],[1],[0],[1]]),(16,[[],[],[],[0],[0],[],[],[],[0],[0]]),(23,[[],[],[],[],[],[],[],[],[0],[0],[],[],[0],[0],[0],[1],[0],[1]]),(22,[[],[],[],[0],[0],[],[],[],[0],[0]])],[(0,Xa,sR),(1,Xa,sQ),(2,sT,sP),(3,sS,sO)]⟩ sV Tryz.func316 sU
def AGJ:=Chn.g yh ⟨317,0,1,5,0,some (4,285),Kw,[(.ret,AGH)],A5,[(8,[[],[],[],[],[],[],[0],[0],[],[],[0],[0],[0],[1],[0],[1]]),(3,[[],[],[],[],[],[],[],[0],[0],[],[],[0],[0]]),(5,[[],[],[],[],[],[],[],[0],[0],[],[],[0],[0]]),(1,[[],[],[],[],[],[],[0],[0],[],[],[0],[0],[0],[1],[0],[1]])],[(0,RW,zA),(1,RW,yz),(2,RW,yy)]⟩ ACi Tryz.func317 zB
def Y9:=Chn.g AGJ ⟨318,0,1,5,0,some (4,285),Kw,[(.ret,ASi)],BV,[(3,[[],[],[],[],[],[],[],[0],[0],[],[],[0],[0]]),(5,[[],[],[],[],[],[],[],[0],[0],[],[],[0],[0]]),(18,[[],[],[],[],[],[],[0],[0],[],[],[0],[0],[0],[1],[0],[1]]),(13,[[],[],[],[],[],[],[],[0],[0],[],[],[0],[0]]),(15,[[],[],[],[],[],[],[],[0],[0],[],[],[0],[0]]),(21,[[],[],[],[],[],[],[0],[0],[],[],[0],[0],[0],[1],[0],[1]]),(10,[[],[],[],[],[],[],[0],[0],[],[],[0],[0],[0],[1],[0],[1]]),(8,[[],[],[],[],[],[],[0],[0],[],[],[0],[0],[0],[1],[0],[1]]),(1,[[],[],[],[],[],[],[0],[0],[],[],[0],[0],[0],[1],[0],[1]])],[(0,Oc,AM5),(1,Oc,AM4),(2,Oc,AM3),(3,Oc,AM2),(4,Oc,AM1)]⟩ AU7 Tryz.func318 AM6
abbrev yP(self:(List (List Int)×Int×Int×Int×Unit)->Option ((List (List Int)×Unit))):Hints:={ loop:=fun n=>match n with|0=>LX 1 148 ACZ ACY (ACX self)|_=>fun _ _ _=>none,fp:=fun n=>match n with|17=>[[],[],[],[],[],[],[],[0],[0],[],[],[0],[0],[],[],[],[]]|_=>[] }
abbrev mS(self:(List (List Int)×Int×Int×Int×Unit)->Option ((List (List Int)×Unit))):Env:=Y9.e.ext 300 false true (BX 1 5 Kw KN Bm self)
theorem yO(self:(List (List Int)×Int×Int×Int×Unit)->Option ((List (List Int)×Unit))):∀ v,ACX self v=roundOf Tryz.prog (mS self) (yP self) 1 1 148 (C6 Tryz.f300 0) ACZ ACY v:=by rintro⟨a,b,c,d,e,f,⟨⟩⟩;kernel_rfl
theorem ASQ:Ca (C6 Tryz.f300 0) 1=[]:=by kernel_rfl
theorem ASR(self:(List (List Int)×Int×Int×Int×Unit)->Option ((List (List Int)×Unit)))(a:BH Tryz.prog (mS self)):I4 Tryz.prog 1 (.loop (C6 Tryz.f300 0)) ((yP self).loop 0):=P2 a (yO self) (Dd ASQ trivial)
theorem AMk(self:(List (List Int)×Int×Int×Int×Unit)->Option ((List (List Int)×Unit))):∀ v,AWA self v=Dn 1 Tryz.prog (mS self) (yP self) Tryz.f300 Kw KN Bm v:=by rintro⟨a,b,c,d,⟨⟩⟩;kernel_rfl
theorem AV9:Ca (B5 Tryz.f300) 0=[(0,C6 Tryz.f300 0)]:=by kernel_rfl
theorem yQ:∀ n,BS Tryz.prog 300 (BX 1 5 Kw KN Bm (bF n)):=by
 intro n;induction n with
  |zero=>exact GO fun _=>rfl
  |succ n b=>have a:BH Tryz.prog (mS (bF n)):=Env.CB Y9.h b ((by simp)) (fun _=>CR rfl rfl);let self:=bF n;exact GW a Tryz.func300 (by kernel_rfl) (by kernel_rfl) rfl (AMk self) (Dd AV9 ⟨(ASR self a),trivial⟩)
theorem AF4:BS Tryz.prog 300 (BX 1 5 Kw KN Bm AST):=by have e:AST=bF 100:=funext ASS;rw[e];exact yQ _
def AQf[Lk]:Env:=Y9.e.YZ 300 4 285 (BX 1 5 Kw KN Bm AST)
theorem AJ7:BH Tryz.prog AQf:=Env.Tn Y9.h AF4 (CR rfl rfl)
def Yv:=Chn.g ⟨AQf,AJ7⟩ ⟨284,0,1,2,0,some (1,285),ARP,[(.ret,KN)],Bm,[],[]⟩ ACC Tryz.func284 AK5
theorem AKq:Tryz.f157.body.isSome=true:=by kernel_rfl
theorem AKp : (Tryz.f157.name == "runtime.NumGoroutine") = false := by kernel_rfl
theorem AKo:loops (B5 Tryz.f157)=0:=by kernel_rfl
def dg[Lk]:Env:=Yv.e.ext 157 false false (CE Tryz.prog Yv.e {} Tryz.f157)
theorem fK:BH Tryz.prog dg:=Env.CB Yv.h (Bq Yv.h Tryz.func157 AKq AKp AKo) (by simp) (by simp)
def Wn:=Chn.g ⟨dg,fK⟩ ⟨149,0,1,2,0,some (1,157),MQ,[(.ret,Wm)],A5,[],[(0,TY,TX)]⟩ KR Tryz.func149 LB
def AW0:=Chn.g Wn ⟨245,0,0,1,0,none,AWz,[(.ret,Hx)],A5,[],[(0,AUC,AUB)]⟩ ends Tryz.func245 ADd
def AYG:=Chn.g AW0 ⟨168,0,0,1,0,none,bY,[(.ret,BR)],A5,[],[(0,AWQ,AWP)]⟩ orI Tryz.func168 ma
def ANc:=Chn.g AYG ⟨123,0,0,1,0,none,BR,[(.ret,BP)],A5,[],[]⟩ bj Tryz.func123 WV
def AWY:=Chn.g ANc ⟨124,0,0,1,0,none,BR,[(.ret,BR)],A5,[],[]⟩ mq Tryz.func124 ASz
def z4:=Chn.g AWY ⟨125,0,0,2,0,none,br,[(.ret,BR)],A5,[(1,[[0],[0],[2],[2],[],[0],[0],[2],[2],[],[],[20]])],[]⟩ Fc Tryz.func125 Ot
def ANa:=Chn.g z4 ⟨81,0,0,2,0,none,bg,[(.ret,TC)],A5,[],[(0,AHW,jE)]⟩ WU Tryz.func81 WT
def vD:=Chn.g ANa ⟨20,0,0,2,0,none,PL,[(.ret,Hx)],A5,[(14,[[],[],[0],[0],[],[],[0],[0]]),(13,[[],[],[],[],[],[],[],[],[],[],[],[],[],[],[],[],[],[],[],[0],[0],[],[],[0],[0]])],[(0,oh,od),(1,og,oc),(2,oe,oa)]⟩ Jv Tryz.func20 UA
def AQy:=Chn.g vD ⟨66,0,0,1,0,none,BR,[(.ret,BR)],A5,[],[(0,AKX,AC0)]⟩ Sc Tryz.func66 AKY
def AFc:=Chn.g AQy ⟨19,0,0,1,0,none,Jh,[(.ret,BP)],A5,[(10,[[],[],[],[0],[0],[],[],[],[],[],[4],[4],[],[],[0],[0],[],[],[],[],[],[4],[4],[],[],[0],[0],[],[],[],[],[],[4],[4]]),(8,[[4],[4],[],[],[4],[4],[4],[4],[],[],[],[4],[4],[0],[0],[],[],[],[4],[4],[],[],[],[4],[4],[0],[0]])],[(0,ah,xf),(1,xg,xe)]⟩ Fl Tryz.func19 HP
def gm:=Chn.g AFc ⟨21,0,0,2,0,none,bg,[(.ret,TC)],A5,[(6,[[],[0],[0],[],[],[],[],[0],[0],[],[],[],[],[],[],[3,4]])],[(0,wi,jE)]⟩ Yn Tryz.func21 Z3
theorem APk : (Tryz.f146.name == "runtime.NumGoroutine") = false := by kernel_rfl
theorem oY:F_ Tryz.prog Tryz.f146 51 3 (.int .i64) where
 body:=by kernel_rfl
 nt:=by kernel_rfl
 res:=by kernel_rfl
 d:=⟨by kernel_rfl,by kernel_rfl,by kernel_rfl,by kernel_rfl,by kernel_rfl,by kernel_rfl,by kernel_rfl,by kernel_rfl⟩
 g:=⟨by kernel_rfl,by kernel_rfl,by kernel_rfl,by kernel_rfl,by kernel_rfl,by kernel_rfl,by kernel_rfl,by kernel_rfl⟩
 o00:=by kernel_rfl
 o10:=by kernel_rfl
 o11:=by kernel_rfl
 o20:=by kernel_rfl
 o30:=by kernel_rfl
 o31:=by kernel_rfl
 o32:=by kernel_rfl
 o33:=by kernel_rfl
 sl:=by kernel_rfl
 z:=by kernel_rfl
 by1:=by kernel_rfl
def dv[Lk]:Env:=gm.e.ext 146 true true (EE 3 (.int .i64))
theorem YL:BH Tryz.prog dv:=Env.CB gm.h (Mi oY Tryz.func146 APk) (fun _=>B_ _ _) (fun _=>(B_ _ _).wk)
theorem wa:Tryz.f144.body.isSome=true:=by kernel_rfl
theorem wZ : (Tryz.f144.name == "runtime.NumGoroutine") = false := by kernel_rfl
theorem wY:loops (B5 Tryz.f144)=0:=by kernel_rfl
theorem ATu:Tryz.f171.body.isSome=true:=by kernel_rfl
theorem ATt : (Tryz.f171.name == "runtime.NumGoroutine") = false := by kernel_rfl
theorem ATs:loops (B5 Tryz.f171)=0:=by kernel_rfl
def kB[Lk]:Env:=dv.ext 171 false false (CE Tryz.prog dv {} Tryz.f171)
theorem pZ:BH Tryz.prog kB:=Env.CB YL (Bq YL Tryz.func171 ATu ATt ATs) (by simp) (by simp)
def nT:=Chn.g ⟨kB,pZ⟩ ⟨194,0,3,2,0,some (1,171),Td,[(.ret,nS)],A5,[],[(0,ei,eh)]⟩ Rs Tryz.func194 Qx
def AAW:=Chn.g nT ⟨97,0,0,2,0,none,AAV,[(.ret,BR)],A5,[(1,[[0],[0],[2],[2],[],[0],[0],[2],[2],[],[],[20]])],[]⟩ Bn Tryz.func97 Xs
def AWl:=Chn.g AAW ⟨256,0,1,4,0,some (3,97),Wf,[(.ret,KP)],Bm,[(4,[[],[],[],[],[],[],[],[0],[0],[],[],[],[0],[0]]),(6,[[],[],[],[],[],[],[],[],[0],[0],[],[],[0],[0],[0],[1],[0],[1]])],[(0,ATa,nL),(1,ATZ,ATY)]⟩ AYS Tryz.func256 ATb
def ARl:=Chn.g AWl ⟨289,0,1,5,0,some (4,97),Kz,[(.ret,KP)],Bm,[(6,[[],[],[],[],[],[],[],[],[],[],[],[],[0],[0],[],[],[],[],[0],[0],[0],[1],[0],[1]]),(5,[[],[],[],[],[],[0],[0],[],[],[],[],[0],[0]]),(3,[[],[],[],[],[],[],[],[],[],[],[0],[0],[],[],[],[],[],[0],[0]])],[(0,ALQ,ALP)]⟩ AU1 Tryz.func289 ALR
def ATn:=Chn.g ARl ⟨257,0,1,4,0,some (3,97),Wf,[(.ret,KP)],Bm,[(10,[[],[],[],[],[],[],[],[],[],[],[0],[0],[],[],[0],[0],[0],[1],[0],[1]])],[(0,AOa,AOY),(1,AOZ,AOX)]⟩ AVF Tryz.func257 AOb
def AQF:=Chn.g ATn ⟨258,0,1,4,0,some (3,97),Wf,[(.ret,KP)],Bm,[(10,[[],[],[],[],[],[],[],[],[],[],[0],[0],[],[],[0],[0],[0],[1],[0],[1]])],[(0,AJo,nL)]⟩ AQG Tryz.func258 AJp
def AGk:=Chn.g AQF ⟨306,0,2,5,0,some (4,97),AGi,[(.ret,AGh)],BV,[(1,[[],[],[],[0],[0],[],[],[0],[0]])],[]⟩ ACp Tryz.func306 zQ
def AG9:=Chn.g AGk ⟨291,0,2,6,0,some (5,97),AG7,[(.ret,jC)],A5,[],[]⟩ AC6 Tryz.func291 zj
def AHO:=Chn.g AG9 ⟨290,0,2,4,0,some (3,97),AHM,[(.ret,jC)],A5,[],[]⟩ ADB Tryz.func290 zp
def AMb:=Chn.g AHO ⟨259,0,1,4,0,some (3,97),Wf,[(.ret,AMZ)],BV,[],[]⟩ AMc Tryz.func259 AFv
def AVt:=Chn.g AMb ⟨260,0,1,4,0,some (3,97),Wf,[(.ret,KP)],Bm,[(3,[[],[],[],[],[],[],[0],[0],[],[],[0],[0],[0],[1],[0],[1]])],[(0,AR1,nL)]⟩ AX7 Tryz.func260 AR2
def yn:=Chn.g AVt ⟨261,0,1,4,0,some (3,97),Wf,[(.ret,yl)],A5,[(11,[[],[],[],[],[],[],[],[],[0],[0],[],[],[0],[0],[0],[1],[0],[1]]),(5,[[],[],[],[],[],[],[],[0],[0],[],[],[],[0],[0]]),(17,[[],[],[],[],[],[],[],[],[0],[0],[],[],[0],[0],[0],[1],[0],[1]]),(16,[[],[],[],[0],[0],[],[],[],[0],[0]]),(23,[[],[],[],[],[],[],[],[],[0],[0],[],[],[0],[0],[0],[1],[0],[1]]),(22,[[],[],[],[0],[0],[],[],[],[0],[0]])],[(0,Xd,sr),(1,Xd,sk),(2,su,sj),(3,ss,si)]⟩ sw Tryz.func261 sv
def AGP:=Chn.g yn ⟨262,0,1,5,0,some (4,97),Kz,[(.ret,AGN)],A5,[(8,[[],[],[],[],[],[],[0],[0],[],[],[0],[0],[0],[1],[0],[1]]),(3,[[],[],[],[],[],[],[],[0],[0],[],[],[0],[0]]),(5,[[],[],[],[],[],[],[],[0],[0],[],[],[0],[0]]),(1,[[],[],[],[],[],[],[0],[0],[],[],[0],[0],[0],[1],[0],[1]])],[(0,Rb,zJ),(1,Rb,zI),(2,Rb,zH)]⟩ ACk Tryz.func262 zK
def Y':=Chn.g AGP ⟨263,0,1,5,0,some (4,97),Kz,[(.ret,ASm)],BV,[(3,[[],[],[],[],[],[],[],[0],[0],[],[],[0],[0]]),(5,[[],[],[],[],[],[],[],[0],[0],[],[],[0],[0]]),(18,[[],[],[],[],[],[],[0],[0],[],[],[0],[0],[0],[1],[0],[1]]),(13,[[],[],[],[],[],[],[],[0],[0],[],[],[0],[0]]),(15,[[],[],[],[],[],[],[],[0],[0],[],[],[0],[0]]),(21,[[],[],[],[],[],[],[0],[0],[],[],[0],[0],[0],[1],[0],[1]]),(10,[[],[],[],[],[],[],[0],[0],[],[],[0],[0],[0],[1],[0],[1]]),(8,[[],[],[],[],[],[],[0],[0],[],[],[0],[0],[0],[1],[0],[1]]),(1,[[],[],[],[],[],[],[0],[0],[],[],[0],[0],[0],[1],[0],[1]])],[(0,Of,ANI),(1,Of,ANH),(2,Of,ANG),(3,Of,ANF),(4,Of,ANE)]⟩ AU9 Tryz.func263 ANJ
abbrev yV(self:(List (Int×Int×Unit)×Int×Int×Int×Unit)->Option ((List (Int×Int×Unit)×Unit))):Hints:={ loop:=fun n=>match n with|0=>LX 1 148 ACf ACe (ACd self)|_=>fun _ _ _=>none,fp:=fun n=>match n with|17=>[[],[],[],[],[],[],[],[0],[0],[],[],[0],[0],[],[],[],[]]|_=>[] }
abbrev mW(self:(List (Int×Int×Unit)×Int×Int×Int×Unit)->Option ((List (Int×Int×Unit)×Unit))):Env:=Y'.e.ext 210 false true (BX 1 5 Kz KP Bm self)
theorem yU(self:(List (Int×Int×Unit)×Int×Int×Int×Unit)->Option ((List (Int×Int×Unit)×Unit))):∀ v,ACd self v=roundOf Tryz.prog (mW self) (yV self) 1 1 148 (C6 Tryz.f210 0) ACf ACe v:=by rintro⟨a,b,c,d,e,f,⟨⟩⟩;kernel_rfl
theorem ASZ:Ca (C6 Tryz.f210 0) 1=[]:=by kernel_rfl
theorem ASa(self:(List (Int×Int×Unit)×Int×Int×Int×Unit)->Option ((List (Int×Int×Unit)×Unit)))(a:BH Tryz.prog (mW self)):I4 Tryz.prog 1 (.loop (C6 Tryz.f210 0)) ((yV self).loop 0):=P2 a (yU self) (Dd ASZ trivial)
theorem AMm(self:(List (Int×Int×Unit)×Int×Int×Int×Unit)->Option ((List (Int×Int×Unit)×Unit))):∀ v,AWE self v=Dn 1 Tryz.prog (mW self) (yV self) Tryz.f210 Kz KP Bm v:=by rintro⟨a,b,c,d,⟨⟩⟩;kernel_rfl
theorem AWD:Ca (B5 Tryz.f210) 0=[(0,C6 Tryz.f210 0)]:=by kernel_rfl
theorem yW:∀ n,BS Tryz.prog 210 (BX 1 5 Kz KP Bm (bH n)):=by
 intro n;induction n with
  |zero=>exact GO fun _=>rfl
  |succ n b=>have a:BH Tryz.prog (mW (bH n)):=Env.CB Y'.h b ((by simp)) (fun _=>CR rfl rfl);let self:=bH n;exact GW a Tryz.func210 (by kernel_rfl) (by kernel_rfl) rfl (AMm self) (Dd AWD ⟨(ASa self a),trivial⟩)
theorem AF6:BS Tryz.prog 210 (BX 1 5 Kz KP Bm ASc):=by have e:ASc=bH 100:=funext ASb;rw[e];exact yW _
def AQh[Lk]:Env:=Y'.e.YZ 210 4 97 (BX 1 5 Kz KP Bm ASc)
theorem AJ9:BH Tryz.prog AQh:=Env.Tn Y'.h AF6 (CR rfl rfl)
def ARV:=Chn.g ⟨AQh,AJ9⟩ ⟨164,0,1,2,0,some (1,97),ART,[(.ret,KP)],Bm,[],[]⟩ ACD Tryz.func164 AK8
def AQk:=Chn.g ARV ⟨133,0,0,1,0,none,BR,[(.ret,BP)],A5,[],[]⟩ Zo Tryz.func133 pz
def SM:=Chn.g AQk ⟨136,0,0,1,0,none,BR,[(.ret,BP)],A5,[],[]⟩ kJ Tryz.func136 fV
theorem AEF:Tryz.f132.body.isSome=true:=by kernel_rfl
theorem AEE : (Tryz.f132.name == "runtime.NumGoroutine") = false := by kernel_rfl
theorem AED:loops (B5 Tryz.f132)=0:=by kernel_rfl
theorem AEC:Tryz.f135.body.isSome=true:=by kernel_rfl
theorem AEB : (Tryz.f135.name == "runtime.NumGoroutine") = false := by kernel_rfl
theorem AEA:loops (B5 Tryz.f135)=0:=by kernel_rfl
def YE[Lk]:Env:=SM.e.ext 132 false false (CE Tryz.prog SM.e {} Tryz.f132)
theorem db:BH Tryz.prog YE:=Env.CB SM.h (Bq SM.h Tryz.func132 AEF AEE AED) (by simp) (by simp)
def nR:=Chn.g ⟨YE,db⟩ ⟨194,0,0,2,0,some (1,132),Tc,[(.ret,BR)],A5,[],[(0,eg,MN)]⟩ Rr Tryz.func194 Qw
def H5:=Chn.g nR ⟨134,0,0,2,0,some (1,132),Tc,[(.ret,BP)],A5,[],[]⟩ GV Tryz.func134 PG
def YD[Lk]:Env:=H5.e.ext 135 false false (CE Tryz.prog H5.e {} Tryz.f135)
theorem da:BH Tryz.prog YD:=Env.CB H5.h (Bq H5.h Tryz.func135 AEC AEB AEA) (by simp) (by simp)
def nU:=Chn.g ⟨YD,da⟩ ⟨195,0,0,2,0,some (1,135),Te,[(.ret,BR)],A5,[],[(0,ej,MN)]⟩ Ru Tryz.func195 Qy
def fB:=Chn.g nU ⟨137,0,0,2,0,some (1,135),Te,[(.ret,BP)],A5,[],[]⟩ LK Tryz.func137 PH
def AKB:=Chn.g fB ⟨67,0,0,1,0,none,pq,[(.ret,BP)],A5,[],[]⟩ kH Tryz.func67 fR
def AQR:=Chn.g AKB ⟨177,0,0,1,0,none,AQQ,[(.ret,Hx)],A5,[],[]⟩ pE Tryz.func177 jy
def AUh:=Chn.g AQR ⟨103,0,0,1,0,none,pq,[(.ret,Hx)],A5,[],[(0,AQN,AQL),(1,AQM,AQK)]⟩ ADw Tryz.func103 vV
def AUJ:=Chn.g AUh ⟨49,0,0,1,0,none,BR,[(.ret,BP)],A5,[],[]⟩ uf Tryz.func49 ue
def AXC:=Chn.g AUJ ⟨7,0,0,1,0,none,AA0,[(.ret,APR)],BV,[],[]⟩ AA2 Tryz.func7 ADj
def AUM:=Chn.g AXC ⟨90,0,0,1,0,none,oK,[(.ret,AA0)],A5,[],[]⟩ ADl Tryz.func90 uh
def AIv:=Chn.g AUM ⟨209,0,0,1,0,none,QM,[(.ret,AIu)],A5,[],[(0,AA6,AA5)]⟩ ZS Tryz.func209 cw
def AFW:=Chn.g AIv ⟨250,0,0,1,0,none,BR,[(.ret,BR)],A5,[],[]⟩ Px Tryz.func250 RO
def ALf:=Chn.g AFW ⟨305,0,0,2,0,none,OE,[(.ret,BP)],A5,[],[]⟩ ll Tryz.func305 iM
def ALv:=Chn.g ALf ⟨288,0,0,3,0,none,ALu,[(.ret,oK)],A5,[],[]⟩ Vx Tryz.func288 iU
def ARp:=Chn.g ALv ⟨253,0,0,2,0,none,Oy,[(.ret,BP)],A5,[],[(0,ALo,ALn)]⟩ ACI Tryz.func253 q7
def AX9:=Chn.g ARp ⟨252,0,0,4,0,none,AX8,[(.ret,Hx)],A5,[(10,[[],[],[],[0],[0],[],[],[0],[0],[],[0],[1]])],[(0,AV0,AVx),(1,AVz,AVw),(2,AVy,AVv)]⟩ rby Tryz.func252 ALx
def qQ:=Chn.g AX9 ⟨162,0,0,2,0,none,OE,[(.ret,BP)],A5,[],[]⟩ Po Tryz.func162 lP
def AEn:=Chn.g qQ ⟨178,0,0,1,0,none,AEm,[(.ret,BP)],A5,[],[(0,wv,RD)]⟩ Yp Tryz.func178 wx
def AEl:=Chn.g AEn ⟨274,0,0,2,0,none,Lp,[(.ret,BR)],A5,[],[]⟩ Sd Tryz.func274 wq
def AEk:=Chn.g AEl ⟨275,0,0,1,0,none,AEj,[(.ret,BR)],A5,[],[]⟩ Pn Tryz.func275 wo
def AEp:=Chn.g AEk ⟨229,0,0,2,0,none,Lp,[(.ret,BP)],A5,[(1,[[0],[],[],[],[],[0],[0],[],[],[],[],[0],[0]])],[]⟩ Yq Tryz.func229 wz
end
end Go.Pev
end
