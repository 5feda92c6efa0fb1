/- A part of the proofs of this seat: PevOps9 PevOps10 PevKeep PevPrs PevRows2 PevOps12 PevMore PevKeys PevKeys2 PevIface PevOps11 PevCode PevLocal PevDraw PevDraw2 PevDec PevDec2 PevFlow PevPan PevFlow2 PevCall PevCall2. -/
import Derived.Test.YtbnaceonlbiheaaGreatDoorP8c545cd3c3
import Derived.IntWalk
import Derived.Laws.StructEq
import Derived.Laws.BytesArg
import Derived.LoopN
set_option linter.unusedVariables false
set_option linter.unusedSimpArgs false
set_option linter.unusedSectionVars false
set_option maxRecDepth 100000
section
namespace Go.Pev
open Go.RowKit
section
variable {P:Program} {E:Env}
theorem BS.kill{w:World}{F:Nat->Prop}{m:Mp}{H:List Ob}{fz:List Bool}(hi:HI w F m H fz){j:Nat}(s:owned H fz j):BS w F m H fz w F m (H.set j .dead) fz:=by
 obtain⟨I,z,A,B⟩:=Fm s;have u:=BU z;have n:(H.set j .dead)[j]? = some .dead:=Bk u;have d:DJ H (H.set j .dead) m m:=by
  intro i x g p;by_cases a:i=j;grind
  ·rcases DJ.refl H m i x g p with h|⟨hd,J,K,L,_⟩
   all_goals grind
 have f:∀ i:Ix,owned (H.set j .dead) fz i->owned H fz i:=fun i q=>by by_cases a:i.id=j;obtain⟨o,M,_,hd⟩:=D6 q;grind;exact(Db (Bh a)).1 q
 refine⟨⟨rfl,rfl,rfl,AV8 _,fun _ _ _=>rfl,fun _ h=>h,fun _ h=>.inl h,fun i b c r v=>.inl ⟨i,c,f i r,v⟩,d⟩,⟨?_,?_,?_,?_,?_,?_,hi.lt,hi.glo,by simpa using hi.len⟩⟩;intro id x g;by_cases a:id=j;subst a;rw[n]at g;cases g;trivial;rw[Bh a]at g;exact ObI.mono (fun _ _=>rfl) (fun _ h=>h) d (fun _ _ _ _ _ _=>rfl) (hi.obj id x g);intro i;by_cases a:i=j;subst a;exact C0.plain n rfl;exact C0.mono (fun _ _=>rfl) (fun _ h=>h) d (Bh a) (fun _ _=>rfl) (fun _ _ _ _ _ _ _=>rfl) (hi.row i);intro i T e t xs ver out l p x C D b c G;by_cases a:i=j;grind;rw[Bh a]at l;exact hi.rfz i T e t xs ver out l p x C ((DZ (by grind)).1 D) b c G;exact fun i k b c b' c' r v=>hi.sep i k b c b' c' (f i r) (f k v);exact fun i b c r=>hi.off i b c (f i r);intro i T t xs b c l p y;by_cases a:i=j;grind;rw[Bh a]at l;exact hi.froz i T t xs b c l p y
theorem MK{H:List Ob}{fz:List Bool}{slot j:Nat}{o:Ob}(h:Bd H fz slot=true)(a:slot≠j):Bd (H.set j o) fz slot=true:=by unfold Bd at *;grind
theorem Cz{w w':World}{ρc:Operand->Value}{o:Oper}{T:TypeId}{s x:Operand}{v n u:Value}(b:o.op = .call { callee:=.builtin .append,args:=#[s,x],argTypes:=#[T,T] })(d:ρc s=v)(e:ρc x=n)
  (a:(Builtin.append_ #[T,T] o.type #[v,n]).run P w = .ok u w'):(execOp ρc o).run P w = .ok (.value u) w':=by simp[execOp,b,resolve,invoke,builtin,d,e,a]
theorem IB{w:World}{T e ty:TypeId}{i:TypeInfo}(b:P.underlying T=some (.slice e))(hi:P.info? e=some i)(a:Option Addr){n cap:Nat}(d:n<=cap)(A:Option Addr)(c:Nat):
  (Builtin.append_ #[T,T] ty #[.slice a n cap,.slice A 0 c]).run P w = .ok (.slice a n cap) w:=by
 have f:(Builtin.firstCells i.size 0 (.slice A 0 c)).run P w = .ok #[] w:=by
  cases A with
   |none=>simp[Builtin.firstCells]
   |some ad=>simp[Builtin.firstCells,Go.loadCells,loadCellsFrom]
 cases a with
  |none=>simp[Builtin.append_,run_underlying b,run_sizeOf hi,Builtin.lenOf,d,f]
  |some ad=>simp[Builtin.append_,run_underlying b,run_sizeOf hi,Builtin.lenOf,d,f,storeCells]
structure AVy(w:World)(a:Option Addr)(n cap:Nat)(e:TypeId)(sz:Nat)(m:Nat)(old news:List Value)(v:Value)(w':World):Prop where
 os:w'.os=w.os
 tape:w'.tape=w.tape
 output:w'.output=w.output
 size:w.heap.size<=w'.heap.size
 keep:∀ k,k<w.heap.size->(∀ b,a=some ⟨b,0,none⟩->k≠b)->w'.heap[k]? = w.heap[k]?
 res:(m=0/\v = .slice a n cap/\w'=w)\/(∃ g cap' vs,v = .slice (some ⟨g,0,none⟩) (n+m) cap'/\w'.heap[g]? = some (.cells vs e (0,0))/\n+m<=cap'/\cap'<=maxLen/\vs.size=cap'*sz /\
   vs.toList.take ((n+m)*sz)=old++news/\(w.heap.size<=g\/a=some ⟨g,0,none⟩))
theorem RB{w:World}{T e ty:TypeId}{i:TypeInfo}{z:Value}(F:P.underlying T=some (.slice e))(hi:P.info? e=some i)(H:i.zero=some z)(t:z.cells.size=i.size)(x:0<i.size)
  {b n cap:Nat} {vs:Array Value} (I:w.heap[b]? = some (.cells vs e (0,0))) (G:n<=cap) (f:cap<=maxLen) (y:vs.size=cap*i.size) {A:Option Addr} {m c:Nat} {news:List Value} (J:news.length=m*i.size)
  (X:0<m->A.isSome=true) (d:∀ ad,A=some ad->∀ j u,news[j]? = some u->w.cell? (ad.add j)=some u) (K:∀ u∈news,u.oneCell'=true) (l:n+m<=4294967296) (B:i.bytes<=1024) :
  ∃ v w',(Builtin.append_ #[T,T] ty #[.slice (some ⟨b,0,none⟩) n cap,.slice A m c]).run P w = .ok v w'/\AVy w (some ⟨b,0,none⟩) n cap e i.size m (vs.toList.take (n*i.size)) news v w':=by
 have a:(n+m)*i.bytes<=140737488355328:=AWx (AXk l B) (by omega);have o:w.ownsRow 0 e i.size (.slice (some ⟨b,0,none⟩) n cap) n (vs.toList.take (n*i.size)):=by refine⟨?_,.inr ⟨b,cap,vs,rfl,AXV _,I,G,f,y,rfl⟩⟩;simp_all
 cases A with
  |none=>
   have L:m=0:=by grind
   subst L;exact⟨_,w,IB F hi _ G none c,rfl,rfl,rfl,AV8 _,fun _ _ _=>rfl,.inl ⟨rfl,rfl,rfl⟩⟩
  |some ad=>
   obtain⟨M,w',p,⟨N,q⟩,r,_,C⟩:=run_append_own_at (P:=P) w 0 T ty e i z i.size i.bytes F hi H rfl rfl t x _ n _ o ad m c news J (d ad rfl) K (by simp only[maxLen];omega) a (AXV _);refine⟨M,w',p,r.os,r.tape,r.output,r.size,fun k O Q=>r.block k O (by simp[Value.ownBlock];grind),.inr ?_⟩;rcases q with⟨rfl,Y⟩|⟨g,s,D,rfl,_,R,S,U,V,W⟩
   grind;refine⟨g,s,D,rfl,R,S,U,V,W,?_⟩;rcases C with h|h;simp only[Value.ownBlock,AV3]at h;grind;simp only[Value.ownBlock,AV3]at h;omega
theorem KX{w:World}{T e ty:TypeId}{i:TypeInfo}{z:Value}(q:P.underlying T=some (.slice e))(hi:P.info? e=some i)(F:i.zero=some z)(r:z.cells.size=i.size)
  (a:Option Addr) {A:Option Addr} {m c:Nat} {news:List Value} (s:news.length=m*i.size)
  (G:0<m->A.isSome=true) (f:∀ ad,A=some ad->∀ j u,news[j]? = some u->w.cell? (ad.add j)=some u) (g:m<=4294967296) (t:i.bytes<=1024) :
  ∃ v w',(Builtin.append_ #[T,T] ty #[.slice a 0 0,.slice A m c]).run P w = .ok v w'/\w'.os=w.os/\w'.tape=w.tape/\w'.output=w.output/\w.heap.size<=w'.heap.size/\(∀ k,k<w.heap.size->w'.heap[k]? = w.heap[k]?) /\
   ((m=0/\v = .slice a 0 0)\/(∃ d vs,v = .slice (some ⟨w.heap.size,0,none⟩) m d/\w'.heap[w.heap.size]? = some (.cells vs e (0,0))/\m<=d/\d<=maxLen/\vs.size=d*i.size/\vs.toList.take (m*i.size)=news)):=by
 rcases AW9 m with l|l;subst l;exact⟨_,w,IB q hi a (AV8 _) A c,rfl,rfl,rfl,AV8 _,fun _ _=>rfl,.inl ⟨rfl,rfl⟩⟩;obtain⟨ad,rfl⟩:=AXB.1 (G l);have x:m*i.bytes<=281474976710656:=AWx (AXk g t) (by omega);have n:=grownCap_ge w m 0 e;have o:=grownCap_le_maxLen w m 0 e (by simp only[maxLen];omega);have fin:∀ vs:Array Value,vs.toList=news++(Builtin.zeroCells z.cells (grownCap w m 0 e-m)).toList->vs.size=grownCap w m 0 e*i.size/\vs.toList.take (m*i.size)=news:=by intro vs y;refine⟨?_,?_⟩;rw[<- AWP,y,AWF,s,AWP,size_zeroCells,r,<- AXO];grind;grind
 cases a with
  |none=>have p:=run_append_nil (P:=P) w T ty e i z q hi F ad m c news s (f ad rfl) l (by omega) x;obtain⟨B,C⟩:=fin (news.toArray++Builtin.zeroCells z.cells (grownCap w m 0 e-m)) (by simp);exact⟨_,_,p,rfl,rfl,rfl,by simp,fun k D=>heap_alloc_old w.drew _ k D,.inr ⟨_,_,rfl,heap_alloc_new w.drew _,n,o,B,C⟩⟩
  |some b=>
   have p:=run_append_grow (P:=P) w T ty e i z q hi F b 0 0 [] (by simp) (fun j v h=>by simp at h) ad m c news s (f ad rfl) (by omega) (by omega) (by rw[AWs];have:Builtin.nextslicecap m 0=m:=nextslicecap_zero l;grind)
   simp only[AWs]at p;obtain⟨B,C⟩:=fin (([]:List Value).toArray++news.toArray++Builtin.zeroCells z.cells (grownCap w m 0 e-m)) (by simp);exact⟨_,_,p,rfl,rfl,rfl,by simp,fun k D=>heap_alloc_old w.drew _ k D,.inr ⟨_,_,rfl,heap_alloc_new w.drew _,n,o,B,C⟩⟩
end
section
variable {P:Program} {E:Env}
theorem mW{H:List Ob}{fz:List Bool}{slot id:Nat}{T:TypeId}{t:Ty}{xs:List t.den}(b:Bd H fz slot=true)(a:H[id]? = some (.arr T t xs)):slot≠id:=by rintro rfl;rw[(B8 b).1]at a;cases a
theorem Gc{w:World}{F:Nat->Prop}{m:Mp}{H:List Ob}{fz:List Bool}(hi:HI w F m H fz){slot:Nat}(s:Bd H fz slot=true){T e ty:TypeId}{t:Ty}{i:TypeInfo}{z:Value}(K:P.underlying T=some (.slice e))
  (p:P.info? e=some i) (L:i.zero=some z) (q:z.cells.size=i.size) (M:i.size=t.size) (d:0<t.size) (r:i.bytes<=1024) {ys:List t.den} (k:ys.length<=4294967296) (a:Option Addr)
  {A:Option Addr} {c:Nat} {news:List Value} (N:ys≠[]->A.isSome=true) (b:rows (Dat w F t) ys news) (g:∀ ad,A=some ad->∀ j u,news[j]? = some u->w.cell? (ad.add j)=some u) :
  ∃ v w' l,(Builtin.append_ #[T,T] ty #[.slice a 0 0,.slice A ys.length c]).run P w = .ok v w'/\BS w F m H fz w' F l (H.set slot (.arr e t ys)) fz/\Rep w' F l (H.set slot (.arr e t ys)) (.own slot) v:=by
 have O:=fun(x:t.den) cs (h:Dat w F t x cs)=>Dat.length t h;have X:=Bv O b;obtain⟨v,w',n,y,B,C,D,G,Q⟩:=KX (P:=P) (w:=w) (ty:=ty) K p L q a (A:=A) (m:=ys.length) (c:=c) (news:=news) (by grind) (fun h=>N (by grind)) g k r;rcases Q with⟨R,rfl⟩|⟨I,vs,rfl,S,U,V,Y,Z⟩
 have W:ys=[]:=AWb R;subst W;have o:=BS.grow hi y B C D G;obtain⟨l,J,f⟩:=Ek o.2 s e d a;exact⟨_,w',l,n,o.trans J,f⟩;obtain⟨l,J,f⟩:=GO hi s d S y B C D G U V (by grind) b (by grind);grind
theorem uJ{w:World}{F:Nat->Prop}{m:Mp}{H:List Ob}{fz:List Bool}(hi:HI w F m H fz){slot:Nat}(J:Bd H fz slot=true){T e ty:TypeId}{t:Ty}{i:TypeInfo}{z:Value}(K:P.underlying T=some (.slice e))
  (n:P.info? e=some i) (L:i.zero=some z) (o:z.cells.size=i.size) (p:i.size=t.size) (k:0<t.size) (q:i.bytes<=1024) {xs ys:List t.den} (r:xs.length+ys.length<=4294967296) (y:ys≠[])
  {s:Value} (M:Rep w F m H (.clip t xs) s) {A:Option Addr} {c:Nat} {news:List Value} (N:ys≠[]->A.isSome=true) (d:rows (Dat w F t) ys news) (f:∀ ad,A=some ad->∀ j u,news[j]? = some u->w.cell? (ad.add j)=some u) :
  ∃ v w' C,(Builtin.append_ #[T,T] ty #[s,.slice A ys.length c]).run P w = .ok v w'/\BS w F m H fz w' F C (H.set slot (.arr e t (xs++ys))) fz/\Rep w' F C (H.set slot (.arr e t (xs++ys))) (.own slot) v:=by
 have O:=fun(x:t.den) cs (h:Dat w F t x cs)=>Dat.length t h;unfold Rep at M;obtain⟨⟨a0,Q,R,_,X⟩,a,rfl⟩:=M;simp only[AWc,Value.slice.injEq,AYO]at R;obtain⟨rfl, -, -⟩:=R;by_cases S:xs=[]
 subst S;exact Gc hi J K n L o p k q (by omega) a N d f;obtain⟨ad,l,rfl,hF,B,D⟩:=X S;obtain⟨U,rfl⟩:=AXB.1 (N y);have Y:=Bv O d;have G:=Bv O B;have Z:0<ys.length:=List.length_pos_iff.2 y;have g:(xs.length+ys.length)*i.bytes<=140737488355328:=AWx (AXk r q) (by omega);have hr:=run_append_grow (P:=P) w T ty e i z K n L ad xs.length xs.length l (by grind) D U ys.length c news (by grind) (f U rfl) (by omega) (by omega) (growslice_fits (by omega) g);have hge:=grownCap_ge w (xs.length+ys.length) xs.length e;have I:=grownCap_le_maxLen w (xs.length+ys.length) xs.length e (by simp only[maxLen];omega);have V:(l++news).length=(xs.length+ys.length)*t.size:=by grind
 obtain⟨C,hg,W⟩:=GO hi J (w':=w.drew.alloc (.cells (l.toArray++news.toArray++Builtin.zeroCells z.cells (grownCap w (xs.length+ys.length) xs.length e-(xs.length+ys.length))) e)) k (xs:=xs++ys) (heap_alloc_new w.drew _) rfl rfl rfl (by simp) (fun b hb=>heap_alloc_old w.drew _ b hb)
  (cap:=grownCap w (xs.length+ys.length) xs.length e) (by grind) I (by
   rw[Array.size_append,Array.size_append,AXJ,AXJ,size_zeroCells,o,p,G,Y,<- AXO,<- AXO];grind) (JI B d) (by
   grind)
 grind
theorem XC{w:World}{F:Nat->Prop}{m:Mp}{H:List Ob}{fz:List Bool}(hi:HI w F m H fz){slot:Nat}(V:Bd H fz slot=true){T e ty:TypeId}{t:Ty}{i:TypeInfo}{z:Value}(K:P.underlying T=some (.slice e))
  (L:P.info? e=some i) (hz:i.zero=some z) (M:z.cells.size=i.size) (N:i.size=t.size) (s:0<t.size) (O:i.bytes<=1024) {id:Nat} {xs:List t.den} (Q:H[id]? = some (.arr e t xs)) (y:BN fz id=true)
  {b cap:Nat} (hm:m id=some (b,cap)) {n:Nat} (hn:n<=xs.length) {ys:List t.den} (B:n+ys.length<=4294967296)
  {A:Option Addr} {c:Nat} {news:List Value} (hA:ys≠[]->A.isSome=true) (f:rows (Dat w F t) ys news) (o:∀ ad,A=some ad->∀ j u,news[j]? = some u->w.cell? (ad.add j)=some u) :
  ∃ v w' r,(Builtin.append_ #[T,T] ty #[.slice (some ⟨b,0,none⟩) n cap,.slice A ys.length c]).run P w = .ok v w' /\
   BS w F m H fz w' F r ((H.set id .dead).set slot (.arr e t (xs.take n++ys))) fz/\Rep w' F r ((H.set id .dead).set slot (.arr e t (xs.take n++ys))) (.own slot) v:=by
 have C:=fun(x:t.den) cs (h:Dat w F t x cs)=>Dat.length t h;have hl:=Bv C f;obtain⟨_,D⟩:=hi.obj id _ Q;rw[hm]at D;obtain⟨vs,p,W,e2,X,e4,Y,e6⟩:=D;have R:=Bv C Y;have G:vs.toList.take (n*i.size)=p.take (n*t.size):=by rw[<- e6,AYB,N,AXn (by rw[R];exact AWn _ hn)]
 obtain⟨v,w',Z,d⟩:=RB (P:=P) (w:=w) (ty:=ty) K L hz M (by omega) W (n:=n) (by omega) X (by grind) (A:=A) (m:=ys.length) (c:=c) (news:=news) (by grind) (fun h=>hA (by grind)) o
  (fun u K=>Rv (fun x cs (h:Dat w F t x cs)=>Dat.IW t h) f u K) B O
 rw[G]at d;have I:(xs.take n++ys).length=n+ys.length:=by grind
 have S:=JI (Ew C n Y) f;have q:∀ k,F k->w'.heap[k]? = w.heap[k]? := fun k ha=>by
  have h1:k≠b:=by rintro h;exact hi.off id b cap (DG Q y) hm (h▸ha)
  exact d.keep _ (hi.lt _ ha) (fun b' h=>by grind)
 have hlts:=BU (B8 V).1;have U:((H.set id .dead).set slot (.arr e t (xs.take n++ys)))[slot]? = some (.arr e t (xs.take n++ys)):=Bk (by grind)
 have J:∀ (g a:Nat) (l:Array Value),(w.heap.size<=g\/g=b)->w'.heap[g]? = some (.cells l e (0,0))->n+ys.length<=a->a<=maxLen->l.size=a*t.size->l.toList.take ((n+ys.length)*t.size)=p.take (n*t.size)++news ->
   ∃ r,BS w F m H fz w' F r ((H.set id .dead).set slot (.arr e t (xs.take n++ys))) fz/\Rep w' F r ((H.set id .dead).set slot (.arr e t (xs.take n++ys))) (.own slot) (.slice (some ⟨g,0,none⟩) (n+ys.length) a):=by
  intro g a l hg q1 q2 q3 q4 q5
  have:=BS.move (w':=w') hi (DG Q y) hm V (ob:=.arr e t (xs.take n++ys)) trivial (b':=g) (c':=a) hg.symm d.os d.tape d.output d.size (fun k C hne=>d.keep k C (fun b' h=>by grind))
   (fun _=>⟨s,l,p.take (n*t.size)++news,q1,by omega,q3,q4,B7 (fun x _ cs hx=>hx.mono q (fun _ h=>h) t) S,by
    grind⟩)
  refine⟨_,this,?_⟩
  unfold Rep
  rw[U,BY,<- I]
  rfl
 rcases d.res with⟨h0,rfl,rfl⟩|⟨g,a,l,rfl,q1,q2,q3,q4,q5,q6⟩
 have hy:ys=[]:=AWb h0;subst hy;obtain⟨r,hg,hrep⟩:=J b cap vs (.inr rfl) W (by omega) X e4 (by simp_all)
 grind;grind
theorem mh{w w':World}{ρc:Operand->Value}{o:Oper}{T d:TypeId}{s x:Operand}{v n u:Value}(b:o.op = .call { callee:=.builtin .append,args:=#[s,x],argTypes:=#[T,d] })(e:ρc s=v)(f:ρc x=n)
  (a:(Builtin.append_ #[T,d] o.type #[v,n]).run P w = .ok u w'):(execOp ρc o).run P w = .ok (.value u) w':=by simp[execOp,b,resolve,invoke,builtin,e,f,a]
theorem uH{w:World}{F:Nat->Prop}{m:Mp}{H:List Ob}{fz:List Bool}(hi:HI w F m H fz){slot:Nat}(J:Bd H fz slot=true){T r e ty:TypeId}{t:Ty}{i:TypeInfo}{z:Value}(K:P.underlying T=some (.slice e))
  (d:P.info? e=some i) (Q:i.zero=some z) (s:Cv (zeroCells t) z.cells.toList=true) (R:i.size=t.size) (c:0<t.size) (u:i.bytes<=1024) {S kx:IntKind} (L:P.underlying r=some (.int S)) {n:Nat} (f:n<=4294967296) :
  ∃ v w' g,(Builtin.append_ #[T,r] ty #[.slice none 0 0,.int kx n]).run P w = .ok v w'/\BS w F m H fz w' F g (H.set slot (.arr e t (List.replicate n t.zero))) fz/\Rep w' F g (H.set slot (.arr e t (List.replicate n t.zero))) (.own slot) v:=by
 have j:=CO (w:=w) (F:=F) t _ s;have y:z.cells.size=t.size:=by rw[<- AWP];exact Dat.length t j
 have M:IntKind.i64.wrap (n:Int)=n:=IntWalk.i64_in _ (by omega);have U:(n:Int)*(i.bytes:Int)<=281474976710656:=by have:n*i.bytes<=4294967296*1024:=AXk f u;omega
 rcases AW9 n with A|A;subst A;obtain⟨g,V,l⟩:=Ek (w:=w) hi J e c none;refine⟨.slice none 0 0,w,g,?_,by grind,by grind⟩;have B:IntKind.i64.wrap 0=0:=M;simp[Builtin.append_,run_underlying K,run_underlying L,sizeOf,typeInfo,d,asInt,asIntOf,B];have W:=grownCap_ge w n 0 e;have C:=grownCap_le_maxLen w n 0 e (by simp only[maxLen];omega);have a:=GC (w:=w) (F:=F) j n;have D:=Bv (fun x cs (h:Dat w F t x cs)=>Dat.length t h) a;rw[AWj]at D;have q:∀ k,(Builtin.zeroCells z.cells k).toList=(List.replicate k z.cells.toList).flatten:=Dt z.cells;have N:(Builtin.append_ #[T,r] ty #[.slice none 0 0,.int kx n]).run P w = .ok (.slice (some ⟨w.heap.size,0,none⟩) n (grownCap w n 0 e)) (w.drew.alloc (.cells (Builtin.zeroCells z.cells n++Builtin.zeroCells z.cells (grownCap w n 0 e-n)) e)):=by
  have X:n≠0:=by omega
  have G:¬ ((n:Int)<0):=by omega
  have I:¬ (281474976710656<(n:Int)*(i.bytes:Int)):=by omega
  have o:¬ (9223372036854775807<(n:Int)):=by omega
  have p:¬ (281474976710656<Builtin.nextslicecap n 0*i.bytes):=by rw[nextslicecap_zero A];omega
  have O:¬ (i.size=0):=by omega
  simp[Builtin.append_,run_underlying K,run_underlying L,sizeOf,typeInfo,zeroValue,d,Q,asInt,asIntOf,M,X,G,I,o,p,Question.forced,run_firstCells_none,newRow,grownCap];grind
 obtain⟨g,V,l⟩:=GO hi J (w':=w.drew.alloc (.cells (Builtin.zeroCells z.cells n++Builtin.zeroCells z.cells (grownCap w n 0 e-n)) e)) c (xs:=List.replicate n t.zero) (heap_alloc_new w.drew _) rfl rfl rfl (by simp) (fun b Y=>heap_alloc_old w.drew _ b Y)
  (cap:=grownCap w n 0 e) (by grind) C (by
   rw[Array.size_append,size_zeroCells,size_zeroCells,y,<- AXO];grind) a (by
   grind)
 grind
end
section
variable {P:Program}
theorem PW{H:List Ob}{fz:List Bool}{ids:List Nat}{i:Ix}(h:owned H (BK ids fz) i):owned H fz i:=by
 cases i with
  |r i k=>simp only[owned]at *;split at h;rw[Bg]at h;grind;omega
  |o i=>
   simp only[owned,Cn]at *;cases a:H[i]? with
    |none=>grind
    |some o=>
     rw[a]at h;cases o with
      |free=>omega
      |dead=>omega
      |box cs=>trivial
      |map k v b=>trivial
      |prs T t c=>trivial
      |rows T e t xs ver out=>simp only at h |-;rw[Bg]at h;grind
      |arr T t xs=>simp only at h |-;rw[Bg]at h;grind
theorem hJ{w w':World}{F:Nat->Prop}{m:Mp}{H:List Ob}{fz:List Bool}(hi:HI w F m H fz){id:Nat}{e:TypeId}{t:Ty}{xs:List t.den}(z:H[id]? = some (.arr e t xs))(A:BN fz id=true)
  (os:w'.os=w.os) (tape:w'.tape=w.tape) (output:w'.output=w.output) (size:w.heap.size<=w'.heap.size) (G:Nat->Prop)
  (M:∀ k,G k->k<w'.heap.size/\((∃ c,m id=some (k,c))\/w.heap.size<=k)) (X:∀ b c,m id=some (b,c)->G b)
  (d:∀ k,k<w.heap.size->(∀ c,m id≠some (k,c))->w'.heap[k]? = w.heap[k]?)
  (N:ObI w' (fun k=>F k\/G k) m H (.arr e t xs) (m id)):BS w F m H fz w' (fun k=>F k\/G k) m H (BK [id] fz):=by
 have g:=DG z A;have a:∀ i:Ix,owned H (BK [id] fz) i->owned H fz i/\i≠.o id:=by
  intro i h;refine⟨PW h,?_⟩;rintro rfl;simp only[owned,Cn]at h;rw[z]at h;simp only at h;rw[Bg]at h;have y:id<fz.length:=by rw[<- hi.len];grind
  grind
 have f:∀ k,F k->w'.heap[k]? = w.heap[k]? := fun k K=>d _ (hi.lt _ K) (fun c B=>hi.off id _ c g B K);refine⟨⟨os,tape,output,size,fun b C l=>d b C (fun c B=>l id c g B),fun _ h=>.inl h,?_,fun i b c q r=>.inl ⟨i,c,(a i q).1,r⟩,DJ.refl H m⟩,⟨?_,?_,?_,?_,?_,?_,?_,hi.glo.mono f (fun _ h=>.inl h),by rw[D4];exact hi.len⟩⟩;grind;intro j o L;by_cases D:j=id;grind;exact ObI.mono f (fun _ h=>.inl h) (DJ.refl H m) (fun p hd b c y s=>d b s (fun c' n=>hi.ne g n L p hd y D rfl)) (hi.obj j o L);intro i;by_cases l:i=id;subst l;exact C0.plain z rfl;exact C0.mono f (fun _ h=>.inl h) (DJ.refl H m) rfl (fun _ _=>rfl) (fun x E I b c y s=>d b s (fun c' n=>hi.neX g n I y (by rintro rfl;exact l E.symm) rfl)) (hi.row i);intro i O Q t' u ver out v p x E R b c S;have l:i≠id:=by grind
 rw[Bg]at p;simp only[AXN,AV5,AV4,AXe]at p;rcases p with p|⟨p,_⟩
 exact .inl (hi.rfz i O Q t' u ver out v p x E R b c S);omega;exact fun i j b c b' c' q r=>hi.sep i j b c b' c' (a i q).1 (a j r).1;rintro i b c q r (U|V);exact hi.off i b c (a i q).1 r U;rcases(M b V).2 with⟨c',n⟩|h;exact hi.sep i id b c b c' (a i q).1 g (a i q).2 r n rfl;have:=hi.JS (a i q).1 r;omega;intro i T t' u b c v p J;by_cases W:i=id;grind;refine .inl (hi.froz i T t' u b c v ?_ J);rw[Bg]at p;grind;rintro b (h|h);exact AXP (hi.lt b h) size;grind
theorem AN3{w':World}{f:Nat->Prop}{m:Mp}{H:List Ob}{g cap:Nat}{vs:Array Value}{e:TypeId}{t:Ty}{c:List t.den}{a:List Value}(h:w'.heap[g]? = some (.cells vs e (0,0)))(l:vs.toList.take a.length=a)
  (b:rows (Dat w' f t) c a) (hle:c.length<=cap) (i:f g) {n:Nat} (k:n=c.length):Rep w' f m H (.data (.slice t) c) (.slice (some ⟨g,0,none⟩) n cap):=by
 subst k;unfold Rep;show Dat w' f (.slice t) c [_];refine⟨some ⟨g,0,none⟩,cap,rfl,hle,fun _=>⟨⟨g,0,none⟩,a,rfl,i,b,fun j u o => ?_⟩⟩;rw[Addr.add_lit,AWs];have d:vs.toList[j]? = some u:=by grind
 rw[AW4]at d;simp[World.cell?,h,d]
theorem uI{w:World}{F:Nat->Prop}{m:Mp}{H:List Ob}{fz:List Bool}(hi:HI w F m H fz){T e ty:TypeId}{t:Ty}{i:TypeInfo}{z:Value}(O:P.underlying T=some (.slice e))
  (E:P.info? e=some i) (hz:i.zero=some z) (hzs:z.cells.size=i.size) (hsz:i.size=t.size) (I:0<t.size) (Q:i.bytes<=1024) {id:Nat} {xs:List t.den} (R:H[id]? = some (.arr e t xs)) (K:BN fz id=true)
  {ys:List t.den} (S:xs.length+ys.length<=4294967296)
  {A:Option Addr} {c:Nat} {news:List Value} (hA:ys≠[]->A.isSome=true) (l:rows (Dat w F t) ys news) (o:∀ ad,A=some ad->∀ j u,news[j]? = some u->w.cell? (ad.add j)=some u)
  {s:Value} (L:Rep w F m H (.own id) s) :
  ∃ v w' F',(Builtin.append_ #[T,T] ty #[s,.slice A ys.length c]).run P w = .ok v w'/\BS w F m H fz w' F' m H (BK [id] fz)/\Rep w' F' m H (.data (.slice t) (xs++ys)) v:=by
 have y:=fun(x:t.den) cs (h:Dat w F t x cs)=>Dat.length t h;have hl:=Bv y l;have hid:=DG R K;unfold Rep at L;rw[R]at L;have hob:=hi.obj id _ R;obtain⟨_,n⟩:=hob;cases U:m id with
  |none=>
   rw[U]at L n;obtain⟨a,rfl⟩:=L;simp only at n;subst n;obtain⟨v,w',V,h1,h2,h3,h4,W,h6⟩:=KX (P:=P) (w:=w) (ty:=ty) O E hz hzs a (A:=A) (m:=ys.length) (c:=c) (news:=news) (by grind) (fun h=>hA (by grind)) o (by omega) Q;have hg:=hJ (w':=w') hi R K h1 h2 h3 h4 (fun k=>k=w.heap.size/\k<w'.heap.size) (fun k y=>⟨y.2,.inr (AYC y.1.symm)⟩) (fun b c h=>by grind) (fun k y _=>W k y) (by rw[U];exact⟨I,rfl⟩)
   refine⟨v,w',_,V,hg,?_⟩;rw[AWh];rcases h6 with⟨h0,rfl⟩|⟨r,vs,rfl,q1,q2,q3,q4,q5⟩
   have hy:ys=[]:=AWb h0;subst hy;unfold Rep;exact⟨a,0,rfl,AV8 _,fun h=>absurd rfl h⟩;have d:∀ k,F k->w'.heap[k]? = w.heap[k]? := fun k ha=>W _ (hi.lt _ ha);exact AN3 q1 (by grind) (B7 (fun x _ cs X=>X.mono d (fun _ h=>.inl h) t) l) q2 (.inr ⟨rfl,CF q1⟩) rfl
  |some p=>
   obtain⟨b,cap⟩:=p;rw[U]at L n;simp only[Br]at L;obtain⟨vs,f,J,e2,e3,e4,e5,e6⟩:=n;subst L;have hrl:=Bv y e5;have Y:b<w.heap.size:=CF J;have hG:∀ (w':World),w.heap.size<=w'.heap.size->∀ k,(k=b\/(k=w.heap.size/\k<w'.heap.size))->k<w'.heap.size/\((∃ c,m id=some (k,c))\/w.heap.size<=k):=by grind
   have B:∀ (w':World) (C:Array Value),w'.os=w.os->w'.tape=w.tape->w'.output=w.output->w.heap.size<=w'.heap.size->(∀ k,k<w.heap.size->k≠b->w'.heap[k]? = w.heap[k]?)->w'.heap[b]? = some (.cells C e (0,0))->C.size=cap*t.size->C.toList.take f.length=f ->
     (∀ k,F k->w'.heap[k]? = w.heap[k]?)/\BS w F m H fz w' (fun k=>F k\/(k=b\/(k=w.heap.size/\k<w'.heap.size))) m H (BK [id] fz):=by
    intro w' C h1 h2 h3 h4 W h6 h7 h8
    have d:∀ k,F k->w'.heap[k]? = w.heap[k]? := fun k ha=>W _ (hi.lt _ ha) (by rintro h;exact hi.off id b cap hid U (h▸ha))
    refine⟨d,hJ hi R K h1 h2 h3 h4 _ (hG w' h4) (fun b' c' h=>by grind) (fun k y hne=>W k y (by grind)) ?_⟩
    rw[U]
    exact⟨I,C,f,h6,e2,e3,h7,B7 (fun x _ cs X=>X.mono d (fun _ h=>.inl h) t) e5,h8⟩
   have hrr:=JI e5 l;have hlen:(f++news).length=(xs.length+ys.length)*t.size:=by grind
   have fin:∀ (w':World) (g r:Nat) (M:Array Value),(∀ k,F k->w'.heap[k]? = w.heap[k]?)->(g=b\/(g=w.heap.size/\g<w'.heap.size))->w'.heap[g]? = some (.cells M e (0,0))->xs.length+ys.length<=r->M.toList.take (f++news).length=f++news ->
     Rep w' (fun k=>F k\/(k=b\/(k=w.heap.size/\k<w'.heap.size))) m H (.data (.slice t) (xs++ys)) (.slice (some ⟨g,0,none⟩) (xs.length+ys.length) r):=by
    intro w' g r M d hg hgv hle htk
    exact AN3 hgv htk (B7 (fun x _ cs X=>X.mono d (fun _ h=>.inl h) t) hrr) (by grind) (.inr hg) (by simp)
   cases A with
    |none=>
     have hy:ys=[]:=by grind
     subst hy;obtain⟨Z,D⟩:=B w vs rfl rfl rfl (AV8 _) (fun _ _ _=>rfl) J e4 e6;have hn0:news=[]:=AWb (by grind);subst hn0;exact⟨_,w,_,IB O E _ e2 none c,D,fin w b cap vs Z (.inl rfl) J (by omega) (by grind)⟩
    |some ad=>
     have hone:∀ u∈news,u.oneCell'=true:=fun u O=>Rv (fun x cs (h:Dat w F t x cs)=>Dat.IW t h) l u O;by_cases q:xs.length+ys.length<=cap;have hnl:news.length=ys.length*i.size:=by grind
     have hsum:xs.length*i.size+news.length<=vs.size:=by rw[hnl,e4,hsz,<- AXO];exact AWn _ q
     have hr:=run_append_room (P:=P) w T ty e i O E b xs.length cap vs J ad ys.length c news hnl (o ad rfl) hone q hsum;have hrow:vs.toList.take (xs.length*i.size)=f:=by grind
     rw[hrow]at hr;obtain⟨Z,D⟩:=B (w.setRow b (f++news++vs.toList.drop (xs.length*i.size+news.length)).toArray) (f++news++vs.toList.drop (xs.length*i.size+news.length)).toArray rfl rfl rfl (by simp) (fun k _ y=>setRow_other w b k _ y) (setRow_heap w b vs (f++news++vs.toList.drop (xs.length*i.size+news.length)).toArray e _ J) (by grind) (by simp)
     exact⟨_,_,_,hr,D,fin _ b cap _ Z (.inl rfl) (setRow_heap w b vs _ e _ J) q (by grind)⟩;have G:(xs.length+ys.length)*i.bytes<=140737488355328:=AWx (AXk S Q) (by omega);have N:∀ j u,f[j]? = some u->w.cell? ((⟨b,0,none⟩:Addr).add j)=some u:=fun j u hj=>by
      rw[Addr.add_lit,AWs];have hj':vs.toList[j]? = some u:=by grind
      rw[AW4]at hj';simp[World.cell?,J,hj']
     have hr:=run_append_grow (P:=P) w T ty e i z O E hz ⟨b,0,none⟩ xs.length cap f (by grind) N ad ys.length c news (by grind) (o ad rfl) (by omega) (by omega) (growslice_fits (by omega) G);obtain⟨Z,D⟩:=B (w.drew.alloc (.cells (f.toArray++news.toArray++Builtin.zeroCells z.cells (grownCap w (xs.length+ys.length) cap e-(xs.length+ys.length))) e)) vs rfl rfl rfl (by simp) (fun k y _=>heap_alloc_old w.drew _ k y) ((heap_alloc_old w.drew _ b Y).trans J) e4 e6;have hge:=grownCap_ge w (xs.length+ys.length) cap e;exact⟨_,_,_,hr,D,fin _ w.heap.size _ _ Z (.inr ⟨rfl,CF (heap_alloc_new w.drew _)⟩) (heap_alloc_new w.drew _) hge (by grind)⟩
end
section
variable {P:Program}
theorem AS5{w:World}{F:Nat->Prop}{m:Mp}{H:List Ob}{fz:List Bool}(hi:HI w F m H fz){id:Nat}{T:TypeId}{f:Nat}{g:List Int}(i:H[id]? = some (.prs T f g)){v:Value}(e:Rep w F m H (.own id) v):
  ∃ A c,v = .slice A g.length c/\(g≠[]->A.isSome=true)/\∃ us,BF w F m H (Gz f g) us/\(∀ u∈us,u.oneCell'=true)/\∀ ad,A=some ad->∀ j u,us[j]? = some u->w.cell? (ad.add j)=some u:=by
 have d:=hi.obj id _ i;unfold Rep at e;rw[i]at e;cases k:m id with
  |none=>rw[k]at e d;obtain⟨a,rfl⟩:=e;have d:g=[]:=d;subst d;exact⟨a,0,rfl,fun h=>absurd rfl h,[],by show BF w F m H [] [];unfold BF;rfl,(by simp),fun _ _ j u h=>by simp at h⟩
  |some p=>obtain⟨b,cap⟩:=p;rw[k]at e d;simp only[Br]at e;obtain⟨vs,us,l,q,r,s,n,o,t⟩:=d;refine⟨some ⟨b,0,none⟩,cap,e,fun _=>rfl,us,n,o,fun ad h j u x => ?_⟩;cases h;rw[C8,EC l];grind
theorem Lc{w:World}{F:Nat->Prop}{m:Mp}{H:List Ob}{fz:List Bool}(hi:HI w F m H fz){slot:Nat}(r:Bd H fz slot=true){T e ty:TypeId}{i:TypeInfo}{z:Value}(G:P.underlying T=some (.slice e))
  (p:P.info? e=some i) (I:i.zero=some z) (J:z.cells.size=1) (K:i.size=1) (q:i.bytes<=1024) {b:Nat} {ys:List Int} (g:ys.length<=4294967296) (a:Option Addr)
  {A:Option Addr} {c:Nat} {news:List Value} (L:ys≠[]->A.isSome=true) (s:BF w F m H (Gz b ys) news) (k:∀ u∈news,u.oneCell'=true) (f:∀ ad,A=some ad->∀ j u,news[j]? = some u->w.cell? (ad.add j)=some u) :
  ∃ v w' l,(Builtin.append_ #[T,T] ty #[.slice a 0 0,.slice A ys.length c]).run P w = .ok v w'/\BS w F m H fz w' F l (H.set slot (.prs e b ys)) fz/\Rep w' F l (H.set slot (.prs e b ys)) (.own slot) v:=by
 have U:news.length=ys.length:=by rw[Ba s,Zu]
 obtain⟨v,w',n,t,x,y,B,C,M⟩:=KX (P:=P) (w:=w) (ty:=ty) G p I (by omega) a (A:=A) (m:=ys.length) (c:=c) (news:=news) (by grind) (fun h=>L (by grind)) f g q;rcases M with⟨N,rfl⟩|⟨D,vs,rfl,O,Q,R,V,W⟩
 have S:ys=[]:=AWb N;subst S;have o:=BS.grow hi t x y B C;obtain⟨l,E,d⟩:=eR o.2 r e b a;exact⟨_,w',l,n,o.trans E,d⟩;obtain⟨l,E,d⟩:=So hi r O t x y B C Q R (by grind) s k (by grind);grind
theorem Xj{w:World}{F:Nat->Prop}{m:Mp}{H:List Ob}{fz:List Bool}(hi:HI w F m H fz){slot:Nat}(L:Bd H fz slot=true){T e ty:TypeId}{i:TypeInfo}{z:Value}(M:P.underlying T=some (.slice e))
  (D:P.info? e=some i) (Y:i.zero=some z) (Z:z.cells.size=1) (hsz:i.size=1) (E:i.bytes<=1024) {d id:Nat} {xs:List Int} (N:H[id]? = some (.prs e d xs))
  {b cap:Nat} (hm:m id=some (b,cap)) {ys:List Int} (s:xs.length+ys.length<=4294967296)
  {A:Option Addr} {c:Nat} {news:List Value} (hA:ys≠[]->A.isSome=true) (O:BF w F m H (Gz d ys) news) (t:∀ u∈news,u.oneCell'=true) (o:∀ ad,A=some ad->∀ j u,news[j]? = some u->w.cell? (ad.add j)=some u) :
  ∃ v w' r,(Builtin.append_ #[T,T] ty #[.slice (some ⟨b,0,none⟩) xs.length cap,.slice A ys.length c]).run P w = .ok v w' /\
   BS w F m H fz w' F r ((H.set id .dead).set slot (.prs e d (xs++ys))) fz/\Rep w' F r ((H.set id .dead).set slot (.prs e d (xs++ys))) (.own slot) v:=by
 have hl:news.length=ys.length:=by rw[Ba O,Zu]
 have x:=hi.obj id _ N;rw[hm]at x;obtain⟨vs,us,e1,e2,e3,e4,Q,e6,e7⟩:=x;have hul:us.length=xs.length:=by rw[Ba Q,Zu]
 have y:vs.toList.take (xs.length*i.size)=us:=by grind
 obtain⟨v,w',R,f⟩:=RB (P:=P) (w:=w) (ty:=ty) M D Y (by omega) (by omega) e1 (n:=xs.length) e2 e3 (by grind) (A:=A) (m:=ys.length) (c:=c) (news:=news) (by grind) (fun h=>hA (by grind)) o
  t s E
 rw[y]at f;have B:(xs++ys).length=xs.length+ys.length:=AWF ..;have G:BF w F m H (Gz d (xs++ys)) (us++news):=by rw[AKz];exact H5 Q O
 have p:∀ u∈us++news,u.oneCell'=true:=fun u M=>by grind
 have S:=BU (B8 L).1;have I:((H.set id .dead).set slot (.prs e d (xs++ys)))[slot]? = some (.prs e d (xs++ys)):=Bk (by grind);have hnl:(us++news).length=xs.length+ys.length:=by grind
 have C:∀ (g a:Nat) (l:Array Value),(w.heap.size<=g\/g=b)->w'.heap[g]? = some (.cells l e (0,0))->xs.length+ys.length<=a->a<=maxLen->l.size=a->l.toList.take (xs.length+ys.length)=us++news ->
   ∃ r,BS w F m H fz w' F r ((H.set id .dead).set slot (.prs e d (xs++ys))) fz/\Rep w' F r ((H.set id .dead).set slot (.prs e d (xs++ys))) (.own slot) (.slice (some ⟨g,0,none⟩) (xs.length+ys.length) a):=by
  intro g a l U J V K W q5
  have:=BS.move (w':=w') hi (gj N) hm L (ob:=.prs e d (xs++ys)) trivial (b':=g) (c':=a) U.symm f.os f.tape f.output f.size (fun k hk hne=>f.keep k hk (fun b' h=>by grind))
   (fun q=>⟨l,us++news,J,by omega,K,W,uP q G,p,by grind⟩)
  refine⟨_,this,?_⟩
  unfold Rep
  rw[I,BY,<- B]
  rfl
 rcases f.res with⟨h0,rfl,rfl⟩|⟨g,a,l,rfl,J,V,K,W,q5,q6⟩
 grind;obtain⟨r,U,X⟩:=C g a l (by grind) J V K (by grind) (by grind);grind
end
section
variable {P:Program}
theorem AA4{w:World}{F:Nat->Prop}{m:Mp}{H:List Ob}{fz:List Bool}(hi:HI w F m H fz){T e ty:TypeId}{t:Ty}{i:TypeInfo}{z:Value}(hu:P.underlying T=some (.slice e))
  (V:P.info? e=some i) (hz:i.zero=some z) (W:z.cells.size=i.size) (hsz:i.size=t.size) (B:0<t.size) (X:i.bytes<=1024) {id k ver:Nat} {o:RK} {xs:List (List t.den)} (Y:H[id]? = some (.rows o e t xs ver none)) (Z:fz.getD id false=false)
  {v:Value} (hv:Rep w F m H (.rowp id k ver) v) {ys:List t.den} (N:(A9 xs k []).length+ys.length<=4294967296)
  {A:Option Addr} {c:Nat} {news:List Value} (hA:ys≠[]->A.isSome=true) (q:rows (Dat w F t) ys news) (G:∀ ad,A=some ad->∀ j u,news[j]? = some u->w.cell? (ad.add j)=some u) :
  ∃ O w' J,(Builtin.append_ #[T,T] ty #[v,.slice A ys.length c]).run P w = .ok O w'/\BS w F m H fz w' F J (H.set id (.rows o e t (o.put xs k (BV (A9 xs k []) ys)) (ver+1) (some k))) fz /\
   Rep w' F J (H.set id (.rows o e t (o.put xs k (BV (A9 xs k []) ys)) (ver+1) (some k))) (.rowp id k (ver+1)) O:=by
 have hk:=fun(x:t.den) cs (h:Dat w F t x cs)=>Dat.length t h
 have hl:=Bv hk q
 unfold Rep at hv
 rw[Y]at hv
 obtain⟨_,_,h7⟩:=hv
 obtain⟨s,Q,hzz,hnx,C,K,S,hle⟩:∃ (s:List t.den) (Q:Option (Nat×Nat)),A9 xs k []=s/\(xs[k]? = some s\/(o.KJ=false/\k=xs.length))/\Br (some (.arr 0 t s)) Q v/\ObI w F m H (.arr e t s) Q /\
   (∀ b c,Q=some (b,c)->owned H fz (.r id k)/\m (.r id k)=some (b,c))/\k<=xs.length:=by
  rcases h7 rfl with⟨s,E,R⟩|⟨h0,E,R⟩
  ·exact⟨s,m (.r id k),by unfold A9;grind,.inl E,R,(hi.row id o e t xs ver none Y k s E).1,fun b c h=>⟨UD Y Z (I1 E),h⟩,AX0 (I1 E)⟩
  ·refine⟨[],none,?_,.inr ⟨h0,E⟩,⟨_,R⟩,⟨B,rfl⟩,(fun b c h=>by cases h),AYC E⟩
   unfold A9
   grind
 rw[hzz]at N |-
 have hput:∀ y:List t.den,(o.put xs k y)[k]? = some y/\(∀ L,L≠k->(o.put xs k y)[L]? = xs[L]?)/\(o.KJ=true->xs.length=(o.put xs k y).length)/\(xs.length=(o.put xs k y).length\/(o.KJ=false/\k=xs.length/\(o.put xs k y).length=xs.length+1)):=by
  intro y
  have hlt:k<xs.length->((xs.set k y)[k]? = some y/\(∀ L,L≠k->(xs.set k y)[L]? = xs[L]?)/\(o.KJ=true->xs.length=(xs.set k y).length)/\(xs.length=(xs.set k y).length\/(o.KJ=false/\k=xs.length/\(xs.set k y).length=xs.length+1))):=fun h=>
   ⟨List.getElem?_set_self h,fun L hk'=>List.getElem?_set_ne (AXx hk'),fun _=>List.length_set.symm,.inl List.length_set.symm⟩
  cases o with
  |arr T=>exact hlt (by rcases hnx with h|⟨h,_⟩;exact I1 h;cases h)
  |map j ks=>
   simp only[RK.put,XY]
   grind
 have fin:∀ (w':World) (l:Option (Nat×Nat)) (O:Value),(∀ b c,l=some (b,c)->(∃ c0,Q=some (b,c0))\/w.heap.size<=b)->w'.os=w.os->w'.tape=w.tape->w'.output=w.output->w.heap.size<=w'.heap.size ->
   (∀ b,b<w.heap.size->(∀ c,Q≠some (b,c))->w'.heap[b]? = w.heap[b]?)->((∀ {d:t.den} {cs:List Value},Dat w F t d cs->Dat w' F t d cs)->ObI w' F m H (.arr e t (s++ys)) l)->Br (some (.arr e t (s++ys))) l O ->
   ∃ J,BS w F m H fz w' F J (H.set id (.rows o e t (o.put xs k (BV s ys)) (ver+1) (some k))) fz/\Rep w' F J (H.set id (.rows o e t (o.put xs k (BV s ys)) (ver+1) (some k))) (.rowp id k (ver+1)) O:=by
  intro w' l O hl' E R h3 h4 h5 h6 h8
  obtain⟨p1,p2,p3,p4⟩:=hput (BV s ys)
  have hg:=BS.AVr hi Y Z l p1 p2 p3 (fun b cap _ h=>by
    rcases p4 with p4|⟨p4,p5,p6⟩
    ·rw[<- p4];exact h.out (by grind)
    ·cases o with
     |arr T=>cases p4
     |map j ks=>
      obtain⟨ms,U,e1,e2,e3,e4,_⟩:=h
      have e4:=e4.resolve_right fun h=>by cases h.1
      exact⟨ms,U,e1,e2,e3,.inr ⟨by grind,by omega⟩,fun L h=>by grind⟩)
   (fun ha hx=>AWb (by grind))
   (fun b c h=>(hl' b c h).imp (fun ⟨c0,h⟩=>⟨c0,S b c0 h⟩) (fun h=>h)) E R h3 h4 (fun b hb hn=>h5 b hb fun c hc=>(hn c (S b c hc).1 (S b c hc).2)) h6
  refine⟨_,hg,?_⟩
  unfold Rep
  rw[Bk (BU Y),Iq]
  exact⟨h8.one,AV8 _,fun _=>.inl ⟨s++ys,p1,h8⟩⟩
 cases hm:Q with
 |none=>
  rw[hm]at K C
  obtain⟨a,rfl⟩:=C
  obtain⟨_,hzn⟩:=K
  simp only at hzn
  subst hzn
  obtain⟨O,w',hrun,E,R,h3,h4,h5,h6⟩:=KX (P:=P) (w:=w) (ty:=ty) hu V hz W a (A:=A) (m:=ys.length) (c:=c) (news:=news) (by grind) (fun h=>hA (by grind)) G (by omega) X
  rcases h6 with⟨h0,rfl⟩|⟨D,vs,rfl,q1,q2,q3,q4,q5⟩
  ·have hy:ys=[]:=AWb h0
   subst hy
   obtain⟨J,hg,hr⟩:=fin w' none _ (fun b c h=>by cases h) E R h3 h4 (fun b hb _=>h5 b hb) (fun _=>⟨B,rfl⟩) ⟨a,rfl⟩
   grind
  ·obtain⟨J,hg,hr⟩:=fin w' (some (w.heap.size,D)) _ (fun b c h=>by grind) E R h3 h4 (fun b hb _=>h5 b hb)
    (fun hd=>⟨B,vs,news,q1,q2,q3,by grind,B7 (fun x _ cs hx=>hd hx) q,by grind⟩) rfl
   grind
 |some p=>
  obtain⟨b,cap⟩:=p
  rw[hm]at K C
  obtain⟨_,vs,M,e1,e2,e3,e4,e5,e6⟩:=K
  simp only[Br]at C
  subst C
  have hrl:=Bv hk e5
  obtain⟨O,w',hrun,f⟩:=RB (P:=P) (w:=w) (ty:=ty) hu V hz W (by omega) e1 (n:=s.length) e2 e3 (by grind) (A:=A) (m:=ys.length) (c:=c) (news:=news) (by grind) (fun h=>hA (by grind)) G
   (fun u hu=>Rv (fun x cs (h:Dat w F t x cs)=>Dat.IW t h) q u hu) N X
  have hold:vs.toList.take (s.length*i.size)=M:=by grind
  rw[hold]at f
  have hr0:=JI e5 q
  have hlen:(M++news).length=(s.length+ys.length)*t.size:=by grind
  have I:∀ b',b'<w.heap.size->(∀ c,Q≠some (b',c))->w'.heap[b']? = w.heap[b']? := fun b' hb' hn=>f.keep b' hb' fun b0 h=>by
   grind
  rcases f.res with⟨h0,rfl,rfl⟩|⟨g,D,vs',rfl,q1,q2,q3,q4,q5,q6⟩
  ·have hy:ys=[]:=AWb h0
   subst hy
   obtain⟨J,hg,hr⟩:=fin w' (some (b,cap)) _ (fun b c h=>by grind) f.os f.tape f.output f.size I
    (fun _=>⟨B,vs,M,e1,by grind,e3,e4,by grind,e6⟩) (by rw[AWk];rfl)
   grind
  ·obtain⟨J,hg,hr⟩:=fin w' (some (g,D)) (.slice (some ⟨g,0,none⟩) (s.length+ys.length) D) (fun b' c h=>by
     grind) f.os f.tape f.output f.size I
    (fun hd=>⟨B,vs',M++news,q1,by grind,q3,by grind,B7 (fun x _ cs hx=>hd hx) hr0,by grind⟩) (by simp only[Br,AWF])
   grind
end
section
variable {P:Program} {E:Env}
theorem nY(args:Array Operand)(ts:Array TypeId):Claim P E (.call { callee:=.builtin .append,args:=args,argTypes:=ts }):=by
 intro R ty ρ H fz slot k r h;simp only[evalOp,Dx]at h;split at h;rename_i s x T T' ha hts;obtain rfl:=ASY ha;obtain rfl:=ASY hts;split at h;rename_i e t M hTT;simp only[AV4]at hTT;subst hTT;split at h;rename_i ys fr zz Q hz S;obtain⟨hu,hty0,D⟩:=Cr M;obtain⟨t',cs'⟩:=zz;obtain⟨hty',hcs',i,z,J,K,hok,I,hza⟩:=CX hz;subst hcs';have:t'=t:=by grind
 subst this;have U:z.cells.size=i.size:=by have hzd:=CO (w:=default) (F:=fun _=>False) t' _ hok;rw[I,<- AWP];exact Dat.length t' hzd
 have G:i.bytes<=1024:=by grind
 split at h;rename_i et V;split at h;rename_i f;split at h;rename_i N;refine⟨_,_,h,fun R' k'=>by simp only[evalOp,Dx,M,AWG,Q,hz,S,V,f,N],Bm fun w F m ρc o y hty hi O => ?_⟩;have d:=O s;rw[V]at d;unfold Rep at d;obtain⟨A,c,q1,q2,q3,news,q4,q5⟩:=Ep hi Q (O x);obtain⟨v,w',X,l,Y,g⟩:=Gc (P:=P) (ty:=o.type) hi N hu J K U I D G (by have:(ys.length:Int)<=4294967296:=(GS _).1 f;omega) none (c:=c) q3 q4 q5;exact⟨v,w',F,X,Cz y d q1 l,Y,g⟩;grind;grind;rename_i t2 xs V;split at h;rename_i xs' hc hne;split at h;rename_i f;split at h;rename_i N;refine⟨_,_,h,fun R' k'=>by simp only[evalOp,Dx,M,AWG,Q,hz,S,V,hc,hne,f,N],Bm fun w F m ρc o y hty hi O => ?_⟩;obtain⟨et,Z⟩:=DP hc;subst et;simp only at Z;subst Z;have d:=O s;rw[V]at d;obtain⟨A,c,q1,q2,q3,news,q4,q5⟩:=Ep hi Q (O x);have q:xs.length+ys.length<=4294967296:=by have:((xs.length:Int)+(ys.length:Int))<=4294967296:=(GS _).1 f;omega
 obtain⟨v,w',X,l,Y,g⟩:=uJ (P:=P) (ty:=o.type) hi N hu J K U I D G q (by grind) d (c:=c) q3 q4 q5;exact⟨v,w',F,X,Cz y rfl q1 l,Y,g⟩;grind;grind;grind;rename_i id V;split at h;rename_i e' t2 xs W;split at h;rename_i C;split at h;rename_i xs' hc;split at h;rename_i f;split at h;rename_i hkp;refine⟨_,_,h,fun R' k'=>by simp only[evalOp,Dx,M,AWG,Q,hz,S,V,W,C,hc,f,hkp],Bm fun w F m ρc o y hty hi O => ?_⟩;simp only[AV5,AV4]at C;obtain⟨hun,rfl⟩:=C;obtain⟨et,Z⟩:=DP hc;subst et;simp only at Z;subst Z;have d:=O s;rw[V]at d;obtain⟨A,c,q1,q2,q3,news,q4,q5⟩:=Ep hi Q (O x);have q:xs.length+ys.length<=4294967296:=by have:((xs.length:Int)+(ys.length:Int))<=4294967296:=(GS _).1 f;omega
 obtain⟨v,w',F',l,Y,g⟩:=uI (P:=P) (ty:=o.type) hi hu J K U I D G W hun q (c:=c) q3 q4 q5 d;exact⟨v,w',F',m,Cz y rfl q1 l,Y,g⟩;rename_i hkp;split at h;rename_i N;refine⟨_,_,h,fun R' k'=>by simp only[evalOp,Dx,M,AWG,Q,hz,S,V,W,C,hc,f,hkp,N],Bm fun w F m ρc o y hty hi O => ?_⟩;simp only[AV5,AV4]at C;obtain⟨hun,rfl⟩:=C;obtain⟨et,Z⟩:=DP hc;subst et;simp only at Z;subst Z;have d:=O s;rw[V]at d;unfold Rep at d;rw[W]at d;obtain⟨A,c,q1,q2,q3,news,q4,q5⟩:=Ep hi Q (O x);have q:xs.length+ys.length<=4294967296:=by have:((xs.length:Int)+(ys.length:Int))<=4294967296:=(GS _).1 f;omega
 have hsn:=mW N W;cases hm:m id with
  |none=>obtain⟨_,L⟩:=hi.obj id _ W;rw[hm]at d L;obtain⟨a,e1⟩:=d;simp only at L;subst L;have B:=BS.kill hi (DG W hun);obtain⟨v,w',X,l,Y,g⟩:=Gc (P:=P) (ty:=o.type) B.2 (MK N hsn) hu J K U I D G (by omega) a (c:=c) q3 q4 q5;exact⟨v,w',F,X,Cz y e1 q1 l,B.trans Y,g⟩
  |some p=>obtain⟨b,cap⟩:=p;rw[hm]at d;simp only[Br]at d;obtain⟨v,w',X,l,Y,g⟩:=XC (P:=P) (ty:=o.type) hi N hu J K U I D G W hun hm (AV8 _) q (c:=c) q3 q4 q5;rw[AWT]at Y g;exact⟨v,w',F,X,Cz y d q1 l,Y,g⟩
 grind;grind;grind;grind;grind;rename_i id kx ver V;split at h;rename_i T0 e' t2 xs ver' W;split at h;rename_i C;split at h;rename_i xs' hc;split at h;rename_i f;refine⟨_,_,h,fun R' k'=>by simp only[evalOp,Dx,M,AWG,Q,hz,S,V,W,C,hc,f],Bm fun w F m ρc o y hty hi O => ?_⟩;simp only[AV5,AV4]at C;obtain⟨hun,rfl,rfl⟩:=C;obtain⟨et,Z⟩:=DP hc;cases et;simp only at Z;subst Z;have hun':fz.getD id false=false:=by unfold BN at hun;grind
 have d:=O s;rw[V]at d;obtain⟨A,c,q1,q2,q3,news,q4,q5⟩:=Ep hi Q (O x);have q:(A9 xs kx []).length+ys.length<=4294967296:=by have:(((A9 xs kx []).length:Int)+(ys.length:Int))<=4294967296:=(GS _).1 f;omega
 obtain⟨v,w',X,l,Y,g⟩:=AA4 (P:=P) (ty:=o.type) hi hu J K U I D G W hun' d q (c:=c) q3 q4 q5;exact⟨v,w',F,X,Cz y rfl q1 l,Y,g⟩;grind;grind;grind;grind;rename_i id n V;split at h;rename_i e' t2 xs W;split at h;rename_i C;split at h;rename_i xs' hc;split at h;rename_i f;split at h;rename_i N;refine⟨_,_,h,fun R' k'=>by simp only[evalOp,Dx,M,AWG,Q,hz,S,V,W,C,hc,f,N],Bm fun w F m ρc o y hty hi O => ?_⟩;simp only[AV5,AV4]at C;obtain⟨hun,rfl⟩:=C;obtain⟨et,Z⟩:=DP hc;subst et;simp only at Z;subst Z;have d:=O s;rw[V]at d;unfold Rep at d;rw[W]at d;obtain⟨hle,d⟩:=d;obtain⟨A,c,q1,q2,q3,news,q4,q5⟩:=Ep hi Q (O x);have q:n+ys.length<=4294967296:=by have:((n:Int)+(ys.length:Int))<=4294967296:=(GS _).1 f;omega
 have hsn:=mW N W;obtain⟨_,L⟩:=hi.obj id _ W
 have zero:∀ a,n=0->ρc s = .slice a 0 0->∃ u w' F' X,(execOp ρc o).run P w = .ok (.value u) w'/\BS w F m H fz w' F' X ((H.set id .dead).set slot (.arr e _ (BV (C5 n xs) ys))) fz /\
   Rep w' F' X ((H.set id .dead).set slot (.arr e _ (BV (C5 n xs) ys))) (.own slot) u:=by
  intro a h0 e1
  subst h0
  have B:=BS.kill hi (DG W hun)
  obtain⟨v,w',X,l,Y,g⟩:=Gc (P:=P) (ty:=o.type) B.2 (MK N hsn) hu J K U I D G (by omega) a (c:=c) q3 q4 q5
  exact⟨v,w',F,X,Cz y e1 q1 l,B.trans Y,g⟩
 cases hm:m id with
  |none=>
   rw[hm]at d L;obtain⟨a,e1⟩:=d;simp only at L;subst L;have hn:n=0:=by grind
   exact zero a hn (by grind)
  |some p=>obtain⟨b,cap⟩:=p;rw[hm]at d L;obtain⟨a,e1,e2⟩:=d;obtain⟨vs,row,o1,o2,_⟩:=L;rcases AW9 cap with hcap|hcap;exact zero a (by omega) (by grind);have ha:=e2 hcap;rw[AXt]at ha;subst ha;obtain⟨v,w',X,l,Y,g⟩:=XC (P:=P) (ty:=o.type) hi N hu J K U I D G W hun hm (n:=n) (by omega) q (c:=c) q3 q4 q5;exact⟨v,w',F,X,Cz y e1 q1 l,Y,g⟩
 grind;grind;grind;grind;grind;grind;grind;rename_i e t M hTT;split at h;rename_i et j n zz kk V Z hz hk S;split at h;rename_i f;split at h;rename_i N;refine⟨_,_,h,fun R' k'=>by simp only[evalOp,Dx,M,hTT,V,Z,hz,hk,S,f,N],Bm fun w F m ρc o y hty hi O => ?_⟩;obtain⟨hu,hty0,D⟩:=Cr M;obtain⟨t',cs'⟩:=zz;obtain⟨hty',hcs',i,z,J,K,hok,I,hza⟩:=CX hz;subst hcs';have:t'=t:=by grind
 subst this;rw[I4]at f;obtain⟨n',rfl⟩:=AV7 f.1;have d:=O s;rw[V]at d;unfold Rep at d;have e2:=Bp (Z▸O x);have G:i.bytes<=1024:=by grind
 obtain⟨v,w',X,l,Y,g⟩:=uH (P:=P) (ty:=o.type) hi N hu J K hok I D G (Hr hk) (kx:=j) (n:=n') (by omega);exact⟨v,w',F,X,mh y d e2 l,Y,g⟩;grind;grind;grind;rename_i M hTT;simp only[AV4]at hTT;subst hTT;split at h;rename_i e ix hce Z;split at h;rename_i e1 tgt ys hox;split at h;rename_i he;simp only[AV4]at he;subst he;obtain⟨hu,ii,z,J,K,I,U,S⟩:=W8 hce;split at h;rename_i et V;split at h;rename_i f;split at h;rename_i N;refine⟨_,_,h,fun R' k'=>by simp only[evalOp,Dx,M,AWG,hce,Z,hox,V,f,N],Bm fun w F m ρc o y hty hi O => ?_⟩;have d:=O s;rw[V]at d;unfold Rep at d;obtain⟨A,c,q1,q2,news,q3,q4,q5⟩:=AS5 hi hox (Z▸O x);obtain⟨v,w',X,l,Y,g⟩:=Lc (P:=P) (ty:=o.type) hi N hu J K U I S (by have:(ys.length:Int)<=4294967296:=(GS _).1 f;omega) none (c:=c) q2 q3 q4 q5;exact⟨v,w',F,X,Cz y d q1 l,Y,g⟩;grind;grind;rename_i id V;split at h;rename_i e2 tgt2 xs W;split at h;rename_i C;split at h;rename_i f;split at h;rename_i N;refine⟨_,_,h,fun R' k'=>by simp only[evalOp,Dx,M,AWG,hce,Z,hox,V,W,C,f,N],Bm fun w F m ρc o y hty hi O => ?_⟩;simp only[AV5,AV4]at C;obtain⟨rfl,rfl⟩:=C;have d:=O s;rw[V]at d;unfold Rep at d;rw[W]at d;obtain⟨A,c,q1,q2,news,q3,q4,q5⟩:=AS5 hi hox (Z▸O x);have q:xs.length+ys.length<=4294967296:=by have:((xs.length:Int)+(ys.length:Int))<=4294967296:=(GS _).1 f;omega
 have hsn:=sP N W;cases hm:m id with
  |none=>have L:=hi.obj id _ W;rw[hm]at d L;obtain⟨a,e1⟩:=d;have L:xs=[]:=L;subst L;have B:=BS.kill hi (gj W);obtain⟨v,w',X,l,Y,g⟩:=Lc (P:=P) (ty:=o.type) B.2 (MK N hsn) hu J K U I S (by omega) a (c:=c) q2 (B.1.AVs hi q3) q4 q5;exact⟨v,w',F,X,Cz y e1 q1 l,B.trans Y,g⟩
  |some p=>obtain⟨b,cap⟩:=p;rw[hm]at d;simp only[Br]at d;obtain⟨v,w',X,l,Y,g⟩:=Xj (P:=P) (ty:=o.type) hi N hu J K U I S W hm q (c:=c) q2 q3 q4 q5;exact⟨v,w',F,X,Cz y d q1 l,Y,g⟩
 grind;grind;grind;grind;grind;grind;grind;grind;grind;grind
end
section
variable {P:Program} {E:Env}
theorem AIY(args:Array Operand)(i:Array TypeId):Claim P E (.call { callee:=.builtin .cap,args:=args,argTypes:=i }):=by intro R ty ρ H fz slot k r h;simp only[evalOp,ACk]at h;split at h;rename_i x T j b;obtain rfl:=AIv j;obtain rfl:=AIv b;split at h;rename_i e p f g;refine⟨_,_,h,fun q s=>by simp only[evalOp,ACk,f,g],BA fun w F m ρc o d l hi n=>⟨.int .i64 0,?_,Bf _ _⟩⟩;have a:=n x;rw[g]at a;unfold Rep at a;simp[execOp,d,resolve,invoke,builtin,a,Builtin.cap_,run_underlying f,goInt];grind;grind
theorem AIV(args:Array Operand)(i:Array TypeId):Claim P E (.call { callee:=.builtin .min,args:=args,argTypes:=i }):=by intro R ty ρ H fz slot k r h;simp only[evalOp,ACi]at h;split at h;rename_i x y l;obtain rfl:=ASY l;split at h;rename_i j a s b e f;refine⟨_,_,h,fun t u=>by simp only[evalOp,ACi,e,f],BA fun w F m ρc o d n hi g=>⟨.int j (Cp a b),?_,Bf _ _⟩⟩;have p:=Bp (e▸g x);have q:=Bp (f▸g y);simp[execOp,d,resolve,invoke,builtin,p,q,run_min_int2,Cp];grind;grind
theorem dY{w:World}(a:Array TypeId)(t:TypeId)(k b:IntKind)(x y:Int):(Builtin.max_ a t #[.int k x,.int b y]).run P w = .ok (.int k (if y > x then y else x)) w:=by simp[Builtin.max_,Builtin.max2]
theorem AIW(args:Array Operand)(i:Array TypeId):Claim P E (.call { callee:=.builtin .max,args:=args,argTypes:=i }):=by intro R ty ρ H fz slot k r h;simp only[evalOp,ACj]at h;split at h;rename_i x y l;obtain rfl:=ASY l;split at h;rename_i j a s b e f;refine⟨_,_,h,fun t u=>by simp only[evalOp,ACj,e,f],BA fun w F m ρc o d n hi g=>⟨.int j (imax a b),?_,Bf _ _⟩⟩;have p:=Bp (e▸g x);have q:=Bp (f▸g y);simp[execOp,d,resolve,invoke,builtin,p,q,dY,imax];grind;grind
theorem NR{H:List Ob}{i:Nat}{o:Ob}(h:H[i]? = some o):H.set i o=H:=by apply AWp;grind
theorem cS{α:Type}{off n:Nat}{z:α}{xs:List α}(h:off+n<=xs.length):(Cd off n z xs).length=xs.length:=by simp only[Cd,AWF,AWt,AWj,AXf];omega
theorem tI{α:Type}(off:Nat)(z:α)(xs:List α):Cd off 0 z xs=xs:=by simp[Cd]
theorem jG{w:World}{F:Nat->Prop}{m:Mp}{H:List Ob}{fz:List Bool}(hi:HI w F m H fz){id:Nat}{T:TypeId}{t:Ty}{xs:List t.den}(i:H[id]? = some (.arr T t xs))(s:BN fz id=true)
  {b cap:Nat} (hm:m id=some (b,cap)) {off n:Nat} (hle:off+n<=xs.length) {z:List Value} (G:Dat w F t t.zero z) (I:∀ u∈z,u.oneCell'=true) {d:Array Value} (l:d.toList=(List.replicate n z).flatten) :
  ∃ w',(storeCells ⟨b,off*t.size,none⟩ d.toList).run P w = .ok () w'/\BS w F m H fz w' F m (H.set id (.arr T t (Cd off n t.zero xs))) fz:=by
 have c:=hi.obj id _ i;obtain⟨J,c⟩:=c;rw[hm]at c;obtain⟨vs,a,v,y,K,W,o,A⟩:=c;have j:=fun(x:t.den) cs (h:Dat w F t x cs)=>Dat.length t h;have B:=Bv j o;have p:=GC (w:=w) (F:=F) G n;have f:=Bv j p;rw[AWj,<- l]at f;have C:off*t.size+n*t.size<=xs.length*t.size:=by have:=AWn t.size hle;grind
 have D:xs.length*t.size<=cap*t.size:=AWn _ y;have L:vs.toList.length=cap*t.size:=by omega
 have g:=run_storeCells_at P b (off*t.size) T d.toList 0 vs w v (by omega) (by simp_all)
 simp only[AXc,f]at g;obtain⟨M,N,O,Q,S⟩:=Hm (w:=w) (b:=b) (cs:=(vs.toList.take (off*t.size)++d.toList++vs.toList.drop (off*t.size+n*t.size)).toArray);refine⟨_,g,?_⟩;refine BS.set hi (DG i s) hm i ⟨rfl,(cS hle).symm⟩ M N O Q S fun q => ?_;refine⟨J,?_⟩;rw[hm];refine⟨_,a.take (off*t.size)++(d.toList++a.drop (off*t.size+n*t.size)),setRow_heap w b vs _ T _ v,by rw[cS hle];exact y,K,?_,?_,?_⟩;grind
 have e:∀ k,F k->(w.setRow b (vs.toList.take (off*t.size)++d.toList++vs.toList.drop (off*t.size+n*t.size)).toArray).heap[k]? = w.heap[k]? := fun k U=>
  Hm.2.2.2.2 k (by rintro rfl;exact hi.off id _ cap (DG i s) hm U)
 refine B7 (R:=Dat w F t) (fun x _ cs V=>V.mono e (fun _ h=>h) t) ?_;have:=Iz j (off+n) o;rw[AXO]at this;exact JI (Ew j off o) (JI (by grind) this)
 ·have r:(a.take (off*t.size)++(d.toList++a.drop (off*t.size+n*t.size))).length=a.length:=by grind
  rw[r];show List.take a.length (vs.toList.take (off*t.size)++d.toList++vs.toList.drop (off*t.size+n*t.size))=_;have I:a.take (off*t.size)=vs.toList.take (off*t.size):=by rw[<- A,AYB,AXn (by omega)]
  have X:a.drop (off*t.size+n*t.size)=(vs.toList.drop (off*t.size+n*t.size)).take (a.length-(off*t.size+n*t.size)):=by
   conv=>lhs;rw[<- A]
   rw[List.drop_take]
  grind
theorem Ji{w w':World}{ρc:Operand->Value}{o:Oper}{T:TypeId}{x:Operand}{v:Value}(b:o.op = .call { callee:=.builtin .clear,args:=#[x],argTypes:=#[T] })(d:ρc x=v)
  (a:(Builtin.clear_ #[T] o.type #[v]).run P w = .ok (.tuple #[]) w'):(execOp ρc o).run P w = .ok (.value (.tuple #[])) w':=by simp[execOp,b,resolve,invoke,builtin,d,a]
theorem JE{w:World}{T e ty:TypeId}(b:P.underlying T=some (.slice e))(a:Option Addr)(c:Nat):(Builtin.clear_ #[T] ty #[.slice a 0 c]).run P w = .ok (.tuple #[]) w:=by cases a<;>simp[Builtin.clear_,run_underlying b]
theorem NX{w w':World}{T e ty:TypeId}(d:P.underlying T=some (.slice e)){i:TypeInfo}{z:Value}(b:P.info? e=some i)(f:i.zero=some z)(a:Addr){n:Nat}(g:0<n)(c:Nat)
  (h:(storeCells a (Builtin.zeroCells z.cells n).toList).run P w = .ok () w'):(Builtin.clear_ #[T] ty #[.slice (some a) n c]).run P w = .ok (.tuple #[]) w':=by
 obtain⟨m,rfl⟩:∃ m,n=m+1:=⟨n-1,by omega⟩
 simp[Builtin.clear_,run_underlying d,B_ b f,h]
theorem ACu{w:World}{F:Nat->Prop}{t:Ty}{d:t.den}{z:List Value}(h:Dat w F t d z):∀ u∈z,u.oneCell'=true:=fun u a=>Dat.IW t h u a
theorem ti(args:Array Operand)(ts:Array TypeId):Claim P E (.call { callee:=.builtin .clear,args:=args,argTypes:=ts }):=by
 intro R ty ρ H fz slot k r h;simp only[evalOp,Ig]at h;split at h;rename_i x T X Y;obtain rfl:=AIv X;obtain rfl:=AIv Y;split at h;rename_i e t s;split at h;rename_i zz W;obtain⟨J,hty0,hpos⟩:=Cr s;obtain⟨t',cs'⟩:=zz;obtain⟨hty',K,i,z,L,M,N,hsz,hza⟩:=CX W;subst K;have:t'=t:=by grind
 subst this;have j:∀ k,(Builtin.zeroCells z.cells k).toList=(List.replicate k z.cells.toList).flatten:=Dt z.cells;split at h;rename_i et B;refine⟨_,_,h,fun R' k'=>by simp only[evalOp,Ig,s,W,B],Bm fun w F m ρc o g O hi Q => ?_⟩;have d:=Q x;rw[B]at d;unfold Rep at d;exact⟨_,w,F,m,Ji g d (JE J _ _),BS.refl hi,by unfold Rep;trivial⟩;rename_i id B;split at h;rename_i v t2 xs l;split at h;rename_i f;refine⟨_,_,h,fun R' k'=>by simp only[evalOp,Ig,s,W,B,l,f],Bm fun w F m ρc o g O hi Q => ?_⟩;simp only[AV5,AV4]at f;obtain⟨f,Z⟩:=f;subst Z;have q:=CO (w:=w) (F:=F) t' _ N;have d:=Q x;rw[B]at d;unfold Rep at d;rw[l]at d;obtain⟨_,y⟩:=hi.obj id _ l
 have C:xs=[]->∀ a c,ρc x = .slice a 0 c->∃ u w' S U,(execOp ρc o).run P w = .ok (.value u) w'/\BS w F m H fz w' S U (DB { objs:=[(id,.arr v t' (Cd 0 xs.length t'.zero xs))] } H) (FN { objs:=[(id,.arr v t' (Cd 0 xs.length t'.zero xs))] } fz) /\
   Rep w' S U (DB { objs:=[(id,.arr v t' (Cd 0 xs.length t'.zero xs))] } H) .C7 u:=by
  intro D a c G
  refine⟨_,w,F,m,Ji g G (JE J _ _),?_,by unfold Rep;trivial⟩
  have:Cd 0 xs.length t'.zero xs=xs:=by rw[D];rfl
  rw[this]
  have hs:DB { objs:=[(id,.arr v t' xs)] } H=H:=NR l
  rw[hs]
  exact BS.refl hi
 cases I:m id with
  |none=>rw[I]at d y;obtain⟨a,G⟩:=d;grind
  |some p=>obtain⟨b,cap⟩:=p;rw[I]at d;simp only[Br]at d;rcases AW9 xs.length with V|V;grind;obtain⟨w',A,hg⟩:=jG (P:=P) hi l f I (off:=0) (n:=xs.length) (by omega) q (ACu q) (j xs.length);rw[AXt]at A;exact⟨_,w',F,m,Ji g d (NX J L M _ V _ A),hg,by unfold Rep;trivial⟩
 grind;grind;rename_i id off n B;split at h;rename_i v t2 xs l;split at h;rename_i f;refine⟨_,_,h,fun R' k'=>by simp only[evalOp,Ig,s,W,B,l,f],Bm fun w F m ρc o g O hi Q => ?_⟩;simp only[AV5,AV4]at f;obtain⟨f,Z⟩:=f;subst Z;have q:=CO (w:=w) (F:=F) t' _ N;have d:=Q x;rw[B]at d;unfold Rep at d;rw[l]at d;obtain⟨hle,d⟩:=d;obtain⟨_,y⟩:=hi.obj id _ l
 have C:n=0->∀ a c,ρc x = .slice a n c->∃ u w' S U,(execOp ρc o).run P w = .ok (.value u) w'/\BS w F m H fz w' S U (DB { objs:=[(id,.arr v t' (Cd off n t'.zero xs))] } H) (FN { objs:=[(id,.arr v t' (Cd off n t'.zero xs))] } fz) /\
   Rep w' S U (DB { objs:=[(id,.arr v t' (Cd off n t'.zero xs))] } H) .C7 u:=by
  intro D a c G
  subst D
  refine⟨_,w,F,m,Ji g G (JE J _ _),?_,by unfold Rep;trivial⟩
  rw[tI]
  have hs:DB { objs:=[(id,.arr v t' xs)] } H=H:=NR l
  rw[hs]
  exact BS.refl hi
 cases I:m id with
  |none=>grind
  |some p=>obtain⟨b,cap⟩:=p;rw[I]at d y;obtain⟨vs,row,o1,o2,_⟩:=y;obtain⟨a,G,e2⟩:=d;rcases AW9 n with V|V;grind;have X:=e2 (by omega);subst X;obtain⟨w',A,hg⟩:=jG (P:=P) hi l f I (off:=off) (n:=n) hle q (ACu q) (j n);exact⟨_,w',F,m,Ji g G (NX J L M _ V _ A),hg,by unfold Rep;trivial⟩
 grind;grind;grind;grind;grind;grind
end
section
variable {P:Program}
def Dv:(t:Ty)->t.den->List Value
 |.unit,_=>[]
 |.bool,b=>[.bool b]
 |.int k,n=>[.int k n]
 |.prod a b,d=>Dv a d.1++Dv b d.2
 |.slice _,_=>[]
 |.arr _ _,_=>[]
 |.nul _,_=>[]
 |.mapi _ _,_=>[]
def C'(t:Ty)(d:t.den):Value:=match t,d with
 |.int k,n=>.int k n
 |t,d=>.agg (Dv t d).toArray
structure AI0(P:Program)(kt:TypeId)(t:Ty):Prop where
 rep:∀ (w:World) (F:Nat->Prop) (d:t.den) (v:Value),Ce w F t d v↔v=C' t d
 check:∀ (w:World) (b:Bool) (d:t.den),(Instr.checkKey b 10000 kt (C' t d)).run P w = .ok () w
 stays:∀ (w:World) (d:t.den),(Instr.keyThatStays (C' t d) (C' t d)).run P w = .ok (C' t d) w
 find:∀ (w:World) (F:Nat->Prop) (b:Ty) (key:t.den) (es:List (t.den×b.den)) (ms:List MapEntry),J4 w F t b es ms ->
  (@E_ _ _ (decDen t) es key=none/\@A_ _ _ (decDen t) es key=none/\(Instr.findKey kt (C' t key) ms).run P w = .ok none w) \/
  (∃ x n me,@E_ _ _ (decDen t) es key=some n/\@A_ _ _ (decDen t) es key=some x/\(Instr.findKey kt (C' t key) ms).run P w = .ok (some (n,me.val)) w/\ms[n]? = some me/\Ce w F b x me.val/\me.key=C' t key)
theorem AI0.store{s:TypeId}{t:Ty}(m:AI0 P s t){w:World}{F:Nat->Prop}{b:Ty}(key:t.den)(val:b.den)(v:Value)(o:Ce w F b val v):∀ {d:List (t.den×b.den)} {f:List MapEntry},J4 w F t b d f ->
  (∀ c,@E_ _ _ (decDen t) d key=none->J4 w F t b (@BG _ _ (decDen t) d key val) (f++[{ key:=C' t key,val:=v,born:=c }])) /\
  (∀ n,@E_ _ _ (decDen t) d key=some n->J4 w F t b (@BG _ _ (decDen t) d key val) (f.modify n fun e=>{ e with key:=C' t key,val:=v })):=by
 haveI:=decDen t;intro d;induction d with
  |nil=>rintro f rfl;exact⟨fun c _=>⟨_,[],rfl,⟨(m.rep w F key _).2 rfl,o⟩,rfl⟩,fun n h=>by simp[E_]at h⟩
  |cons e d u=>rintro f ⟨g,j,rfl,⟨p,q⟩,r⟩;obtain⟨a,x⟩:=e;obtain⟨k,l⟩:=u r;by_cases i:a=key;subst i;refine⟨fun c h=>by simp[E_]at h,fun n h => ?_⟩;simp only[E_,AWf,AV3]at h;subst h;simp only[BG,AWf,List.modify_zero_cons];exact⟨_,j,rfl,⟨(m.rep w F a _).2 rfl,o⟩,r⟩;simp only[BG,i,AWN,E_];refine⟨fun c h => ?_,fun n h => ?_⟩;rw[AYl]at h;exact⟨g,_,rfl,⟨p,q⟩,k c h⟩;rw[AWE]at h;obtain⟨y,z,rfl⟩:=h;rw[List.modify_succ_cons];exact⟨g,_,rfl,⟨p,q⟩,l y z⟩
theorem SN{z:TypeId}{j:IntKind}(G:P.underlying z=some (.int j)):AI0 P z (.int j):=by
 have o:∀ (w:World) (F:Nat->Prop) (d:Int) (v:Value),Ce w F (.int j) d v↔v = .int j d:=by intro w F d v;show Dat w F (.int j) d [v]↔_;simp[Dat]
 refine⟨o,fun w b d => ?_,fun w d => ?_,fun w F b c k l h => ?_⟩;have f:∀ n,(Instr.checkKey b (n+1) z (.int j d)).run P w = .ok () w:=fun n=>by simp[Instr.checkKey,run_underlying G]
 exact f 9999;have f:∀ n,Instr.sameBits n (.int j d) (.int j d)=true:=fun n=>by cases n<;>simp[Instr.sameBits]
 show(Instr.keyThatStays (.int j d) (.int j d)).run P w=_;simp[Instr.keyThatStays,f];rfl;have u:∀ r,Instr.findNow (.int j) (.int j c) l 0=some r->(Instr.findKey z (.int j c) l).run P w = .ok r w:=by intro r A;simp[Instr.findKey,run_underlying G,A]
 have f:∀ (k:List (Int×b.den)) (l:List MapEntry) (i:Nat),J4 w F (.int j) b k l ->
   (E_ (α:=Int) k c=none/\A_ (α:=Int) k c=none/\Instr.findNow (.int j) (.int j c) l i=some none) \/
   (∃ x n m,E_ (α:=Int) k c=some n/\A_ (α:=Int) k c=some x/\Instr.findNow (.int j) (.int j c) l i=some (some (i+n,m.val))/\l[n]? = some m/\Ce w F b x m.val/\m.key = .int j c):=by
  intro k
  induction k with
  |nil=>rintro l i rfl;exact .inl ⟨rfl,rfl,rfl⟩
  |cons e k J=>
   rintro l i ⟨m,p,rfl,⟨K,H⟩,L⟩
   obtain⟨a,x⟩:=e
   have B:=(o w F a _).1 K
   simp only at H
   by_cases g:a=c
   ·subst g
    refine .inr ⟨x,0,m,by simp[E_],by simp[A_],?_,rfl,H,B⟩
    simp[Instr.findNow,Instr.sameNow,B]
   ·have M:Instr.findNow (.int j) (.int j c) (m::p) i=Instr.findNow (.int j) (.int j c) p (i+1):=by
     have:(c==a)=false:=by grind
     simp[Instr.findNow,Instr.sameNow,B,this]
    rcases J p (i+1) L with⟨q,s,t⟩|⟨y,n,C,q,s,t,I,D,E⟩
    ·exact .inl ⟨by simp[E_,g,q],by simp[A_,g,s],by grind⟩
    ·exact .inr ⟨y,n+1,C,by simp[E_,g,q],by simp[A_,g,s],by grind,by grind,D,E⟩
 rcases f k l 0 h with⟨q,s,t⟩|⟨x,n,m,q,s,t,I,D,E⟩
 exact .inl ⟨q,s,u _ t⟩;rw[AWs]at t;exact .inr ⟨x,n,m,q,s,u _ t,I,D,E⟩
theorem S9{w:World}{F:Nat->Prop}:∀ (t:Ty) {n:List Bool},kinds? t=some n->∀ (d:t.den) (cs:List Value),Dat w F t d cs↔cs=Dv t d
 |.unit,_,_,d,cs=>Iff.rfl
 |.prod (.int k) r,n,h,d,cs=>by simp only[kinds?,AWE]at h;obtain⟨f,b,rfl⟩:=h;constructor;rintro⟨c,c2,rfl,a,e⟩;rw[(S9 r b d.2 c2).1 e];have a:c=[.int k d.1]:=a;rw[a];rfl;rintro rfl;exact⟨[.int k d.1],Dv r d.2,rfl,rfl,(S9 r b d.2 _).2 rfl⟩
 |.prod .bool r,n,h,d,cs=>by simp only[kinds?,AWE]at h;obtain⟨f,b,rfl⟩:=h;constructor;rintro⟨c,c2,rfl,a,e⟩;rw[(S9 r b d.2 c2).1 e];have a:c=[.bool d.1]:=a;rw[a];rfl;rintro rfl;exact⟨[.bool d.1],Dv r d.2,rfl,rfl,(S9 r b d.2 _).2 rfl⟩
 |.prod .unit _,_,h,_,_=>by simp[kinds?]at h
 |.prod (.slice _) _,_,h,_,_=>by simp[kinds?]at h
 |.prod (.prod _ _) _,_,h,_,_=>by simp[kinds?]at h
 |.prod (.arr _ _) _,_,h,_,_=>by simp[kinds?]at h
 |.bool,_,h,_,_=>by simp[kinds?]at h
 |.int _,_,h,_,_=>by simp[kinds?]at h
 |.slice _,_,h,_,_=>by simp[kinds?]at h
 |.arr _ _,_,h,_,_=>by simp[kinds?]at h
theorem VI:∀ (t:Ty) {n:List Bool},kinds? t=some n->∀ (d c:t.den),B6 n (CC t d) (CC t c)=some (@decide (d=c) (decDen t d c))
 |.unit,n,h,d,c=>by simp only[kinds?,AV3]at h;subst h;cases d;cases c;simp[CC,B6]
 |.prod (.int k) r,n,h,d,c=>by simp only[kinds?,AWE]at h;obtain⟨f,e,rfl⟩:=h;obtain⟨a,x⟩:=d;obtain⟨b,y⟩:=c;have:=VI r e x y;simp only[CC,AXq,B6,AWG,this,Cj];congr 1;grind
 |.prod .bool r,n,h,d,c=>by simp only[kinds?,AWE]at h;obtain⟨f,e,rfl⟩:=h;obtain⟨a,x⟩:=d;obtain⟨b,y⟩:=c;have:=VI r e x y;simp only[CC,AXq,B6,this];congr 1;grind
 |.prod .unit _,_,h,_,_=>by simp[kinds?]at h
 |.prod (.slice _) _,_,h,_,_=>by simp[kinds?]at h
 |.prod (.prod _ _) _,_,h,_,_=>by simp[kinds?]at h
 |.prod (.arr _ _) _,_,h,_,_=>by simp[kinds?]at h
 |.bool,_,h,_,_=>by simp[kinds?]at h
 |.int _,_,h,_,_=>by simp[kinds?]at h
 |.slice _,_,h,_,_=>by simp[kinds?]at h
 |.arr _ _,_,h,_,_=>by simp[kinds?]at h
theorem Qe:∀ (t:Ty) {n:List Bool},kinds? t=some n->∀ (d:t.den),∀ v∈Dv t d,(∃ k i,v = .int k i)\/∃ b,v = .bool b
 |.unit,_,_,d,v,a=>by simp[Dv]at a
 |.prod (.int k) r,n,h,d,v,a=>by simp only[kinds?,AWE]at h;obtain⟨e,c,rfl⟩:=h;simp only[Dv,AXq,AWO]at a;rcases a with rfl|a;simp;exact Qe r c d.2 v a
 |.prod .bool r,n,h,d,v,a=>by simp only[kinds?,AWE]at h;obtain⟨e,c,rfl⟩:=h;simp only[Dv,AXq,AWO]at a;rcases a with rfl|a;simp;exact Qe r c d.2 v a
 |.prod .unit _,_,h,_,_,_=>by simp[kinds?]at h
 |.prod (.slice _) _,_,h,_,_,_=>by simp[kinds?]at h
 |.prod (.prod _ _) _,_,h,_,_,_=>by simp[kinds?]at h
 |.prod (.arr _ _) _,_,h,_,_,_=>by simp[kinds?]at h
 |.bool,_,h,_,_,_=>by simp[kinds?]at h
 |.int _,_,h,_,_,_=>by simp[kinds?]at h
 |.slice _,_,h,_,_,_=>by simp[kinds?]at h
 |.arr _ _,_,h,_,_,_=>by simp[kinds?]at h
theorem LD{t:Ty}{n:List Bool}(h:kinds? t=some n)(d:t.den):C' t d = .agg (Dv t d).toArray/\t.isAgg=true:=by cases t<;>first|exact⟨rfl,rfl⟩|(simp[kinds?]at h)
end
section
variable {P:Program}
theorem Qf:∀ (t:Ty) {n:List Bool},kinds? t=some n->∀ (d:t.den),(Dv t d).length=n.length
 |.unit,n,h,d=>by simp only[kinds?,AV3]at h;subst h;rfl
 |.prod (.int k) r,n,h,d=>by simp only[kinds?,AWE]at h;obtain⟨b,a,rfl⟩:=h;simp[Dv,Qf r a d.2]
 |.prod .bool r,n,h,d=>by simp only[kinds?,AWE]at h;obtain⟨b,a,rfl⟩:=h;simp[Dv,Qf r a d.2]
 |.prod .unit _,_,h,_=>by simp[kinds?]at h
 |.prod (.slice _) _,_,h,_=>by simp[kinds?]at h
 |.prod (.prod _ _) _,_,h,_=>by simp[kinds?]at h
 |.prod (.arr _ _) _,_,h,_=>by simp[kinds?]at h
 |.bool,_,h,_=>by simp[kinds?]at h
 |.int _,_,h,_=>by simp[kinds?]at h
 |.slice _,_,h,_=>by simp[kinds?]at h
 |.arr _ _,_,h,_=>by simp[kinds?]at h
theorem ni{w:World}{T:TypeId}(h:NU P T=true)(b:Bool)(n:Nat){v:Value}:(Instr.checkKey b (n+1) T v).run P w = .ok () w:=by
 rcases Cw h with⟨k,a,_⟩|⟨a,_⟩
 simp[Instr.checkKey,run_underlying a];simp[Instr.checkKey,run_underlying a]
theorem nj{w:World}(b:Bool)(d:Nat)(xs:Array Value):∀ (fs:List Field) (i:Nat),En P fs i=true->i+fs.length<=xs.size ->
  (forIn fs PUnit.unit fun (f : Field) (_ : PUnit) => ((if f.name ≠ "_" then (part f.type xs f.offset >>= fun v => Instr.checkKey b (d + 1) f.type v >>= fun _ => pure (ForInStep.yield PUnit.unit)) else pure (ForInStep.yield PUnit.unit)) : Sem (ForInStep PUnit))).run P w = .ok PUnit.unit w := by
 intro fs;induction fs with
  |nil=>simp
  |cons f fs ih=>
   intro i hok hl;simp only[En,AV5,bne_iff_ne,AV4]at hok;obtain⟨hn,ho,hsc,hok⟩:=hok;rw[AWD]at hl;have hag:FO P f.type=some false:=by rcases Cw hsc with⟨k,hk,_⟩|⟨hk,_⟩<;>simp[FO,hk]
   have hlt:i<xs.size:=by omega
   have p1:(part f.type xs f.offset).run P w = .ok xs[i] w:=by rw[ho];simp[part,DW hag,hlt]
   have h3:=ih (i+1) hok (by omega);simp only[List.forIn_cons,Sem.run_bind,hn,ne_eq,not_false_eq_true,AWf,p1,Result.andThen_ok,ni hsc,Sem.run_pure];exact h3
theorem yx{g:TypeId}{t:Ty}{n:List Bool}(V:structEq P g=some n)(o:kinds? t=some n):AI0 P g t:=by
 obtain⟨G,H,hgt,J,C,S⟩:=dT V;have K:P.fieldsOf g=G:=by simp[Program.fieldsOf,H]
 have s:∀ (w:World) (F:Nat->Prop) (d:t.den) (v:Value),Ce w F t d v↔v=C' t d:=by intro w F d v;obtain⟨W,X⟩:=LD o d;unfold Ce;rw[AWB X,W];constructor;rintro⟨vs,rfl,h⟩;have:=(S9 t o d _).1 h;rw[<- this];rintro rfl;exact⟨_,rfl,(S9 t o d _).2 (by simp)⟩
 have T:∀ d:t.den,(Dv t d).length=G.size:=by intro d;rw[Qf t o d,S,AWQ,AWP]
 refine⟨s,fun w b d => ?_,fun w d => ?_,fun w F b c q j h => ?_⟩;rw[(LD o d).1];have:=fun m=>nj (P:=P) (w:=w) b m (Dv t d).toArray G.toList 0 C (by grind);have D:∀ m,(Instr.checkKey b (m+1+1) g (.agg (Dv t d).toArray)).run P w = .ok () w:=by intro m;rw[Instr.checkKey];simp only[Sem.run_bind,run_underlying H,Result.andThen_ok];simp_all
 grind;rw[(LD o d).1];have D:∀ m,Instr.sameBits (m+1) (.agg (Dv t d).toArray) (.agg (Dv t d).toArray)=true:=by
  intro m;have Y:∀ l:List Value,(∀ v∈l,(∃ k i,v = .int k i)\/∃ b,v = .bool b)->((l.zip l).all fun p=>Instr.sameBits m p.1 p.2)=true:=by
   intro l;induction l with
    |nil=>simp
    |cons v l L=>
     intro h;rw[List.zip_cons_cons,List.all_cons,L (fun x Z=>h x (by simp[Z]))];rcases h v (by simp)with⟨k,i,rfl⟩|⟨b,rfl⟩
     cases m<;>simp[Instr.sameBits];cases m<;>simp[Instr.sameBits]
  simp only[Instr.sameBits,beq_self_eq_true,Bool.true_and];exact Y _ (Qe t o d)
 unfold Instr.keyThatStays;simp_all;have M:∀ d u:t.den,(Op.equal g (C' t d) (C' t u)).run P w = .ok (@decide (d=u) (decDen t d u)) w:=by intro d u;rw[(LD o d).1,(LD o u).1];unfold Op.equal Op.maxDepth;rw[run_equalIn_agg w 9999 g _ _ (by grind) J,K];have r:∀ x:t.den,BF w F (fun _=>none) [] (CC t x) ((Dv t x).toArray.toList.drop 0):=fun x=>Jh t ((S9 t o x _).2 (by simp));exact Sy 9998 _ _ G.toList 0 (CC t d) (CC t u) _ C (r d) (r u) (by rw[<- S];exact VI t o d u)
 have D:∀ (q:List (t.den×b.den)) (j:List MapEntry) (i:Nat),J4 w F t b q j ->
   (E_ q c=none/\A_ q c=none/\(Instr.findAsking g (C' t c) j i).run P w = .ok none w) \/
   (∃ x n z,E_ q c=some n/\A_ q c=some x/\(Instr.findAsking g (C' t c) j i).run P w = .ok (some (i+n,z.val)) w/\j[n]? = some z/\Ce w F b x z.val/\z.key=C' t c):=by
  intro q
  induction q with
  |nil=>rintro j i rfl;exact .inl ⟨rfl,rfl,by simp[Instr.findAsking]⟩
  |cons e q L=>
   rintro j i ⟨z,A,rfl,⟨h1,U⟩,h3⟩
   obtain⟨a,x⟩:=e
   have B:=(s w F a _).1 h1
   simp only at U
   have I:=M c a
   by_cases f:a=c
   ·subst f
    rw[AV2 rfl]at I
    refine .inr ⟨x,0,z,by simp[E_],by simp[A_],?_,rfl,U,B⟩
    simp[Instr.findAsking,B,I]
   ·rw[AV1 (fun h=>f h.symm)]at I
    have hfn:(Instr.findAsking g (C' t c) (z::A) i).run P w=(Instr.findAsking g (C' t c) A (i+1)).run P w:=by
     simp[Instr.findAsking,B,I]
    rcases L A (i+1) h3 with⟨N,O,q2⟩|⟨y,n,Q,N,O,q2,q3,q4,q5⟩
    ·exact .inl ⟨by simp[E_,f,N],by simp[A_,f,O],by grind⟩
    ·exact .inr ⟨y,n+1,Q,by simp[E_,f,N],by simp[A_,f,O],by grind,by grind,q4,q5⟩
 have hfk:∀ r,(Instr.findAsking g (C' t c) j).run P w = .ok r w->(j=[]->r=none)->(Instr.findKey g (C' t c) j).run P w = .ok r w:=by
  intro r R E;cases j with
   |nil=>simp[Instr.findKey,run_underlying H,Instr.findNow,E rfl]
   |cons z j=>simp only[Instr.findKey,Sem.run_bind,run_underlying H,Result.andThen_ok,Instr.findNow,Instr.sameNow];exact R
 grind
theorem dm{T:TypeId}{t:Ty}(h:R6 P T=some t):∃ e k,P.underlying T=some (.array 2 e)/\P.underlying e=some (.int k)/\CD P e=some 1/\t = .prod (.int k) (.prod (.int k) .unit):=by unfold R6 at h;grind
theorem AMZ{l:TypeId}{t:Ty}(W:R6 P l=some t):AI0 P l t:=by
 obtain⟨e,j,H,K,X,rfl⟩:=dm W;obtain⟨i0,L,M⟩:=Bt X;have N:kinds? (.prod (.int j) (.prod (.int j) .unit))=some [true,true]:=rfl;have O:FO P e=some false:=by simp[FO,K]
 have C:∀ w,(sizeOf e).run P w = .ok 1 w:=fun w=>by rw[run_sizeOf L,M]
 have p:∀ d:(Ty.prod (.int j) (.prod (.int j) .unit)).den,C' (.prod (.int j) (.prod (.int j) .unit)) d = .agg #[.int j d.1,.int j d.2.1]:=fun d=>rfl;have u:∀ (w:World) (F:Nat->Prop) (d:(Ty.prod (.int j) (.prod (.int j) .unit)).den) (v:Value),Ce w F (.prod (.int j) (.prod (.int j) .unit)) d v↔v=C' (.prod (.int j) (.prod (.int j) .unit)) d:=by intro w F d v;obtain⟨Y,Z⟩:=LD N d;unfold Ce;rw[AWB Z,Y];constructor;rintro⟨vs,rfl,h⟩;have:=(S9 _ N d _).1 h;rw[<- this];rintro rfl;exact⟨_,rfl,(S9 _ N d _).2 (by simp)⟩
 have f:∀ (w:World) (a b:Value),(part e #[a,b] 0).run P w = .ok a w/\(part e #[a,b] 1).run P w = .ok b w:=fun w a b=>by constructor<;>simp[part,DW O]
 have D:∀ (w:World) (b:Bool) (n:Nat) (d:Int),(Instr.checkKey b (n+1) e (.int j d)).run P w = .ok () w:=fun w b n d=>by simp[Instr.checkKey,run_underlying K]
 refine⟨u,fun w b d => ?_,fun w d => ?_,fun w F b c q k h => ?_⟩;rw[p];have s:∀ m,(Instr.checkKey b (m+1+1) l (.agg #[.int j d.1,.int j d.2.1])).run P w = .ok () w:=by intro m;rw[Instr.checkKey];simp only[Sem.run_bind,run_underlying H,Result.andThen_ok];simp[Std.Legacy.Range.forIn_eq_forIn_range',Std.Legacy.Range.size,List.range',C,(f w _ _).1,(f w _ _).2,D]
 grind;rw[p];have s:∀ m,Instr.sameBits (m+1) (.agg #[.int j d.1,.int j d.2.1]) (.agg #[.int j d.1,.int j d.2.1])=true:=by intro m;cases m<;>simp[Instr.sameBits]
 unfold Instr.keyThatStays;simp_all;have Q:∀ d o:(Ty.prod (.int j) (.prod (.int j) .unit)).den,(Op.equal l (C' (.prod (.int j) (.prod (.int j) .unit)) d) (C' (.prod (.int j) (.prod (.int j) .unit)) o)).run P w = .ok (@decide (d=o) (decDen (.prod (.int j) (.prod (.int j) .unit)) d o)) w:=by
  intro d o;rw[p,p];have E:∀ (n:Nat) (a b:Int),(Op.equalIn (n+1) e (.int j a) (.int j b)).run P w = .ok (a==b) w:=fun n a b=>by simp[Op.equalIn,run_underlying K]
  have s:∀ n,(Op.equalIn (n+1+1) l (.agg #[.int j d.1,.int j d.2.1]) (.agg #[.int j o.1,.int j o.2.1])).run P w = .ok ((d.1==o.1)&&(d.2.1==o.2.1)) w:=by intro n;rw[Op.equalIn];simp only[Sem.run_bind,run_underlying H,Result.andThen_ok,C];simp only[Std.Legacy.Range.forIn_eq_forIn_range',Std.Legacy.Range.size,List.range',AXt,AYA];by_cases R:d.1=o.1;by_cases I:d.2.1=o.2.1<;>simp[E,(f w _ _).1,(f w _ _).2,R,I];simp_all
  unfold Op.equal;have:=s 9998;rw[show Op.maxDepth=9998+1+1 from rfl,this];congr 1;grind
 have s:∀ (q:List ((Ty.prod (.int j) (.prod (.int j) .unit)).den×b.den)) (k:List MapEntry) (i:Nat),J4 w F (.prod (.int j) (.prod (.int j) .unit)) b q k ->
   (@E_ _ _ (decDen _) q c=none/\@A_ _ _ (decDen _) q c=none/\(Instr.findAsking l (C' (.prod (.int j) (.prod (.int j) .unit)) c) k i).run P w = .ok none w) \/
   (∃ x n z,@E_ _ _ (decDen _) q c=some n/\@A_ _ _ (decDen _) q c=some x/\(Instr.findAsking l (C' (.prod (.int j) (.prod (.int j) .unit)) c) k i).run P w = .ok (some (i+n,z.val)) w/\k[n]? = some z/\Ce w F b x z.val/\z.key=C' (.prod (.int j) (.prod (.int j) .unit)) c):=by
  intro q
  induction q with
  |nil=>rintro k i rfl;exact .inl ⟨rfl,rfl,by simp[Instr.findAsking]⟩
  |cons e' q ih=>
   rintro k i ⟨z,A,rfl,⟨R,I⟩,h3⟩
   obtain⟨a,x⟩:=e'
   have B:=(u w F a _).1 R
   simp only at I
   have J:=Q c a
   by_cases g:a=c
   ·subst g
    rw[AV2 rfl]at J
    refine .inr ⟨x,0,z,by simp[E_],by simp[A_],?_,rfl,I,B⟩
    simp[Instr.findAsking,B,J]
   ·rw[AV1 (fun h=>g h.symm)]at J
    have hfn:(Instr.findAsking l (C' (.prod (.int j) (.prod (.int j) .unit)) c) (z::A) i).run P w=(Instr.findAsking l (C' (.prod (.int j) (.prod (.int j) .unit)) c) A (i+1)).run P w:=by
     simp[Instr.findAsking,B,J]
    rcases ih A (i+1) h3 with⟨S,T,q2⟩|⟨y,n,U,S,T,q2,q3,q4,q5⟩
    ·exact .inl ⟨by simp[E_,g,S],by simp[A_,g,T],by grind⟩
    ·exact .inr ⟨y,n+1,U,by simp[E_,g,S],by simp[A_,g,T],by grind,by grind,q4,q5⟩
 have hfk:∀ r,(Instr.findAsking l (C' (.prod (.int j) (.prod (.int j) .unit)) c) k).run P w = .ok r w->(k=[]->r=none)->(Instr.findKey l (C' (.prod (.int j) (.prod (.int j) .unit)) c) k).run P w = .ok r w:=by
  intro r V G;cases k with
   |nil=>simp[Instr.findKey,run_underlying H,Instr.findNow,G rfl]
   |cons z k=>simp only[Instr.findKey,Sem.run_bind,run_underlying H,Result.andThen_ok,Instr.findNow,Instr.sameNow];exact V
 grind
theorem SO{a:TypeId}{t:Ty}(h:ai P a=some t):AI0 P a t:=by unfold ai at h;split at h;rename_i t' hi;cases h;unfold AMo at hi;split at hi;rename_i k b;cases hi;exact SN b;grind;split at h;rename_i n t' c d;split at h;rename_i hd;cases h;exact yx c (AYk hd);grind;exact AMZ h
end
section
variable {P:Program} {E:Env}
theorem AMm{w:World}{F:Nat->Prop}{m:Mp}{H:List Ob}:∀ {cs:List AV} {l:List (IntKind×Int)} {us:List Value},rz cs=some l->BF w F m H cs us->us=l.map fun p=>Value.int p.1 p.2:=by
 intro cs;induction cs with
  |nil=>intro l us h a;simp only[rz,AV3]at h;subst h;unfold BF at a;exact a
  |cons c cs b=>intro l us h a;unfold rz at h;split at h;grind;rename_i k n r d;cases d;simp only[AWE]at h;obtain⟨j,e,rfl⟩:=h;unfold BF at a;obtain⟨u,f,rfl,g,i⟩:=a;rw[Bp g,b e i];rfl;grind
theorem AMk{w:World}{F:Nat->Prop}{m:Mp}{H:List Ob}:∀ (l:List (IntKind×Int)),BF w F m H (l.map fun p=>AV.data (.int p.1) p.2) (l.map fun p=>Value.int p.1 p.2):=by
 intro l;induction l with
  |nil=>unfold BF;rfl
  |cons p l a=>simp only[AWW];unfold BF;exact⟨_,_,rfl,Bf _ _,a⟩
theorem PN(T:TypeId)(x:Operand):Claim P E (.makeInterface T x):=by
 intro R ty ρ H fz slot k r h;simp only[evalOp,FQ]at h;split at h;rename_i t l f a d;refine⟨_,_,h,fun u v=>by simp only[evalOp,FQ,f,a,d],BA fun w F m ρc o e n hi g => ?_⟩;cases i:cells? (ρ x)with
  |none=>grind
  |some cs=>
   rw[i]at d;simp only[AWq]at d;obtain⟨vs,j⟩:=Lb a (g x);have b:=cells?_ok i (g x);rw[j]at b;have q:=AMm d b;simp only[Value.cells]at q;refine⟨Kd (some (T,l)),?_,by unfold Rep;rfl⟩;have s:vs=(l.map fun p=>Value.int p.1 p.2).toArray:=by grind
   simp[execOp,e,j,Instr.makeInterface,run_underlying f,Kd,s]
 grind
theorem VW(x:Operand)(S T:TypeId)(ok:Bool):Claim P E (.typeAssert x S T ok):=by
 intro R ty ρ H fz slot k r h;simp only[evalOp,E6]at h;split at h;rename_i W t cs q e G I;split at h;rename_i f;have g:=f;rw[AV5]at g;obtain⟨rfl,J⟩:=g;obtain⟨L,M,i,z,v,y,A,U,B⟩:=CX G;have C:∀ (w:World) (F:Nat->Prop) (m:Mp),Rep w F m H (.agg cs) z:=by
  intro w F m;rw[J]at B;cases z with
   |agg V=>unfold Rep;exact⟨V,rfl,IM _ _ A,Li _ _ A⟩
   |_=>simp[Qg]at B
 have j:∀ (w:World) (F:Nat->Prop) (m:Mp) (a:AV) (u:Value) (b:Bool),Rep w F m H a u->Rep w F m H (.tup [a,.data .bool b]) (.tuple #[u,.bool b]):=by intro w F m a u b h;unfold Rep;refine⟨_,rfl,?_⟩;unfold BF;exact⟨u,_,rfl,h,OW (B1 _)⟩
 have K:∀ {w:World} {F:Nat->Prop} {m:Mp} {ρc:Operand->Value},(∀ x,Rep w F m H (ρ x) (ρc x))->ρc x=Kd q:=by intro w F m ρc n;have N:=I▸n x;unfold Rep at N;exact N
 split at h;refine⟨_,_,h,fun O Q=>by simp only[evalOp,E6,e,G,I,f],BA fun w F m ρc o d D hi n=>⟨_,?_,j w F m _ z false (C w F m)⟩⟩;simp[execOp,d,K n,Kd,Instr.typeAssert,run_underlying e,B_ v y];rename_i X l;split at h;rename_i s;refine⟨_,_,h,fun O Q=>by simp only[evalOp,E6,e,G,I,f,s],BA fun w F m ρc o d D hi n=>⟨_,?_,j w F m _ (.agg (l.map fun p=>Value.int p.1 p.2).toArray) true ?_⟩⟩;simp only[AV4]at s;simp[execOp,d,K n,Kd,Instr.typeAssert,run_underlying e,s];unfold Rep;refine⟨_,rfl,by simpa using AMk l,fun u e => ?_⟩;simp only[AWV]at e;obtain⟨p,_,rfl⟩:=e;rfl;rename_i s;refine⟨_,_,h,fun O Q=>by simp only[evalOp,E6,e,G,I,f,s],BA fun w F m ρc o d D hi n=>⟨_,?_,j w F m _ z false (C w F m)⟩⟩;simp only[AWY]at s;simp[execOp,d,K n,Kd,Instr.typeAssert,run_underlying e,B_ v y,s];grind;grind
end
section
variable {P:Program} {E:Env}
theorem AAh(G:∀ g,BW P g (E.spec g))(f:Operand)(args:Array Operand)(I:Array TypeId):Claim P E (.call { callee:=.value f,args:=args,argTypes:=I }):=by
 intro R ty ρ H fz slot k r h;simp only[evalOp,Kh]at h;split at h
 ·rename_i g l q;obtain⟨v,e,t,J,x,y⟩:=G g R _ H fz slot k r h;refine⟨v,e,t,fun K L=>by simp only[evalOp,Kh,q];grind,?_⟩;intro w F m a o next Q p z hi A M
  have d:=A f;rw[q]at d;unfold Rep at d;obtain⟨cs,B,C⟩:=d;have j:BF w F m H (args.toList.map ρ++l) ((args.map a.eval++cs).toList):=by rw[Array.toList_append,AXd];exact H5 (EE (by simp) fun i c v N O=>by grind) C
  have b:=y w F m _ hi j;rw[AX8]at b;unfold Oper.wp;have n:(execOp a.eval o).run P w = .ok (.enter g (args.map a.eval++cs)) w:=by simp[execOp,p,resolve,B,Deferred.ofValue,invoke,x _ w]
  rw[n];exact b.mono fun S w' ⟨u,D,T,U,V,s⟩=>by grind
 ·rename_i g l q;obtain⟨v,e,t,J,x,y⟩:=G g R _ H fz slot k r h;refine⟨v,e,t,fun K L=>by simp only[evalOp,Kh,q];grind,?_⟩;intro w F m a o next Q p z hi A M
  have d:=A f;rw[q]at d;unfold Rep at d;obtain⟨cs,B,C⟩:=d;have j:BF w F m H (l++args.toList.map ρ) ((cs++args.map a.eval).toList):=by rw[Array.toList_append,AXd];exact H5 C (EE (by simp) fun i c v N O=>by grind)
  have b:=y w F m _ hi j;rw[AX8]at b;unfold Oper.wp;have n:(execOp a.eval o).run P w = .ok (.enter g (cs++args.map a.eval)) w:=by simp[execOp,p,resolve,B,Deferred.ofValue,invoke,x _ w]
  rw[n];exact b.mono fun S w' ⟨u,D,T,U,V,s⟩=>by grind
 grind
theorem vS{T:TypeId}(h:ABU P T=true):P.underlying T=some .string:=by unfold ABU at h;grind
theorem nr{T:TypeId}(h:YX P T=true):∃ e,P.underlying T=some (.slice e)/\P.underlying e=some (.int .u8):=by unfold YX at h;grind
theorem wF{w:World}{F:Nat->Prop}:∀ {xs:List Int} {a:List Value},rows (Dat w F (.int .u8)) xs a->a=xs.map (Value.int .u8):=by
 intro xs;induction xs with
  |nil=>rintro a rfl;rfl
  |cons x xs c=>
   rintro a ⟨d,c2,rfl,b,e⟩;rw[c e];have b:d=[.int .u8 x]:=by simpa [Dat]using b
   grind
theorem wo:∀ (xs:List Int) (s:ByteArray),bytesOf (xs.foldl (fun r n=>r.push (UInt8.ofNat n.toNat)) s)=bytesOf s++Q3 xs:=by
 intro xs;induction xs with
  |nil=>intro s;simp[Q3]
  |cons x xs a=>intro s;rw[AXA,a];simp[bytesOf,Q3,ByteArray.push]
theorem AOA{S T:TypeId}{x:Operand}{w:World}{F:Nat->Prop}{m:Mp}{H:List Ob}{fz:List Bool}{v:AV}{xs:List Int}{p:List Nat}{ρc:Operand->Value}{o:Oper}(f:o.op = .convert S T x)
  (q:YX P S=true) (hd:ABU P T=true) (hi:HI w F m H fz) (s:Fx H (.slice (.int .u8)) v=some (xs,p)) (t:Rep w F m H v (ρc x)) :
  ∃ u,(execOp ρc o).run P w = .ok (.value u) w/\Rep w F m H (.str (Q3 xs)) u:=by
 obtain⟨e,h,i⟩:=nr q;have k:=vS hd;obtain⟨a,cap,l,y,z,news,b,d⟩:=Ep hi s t;cases a with
  |none=>
   have g:xs=[]:=by grind
   subst g;refine⟨.string ByteArray.empty,?_,?_⟩;simp[execOp,f,l,run_convert_bytes_string w S T e none _ _ h i k,Conv.bytesToString];unfold Rep;exact⟨_,rfl,rfl⟩
  |some ad=>
   have A:=wF b;subst A;have B:(Go.loadCells ad xs.length).run P w = .ok (xs.map (Value.int .u8)).toArray w:=by have:=run_loadCells_list (P:=P) w ad (xs.map (Value.int .u8)) (fun j v C=>d ad rfl j v C);grind
   refine⟨.string (xs.foldl (fun r n=>r.push (UInt8.ofNat n.toNat)) ByteArray.empty),?_,?_⟩;simp[execOp,f,l,run_convert_bytes_string w S T e (some ad) _ _ h i k,run_bytesToString w ad _ cap xs B];unfold Rep;exact⟨_,rfl,(wo _ _).trans (AWh _)⟩
theorem eo(S T:TypeId)(x:Operand):Claim P E (.convert S T x):=by intro R ty ρ H fz slot k r h;simp only[evalOp,HC]at h;split at h;rename_i t n j b e i;refine⟨_,_,h,fun l p=>by simp only[evalOp,HC,b,e,i],BA fun w F m ρc o a f hi g=>⟨.int j (j.wrap n),?_,Bf _ _⟩⟩;have q:=Bp (b▸g x);obtain⟨d,hd⟩:=AXB.1 e;simp[execOp,a,q,convert,run_underlying hd,run_underlying (Hr i),Conv.intToInt];rename_i v u y s;split at h;rename_i e hd;split at h;rename_i xs z b;refine⟨_,_,h,fun l p => ?_,BA fun w F m ρc o a f hi g=>AOA a e hd hi b (g x)⟩;simp only[evalOp,HC];grind;grind;grind
theorem Ry{w:World}{F:Nat->Prop}{k:IntKind}{n:Int}{v:Value}(h:Ce w F (.int k) n v):v = .int k n:=by unfold Ce at h;have h:Dat w F (.int k) n [v]:=h;simpa [Dat]using h
theorem CW{w:World}{r:Nat}{b:Array MapEntry}{a:Nat}(h:w.heap[r]? = some (.map b a)):(getObj r).run P w = .ok (.map b a) w:=by simp[getObj,Sem.run,h]
theorem KS{b:TypeId}{j:IntKind}(d:P.underlying b=some (.int j)){a:Int}{c:List MapEntry}{w:World}{r:Option (Nat×Value)}(h:Instr.findNow (.int j) (.int j a) c 0=some r):(Instr.findKey b (.int j a) c).run P w = .ok r w:=by simp[Instr.findKey,run_underlying d,h]
theorem iQ{g:TypeId}{j:IntKind}(o:P.underlying g=some (.int j)){w:World}(b:Int){c:List Int}{d:Array MapEntry}(h:d.toList.map (·.key)=c.map (Value.int j)):
  (J1 c b=c.length/\(Instr.findKey g (.int j b) d.toList).run P w = .ok none w) \/
  (∃ e,J1 c b<c.length/\d.toList[J1 c b]? = some e/\e.key = .int j b/\c[J1 c b]? = some b/\(Instr.findKey g (.int j b) d.toList).run P w = .ok (some (J1 c b,e.val)) w):=by
 have k:∀ (c:List Int) (d:List MapEntry) (i:Nat),d.map (·.key)=c.map (Value.int j) ->
   (J1 c b=c.length/\Instr.findNow (.int j) (.int j b) d i=some none) \/
   (∃ e,J1 c b<c.length/\d[J1 c b]? = some e/\e.key = .int j b/\c[J1 c b]? = some b/\Instr.findNow (.int j) (.int j b) d i=some (some (i+J1 c b,e.val))):=by
  intro c
  induction c with
  |nil=>
   intro d i h
   have:d=[]:=by simp_all
   subst this
   exact .inl ⟨rfl,rfl⟩
  |cons a c t=>
   intro d i h
   cases d with
   |nil=>simp at h
   |cons e d=>
    simp only[AWW,AWc]at h
    obtain⟨l,h⟩:=h
    by_cases f:a=b
    ·subst f
     refine .inr ⟨e,by simp[J1],by simp[J1],l,by simp[J1],?_⟩
     simp[Instr.findNow,Instr.sameNow,l,J1]
    ·have q:Instr.findNow (.int j) (.int j b) (e::d) i=Instr.findNow (.int j) (.int j b) d (i+1):=by
      have:(b==a)=false:=by grind
      simp[Instr.findNow,Instr.sameNow,l,this]
     have u:J1 (a::c) b=J1 c b+1:=by simp[J1,f]
     grind
 rcases k c d.toList 0 h with⟨m,n⟩|⟨e,m,r,n,s,p⟩
 exact .inl ⟨m,KS o n⟩;rw[AWs]at p;exact .inr ⟨e,m,r,n,s,KS o p⟩
theorem AHa{q:TypeId}{j:IntKind}(u:P.underlying q=some (.int j)){w:World}(b:Int){β:Type}{V:β->Value->Prop}{c:List (Int×β)}{g:List MapEntry}(h:bz (fun d v=>v = .int j d) V c g):
  (A_ c b=none/\(Instr.findKey q (.int j b) g).run P w = .ok none w) \/
  (∃ (x:β) (n:Nat) (f:MapEntry),A_ c b=some x/\(Instr.findKey q (.int j b) g).run P w = .ok (some (n,f.val)) w/\V x f.val):=by
 have r:∀ (c:List (Int×β)) (g:List MapEntry) (i:Nat),bz (fun d v=>v = .int j d) V c g ->
   (A_ c b=none/\Instr.findNow (.int j) (.int j b) g i=some none) \/
   (∃ (x:β) (n:Nat) (f:MapEntry),A_ c b=some x/\Instr.findNow (.int j) (.int j b) g i=some (some (n,f.val))/\V x f.val):=by
  intro c
  induction c with
  |nil=>rintro g i rfl;exact .inl ⟨rfl,rfl⟩
  |cons e c z=>
   rintro g i ⟨f,k,rfl,p,A,B⟩
   obtain⟨a,x⟩:=e
   have p:f.key = .int j a:=p
   by_cases l:a=b
   ·subst l
    refine .inr ⟨x,i,f,by simp[A_],?_,A⟩
    simp[Instr.findNow,Instr.sameNow,p]
   ·have C:Instr.findNow (.int j) (.int j b) (f::k) i=Instr.findNow (.int j) (.int j b) k (i+1):=by
     have:(b==a)=false:=by grind
     simp[Instr.findNow,Instr.sameNow,p,this]
    rcases z k (i+1) B with⟨m,o⟩|⟨y,n,s,m,o,t⟩
    ·exact .inl ⟨by simp[A_,l,m],by grind⟩
    ·exact .inr ⟨y,n,s,by simp[A_,l,m],by grind,t⟩
 rcases r c g 0 h with⟨m,o⟩|⟨x,n,f,m,o,t⟩
 exact .inl ⟨m,KS u o⟩;exact .inr ⟨x,n,f,m,KS u o,t⟩
theorem nV(T:TypeId)(mm x:Operand)(ok:Bool):Claim P E (.lookup T mm x ok):=by
 intro R ty ρ H fz slot k r h;simp only[evalOp,Em]at h;split at h;rename_i kt vt id B S;split at h;rename_i ka b es N;split at h;rename_i b' cs' hkt A;split at h;rename_i a fr X O;simp only[AV4]at X;subst X;have Y:=hkt;simp only[AV4]at Y;have hK:=SO Y;obtain⟨l,p,i,z,D,G,I,hsz,J⟩:=CX A;subst p
 have q:∀ (w:World) (F:Nat->Prop) (m:Mp) (ρc:Operand->Value) (o:Oper),o.op = .lookup T mm x ok->HI w F m H fz->(∀ x,Rep w F m H (ρ x) (ρc x)) ->
   ∃ u,(execOp ρc o).run P w = .ok (.value (if ok then .tuple #[u,.bool (A_ (α:=ka.den) es a).isSome]else u)) w/\Ce w F b' ((A_ (α:=ka.den) es a).getD b'.zero) u:=by
  intro w F m ρc o d hi v
  have f:=v mm
  rw[S]at f
  unfold Rep at f
  rw[N]at f
  obtain⟨bb,c,e1,U⟩:=f
  obtain⟨b2,c',Z,K,e3,V,e5,_⟩:=hi.obj id _ N
  rw[e1]at e3;cases e3
  have s:ρc x=C' ka a:=(hK.rep _ _ _ _).1 (ED hi O (v x))
  have g:=hK.check w Z.isEmpty a
  rcases hK.find w F _ a es Z.toList e5 with⟨_,C,L⟩|⟨y,n,me,_,C,L,q3,q4,_⟩
  ·refine⟨z,?_,by rw[C];exact Od I J⟩
   rw[C]
   simp only[execOp,d,U,s,Instr.lookup,Sem.run_bind,run_underlying B,Result.andThen_ok,CW V,g,L,B_ D G,Sem.run_pure]
   simp
  ·refine⟨me.val,?_,by grind⟩
   rw[C]
   simp only[execOp,d,U,s,Instr.lookup,Sem.run_bind,run_underlying B,Result.andThen_ok,CW V,g,L,Sem.run_pure]
   simp
 split at h;refine⟨_,_,h,fun R' k'=>by simp only[evalOp,Em,B,S,N,hkt,A,AWG,O],BA fun w F m ρc o d W hi v => ?_⟩;obtain⟨u,Q,h2⟩:=q w F m ρc o d hi v;refine⟨_,Q,?_⟩;unfold Rep;refine⟨_,rfl,?_⟩;unfold BF;refine⟨u,_,rfl,by unfold Rep;exact h2,OW (B1 _)⟩;refine⟨_,_,h,fun R' k'=>by simp only[evalOp,Em,B,S,N,hkt,A,AWG,O],BA fun w F m ρc o d W hi v => ?_⟩;obtain⟨u,Q,h2⟩:=q w F m ρc o d hi v;exact⟨u,Q,by unfold Rep;exact h2⟩;grind;grind;rename_i j ks e t xs ver N;split at h;rename_i e' t' hk hsl A;split at h;rename_i a fr he O;refine⟨_,_,h,fun R' k'=>by simp only[evalOp,Em,B,S,N,hk,hsl,A,he,O],BA fun w F m ρc o d W hi v => ?_⟩;simp only[AV4]at hk he;simp only[AV5,AXF,AXB]at A;obtain⟨⟨⟨b',cs'⟩,A⟩,rfl⟩:=A;obtain⟨l,p,i,z,D,G,I,hsz,J⟩:=CX A;subst p;obtain⟨hu2,hty2,hpos2⟩:=Cr hsl;have htt:∃ y,b' = .slice y:=by unfold ji XJ at l;rw[hu2]at l;simp only[AWE]at l;grind
 obtain⟨y,rfl⟩:=htt;have hz1:z = .slice none 0 0:=by
  have Q:z.cells.toList=[.slice none 0 0]:=CO (w:=w) (F:=F) (.nul y) _ I;cases z with
   |agg vs=>simp[Qg,Ty.isAgg]at J
   |_=>simp[Value.cells]at Q<;>first|exact Q|grind
 have f:=v mm;rw[S]at f;unfold Rep at f;rw[N]at f;obtain⟨bb,c,e1,U⟩:=f;obtain⟨_,e3⟩:=hi.obj id _ N;rw[e1]at e3;obtain⟨Z,K,V,e5,e6,e7,_⟩:=e3;have e7:=e7.resolve_right fun h=>by cases h.1
 have s:ρc x = .int j a:=Ry (ED hi O (v x));have M:=Hr hk;have g:=(SN M).check w Z.isEmpty a;have g:(Instr.checkKey Z.isEmpty 10000 kt (.int j a)).run P w = .ok () w:=g;rcases iQ (w:=w) M a e6 with⟨C,L⟩|⟨me,C,L,q3,q4,q5⟩
 refine⟨.slice none 0 0,?_,?_⟩;simp only[execOp,d,U,s,Instr.lookup,Sem.run_bind,run_underlying B,Result.andThen_ok,CW V,g,L,B_ D G,Sem.run_pure,hz1];rfl;unfold Rep;rw[N];exact⟨rfl,AV8 _,fun _=>.inr ⟨rfl,by omega,rfl⟩⟩;obtain⟨b3,c3,u,r1,⟨ms',clock',en,r2,r3,r4⟩,r5⟩:=py hi N (k:=J1 ks a) (by omega);rw[e1]at r1;cases r1;rw[V]at r2;cases r2;rw[L]at r3;cases r3;subst r4;refine⟨me.val,?_,r5⟩;simp only[execOp,d,U,s,Instr.lookup,Sem.run_bind,run_underlying B,Result.andThen_ok,CW V,g,q5,Sem.run_pure];rfl;grind;grind;grind;rename_i kt vt j b es B S;split at h;rename_i b' cs' hk A;split at h;rename_i a fr X O;have hb0:=X;have hk0:=hk;simp only[AV5,AV4,AXF]at X;simp only[AV4]at hk;obtain⟨X,hag⟩:=X;subst X;obtain⟨l,p,i,z,D,G,I,hsz,J⟩:=CX A;subst p;have M:=Hr hk
 have q:∀ (w:World) (F:Nat->Prop) (m:Mp) (ρc:Operand->Value) (o:Oper),o.op = .lookup T mm x ok->HI w F m H fz->(∀ x,Rep w F m H (ρ x) (ρc x)) ->
   ∃ u,(execOp ρc o).run P w = .ok (.value (if ok then .tuple #[u,.bool (A_ (α:=Int) es a).isSome]else u)) w/\Ce w F b' ((A_ (α:=Int) es a).getD b'.zero) u:=by
  intro w F m ρc o d hi v
  have f:=v mm
  rw[S]at f
  have f:Dat w F (.mapi j b') es [ρc mm]:=f
  obtain⟨bb,Z,K,U,e3,V,e5⟩:=f
  simp only[AWc,AYO]at U
  have s:ρc x = .int j a:=Ry (ED hi O (v x))
  have g:=(SN M).check w Z.isEmpty a
  have g:(Instr.checkKey Z.isEmpty 10000 kt (.int j a)).run P w = .ok () w:=g
  rcases AHa (w:=w) M a e5 with⟨C,L⟩|⟨y,n,me,C,L,q4⟩
  ·refine⟨z,?_,by rw[C];exact Od I J⟩
   rw[C]
   simp only[execOp,d,U,s,Instr.lookup,Sem.run_bind,run_underlying B,Result.andThen_ok,CW V,g,L,B_ D G,Sem.run_pure]
   simp
  ·refine⟨me.val,?_,by rw[C];unfold Ce;grind⟩
   rw[C]
   simp only[execOp,d,U,s,Instr.lookup,Sem.run_bind,run_underlying B,Result.andThen_ok,CW V,g,L,Sem.run_pure]
   simp
 split at h;refine⟨_,_,h,fun R' k'=>by simp only[evalOp,Em,B,S,hk0,A,AWG,hag,AWR,AXL,O],BA fun w F m ρc o d W hi v => ?_⟩;obtain⟨u,Q,h2⟩:=q w F m ρc o d hi v;refine⟨_,Q,?_⟩;unfold Rep;refine⟨_,rfl,?_⟩;unfold BF;refine⟨u,_,rfl,by unfold Rep;exact h2,OW (B1 _)⟩;refine⟨_,_,h,fun R' k'=>by simp only[evalOp,Em,B,S,hk0,A,AWG,hag,AWR,AXL,O],BA fun w F m ρc o d W hi v => ?_⟩;obtain⟨u,Q,h2⟩:=q w F m ρc o d hi v;exact⟨u,Q,by unfold Rep;exact h2⟩;grind;grind;grind
theorem D3{w:World}{r:Nat}{d c:Array MapEntry}{b a:Nat}(h:w.heap[r]? = some (.map d b)):
  (setObj r (.map c a)).run P w = .ok () { w with heap:=w.heap.setIfInBounds r (.map c a) }:=by simp[setObj,Sem.run,h]
theorem HL.push{b:Array MapEntry}{a:Nat}(h:HL b a)(key val:Value):HL (b.push { key:=key,val:=val,born:=a }) (a+1):=by obtain⟨c,d⟩:=h;refine⟨by grind,fun i e f => ?_⟩;grind
theorem HL.modify{b:Array MapEntry}{a:Nat}(h:HL b a)(n:Nat){f:MapEntry->MapEntry}(c:∀ e,(f e).born=e.born):HL (b.modify n f) a:=by obtain⟨d,g⟩:=h;refine⟨by grind,fun i e j => ?_⟩;grind
theorem Xf(T:TypeId)(mm x y:Operand):Claim P E (.mapUpdate T mm x y):=by
 intro R ty ρ H fz slot k r h
 simp only[evalOp,Fs]at h
 split at h
 ·rename_i kt vt id hu hm
  split at h
  ·rename_i K b es u
   split at h
   ·rename_i key fr0 val S hkt hx hy
    refine⟨_,_,h,fun R' L=>by simp only[evalOp,Fs,hu,hm,u,hkt,hx,hy],E4 fun w F m ρc o C hty hi U => ?_⟩
    have O:=hkt
    simp only[AV4]at O
    have hK:=SO O
    have D:=BS.freeze hi S
    have l:=U mm
    rw[hm]at l
    unfold Rep at l
    rw[u]at l
    obtain⟨bb,c,V,e2⟩:=l
    obtain⟨b2,c',q,f,e3,z,e5,e6⟩:=D.2.obj id _ u
    rw[V]at e3;cases e3
    have G:ρc x=C' K key:=(hK.rep _ _ _ _).1 (ED hi hx (U x))
    have hvd:=ED hi hy (U y)
    have I:=hK.check w false key
    have W:=hK.stays w key
    have hlt:=CF z
    have p:∀ (g:Array MapEntry) (d:Nat),J4 w (D' F m H S) K b (BG (α:=K.den) es key val) g.toList->HL g d ->
      BS w (D' F m H S) m H (BK S fz) { w with heap:=w.heap.setIfInBounds bb (.map g d) } (D' F m H S) m (H.set id (.map K b (BG (α:=K.den) es key val))) (BK S fz):=by
     intro g d he X
     refine BS.set D.2 (Fl u) V u trivial rfl rfl rfl (by simp) (fun k Y=>by grind) fun _ => ?_
     refine⟨bb,c,g,d,V,by grind,?_,X⟩
     refine he.mono (fun a ha => ?_) (fun _ h=>h)
     have:a≠bb:=by rintro rfl;exact D.2.off id _ c (Fl u) V ha
     grind
    obtain⟨s1,s2⟩:=hK.store key val _ hvd e5
    rcases hK.find w _ _ key es q.toList e5 with⟨Q,_,A⟩|⟨y',n,me,Q,_,A,q3,q4,q5⟩
    ·have Z:=p (q.push { key:=C' K key,val:=ρc y,born:=f }) (f+1) (by grind) (e6.push _ _)
     refine⟨_,_,m,?_,D.trans Z⟩
     simp only[execOp,C,e2,G,Instr.mapUpdate,Sem.run_bind,run_underlying hu,Result.andThen_ok,CW z,I,A,D3 z,Sem.run_pure]
    ·have Z:=p (q.modify n fun e=>{ e with key:=C' K key,val:=ρc y }) f (by grind) (e6.modify _ fun _=>rfl)
     refine⟨_,_,m,?_,D.trans Z⟩
     have hgetn:q[n]? = some me:=by grind
     have J:(((q[n]?).map (·.key)).getD (C' K key))=C' K key:=by grind
     simp only[execOp,C,e2,G,Instr.mapUpdate,Sem.run_bind,run_underlying hu,Result.andThen_ok,CW z,I,A,J,W,D3 z,Sem.run_pure]
   grind
  ·rename_i j B e t xs ver i' u
   split at h
   ·rename_i key S id' i ver' Y hx hy
    split at h
    ·rename_i hid
     split at h
     ·rename_i hii
      refine⟨_,_,h,fun R' L=>by simp only[evalOp,Fs,hu,hm,u,Y,hx,hy,hid,hii],E4 fun w F m ρc o C hty hi U => ?_⟩
      simp only[AV5,AV4]at Y hid
      obtain⟨Y,hun⟩:=Y
      obtain⟨rfl,rfl⟩:=hid
      simp only[AV5,Cj,AXZ]at hii
      obtain⟨h1,h2⟩:=hii
      have h1:i=i':=by omega
      have h2:J1 B key=i':=by omega
      subst h1
      have hun':fz.getD id false=false:=by unfold BN at hun;grind
      have l:=U mm
      rw[hm]at l
      unfold Rep at l
      rw[u]at l
      obtain⟨bb,c,V,e2⟩:=l
      obtain⟨_,e3⟩:=hi.obj id _ u
      rw[V]at e3
      obtain⟨q,f,z,e5,e6,e7,e8⟩:=e3
      have G:ρc x = .int j key:=Ry (ED hi hx (U x))
      have hku:=Hr Y
      have I:(Instr.checkKey false 10000 kt (.int j key)).run P w = .ok () w:=(SN hku).check w false key
      have W:(Instr.keyThatStays (.int j key) (.int j key)).run P w = .ok (.int j key) w:=(SN hku).stays w key
      have M:=U y
      rw[hy]at M
      unfold Rep at M
      rw[u]at M
      obtain⟨hone,_,h7⟩:=M
      have h7:=h7 rfl
      have hlt:=CF z
      have hmk:q.toList.length=B.length:=by have:=AWy List.length e6;grind
      obtain⟨ys,hys,hrep⟩:∃ ys:List t.den,xs[i]? = some ys/\Br (some (.arr 0 t ys)) (m (.r id i)) (ρc y):=by
       grind
      have p:∀ (g:Array MapEntry) (d:Nat),HL g d->g.toList.map (·.key)=(XY B i key).map (Value.int j)->xs.length=(XY B i key).length->(∃ s,g.toList[i]? = some s/\s.val=ρc y)->(∀ L s,L≠i->q.toList[L]? = some s->∃ N,g.toList[L]? = some N/\N.val=s.val) ->
        BS w F m H fz { w with heap:=w.heap.setIfInBounds bb (.map g d) } F m (H.set id (.rows (.map j (XY B i key)) e t xs ver none)) fz:=by
       intro g d X hks hxl hat hoth
       refine BS.AVB hi u hun' hys rfl V hrep rfl rfl rfl (by simp) (fun k Y=>by grind) (fun _=>⟨⟨g,d,by grind,X,hks,.inl hxl,fun k h=>by cases h⟩,?_⟩) ?_
       ·obtain⟨s,Q,A⟩:=hat
        exact⟨g,d,s,by grind,Q,A⟩
       ·rintro L v hne ⟨ms2,clock2,s,Q,A,q3⟩
        rw[z]at Q;cases Q
        obtain⟨N,q4,q5⟩:=hoth L s hne A
        exact⟨g,d,N,by grind,q4,q5.trans q3⟩
      rcases iQ (w:=w) hku key e6 with⟨Q,A⟩|⟨me,Q,A,q3,q4,q5⟩
      ·have hxl:xs.length=B.length+1:=by
        grind
       have hdp:XY B i key=B++[key]:=by unfold XY;grind
       have Z:=p (q.push { key:=.int j key,val:=ρc y,born:=f }) (f+1) (e5.push _ _) (by grind) (by grind)
        ⟨_,by rw[Array.toList_push,AWm (by omega),show i-q.toList.length=0 from by omega];rfl,rfl⟩
        (fun L s hne hk'=>⟨s,by grind,rfl⟩)
       refine⟨_,F,m,?_,Z⟩
       simp only[execOp,C,e2,G,Instr.mapUpdate,Sem.run_bind,run_underlying hu,Result.andThen_ok,CW z,I,A,D3 z,Sem.run_pure]
      ·have hilt:i<B.length:=by omega
       have hxl:xs.length=B.length:=by
        grind
       have hdp:XY B i key=B:=by
        unfold XY
        rw[AWB hilt]
        apply AWp
        grind
       rw[h2]at A q5
       have hgetn:q[i]? = some me:=by grind
       have Z:=p (q.modify i fun e=>{ e with key:=.int j key,val:=ρc y }) f (e5.modify _ fun _=>rfl) (by
         rw[hdp,<- e6,Array.toList_modify]
         apply AWp
         grind) (by grind)
        ⟨_,by rw[Array.toList_modify,List.getElem?_modify,A];simp only[AWf];rfl,rfl⟩
        (fun L s hne hk'=>⟨s,by grind,rfl⟩)
       refine⟨_,F,m,?_,Z⟩
       have J:(((q[i]?).map (·.key)).getD (.int j key)) = .int j key:=by grind
       simp only[execOp,C,e2,G,Instr.mapUpdate,Sem.run_bind,run_underlying hu,Result.andThen_ok,CW z,I,q5,J,W,D3 z,Sem.run_pure]
     grind
    grind
   grind
  grind
 grind
theorem nW(T:TypeId)(W x y:Operand):Claim P E (.insert T W x y):=by
 intro R ty ρ H fz slot k r h;simp only[evalOp,N7]at h;split at h;rename_i kt vt id J X;split at h;rename_i j b K s;split at h;rename_i key fr0 val t u Y Z;refine⟨_,_,h,fun R' k'=>by simp only[evalOp,N7,J,X,s,u,Y,Z],E4 fun w F m ρc o v hty hi L => ?_⟩;have p:=u;simp only[AV4]at p;have z:=SO p;have g:=BS.freeze hi t;have l:=L W;rw[X]at l;unfold Rep at l;rw[s]at l;obtain⟨M,c,I,e2⟩:=l;obtain⟨b2,c',A,f,e3,B,e5,e6⟩:=g.2.obj id _ s;rw[I]at e3;cases e3;have C:ρc x=C' j key:=(z.rep _ _ _ _).1 (ED hi Y (L x));have N:=ED hi Z (L y);have D:=z.check w false key;have O:=z.stays w key;have hlt:=CF B
 have q:∀ (i:Array MapEntry) (d:Nat),J4 w (D' F m H t) j b (BG (α:=j.den) K key val) i.toList->HL i d ->
   BS w (D' F m H t) m H (BK t fz) { w with heap:=w.heap.setIfInBounds M (.map i d) } (D' F m H t) m (H.set id (.map j b (BG (α:=j.den) K key val))) (BK t fz):=by
  intro i d he Q
  refine BS.set g.2 (Fl s) I s trivial rfl rfl rfl (by simp) (fun k hk=>by grind) fun _ => ?_
  refine⟨M,c,i,d,I,by grind,?_,Q⟩
  refine he.mono (fun a ha => ?_) (fun _ h=>h)
  have:a≠M:=by rintro rfl;exact g.2.off id _ c (Fl s) I ha
  grind
 obtain⟨s1,s2⟩:=z.store key val _ N e5;rcases z.find w _ _ key K A.toList e5 with⟨q1,_,S⟩|⟨y',n,me,q1,_,S,q3,q4,q5⟩
 have U:=q (A.push { key:=C' j key,val:=ρc y,born:=f }) (f+1) (by grind) (e6.push _ _);refine⟨_,_,m,?_,g.trans U⟩;simp only[execOp,v,e2,C,Instr.mapUpdate,Sem.run_bind,run_underlying J,Result.andThen_ok,CW B,D,S,D3 B,Sem.run_pure];have U:=q (A.modify n fun e=>{ e with key:=C' j key,val:=ρc y }) f (by grind) (e6.modify _ fun _=>rfl);refine⟨_,_,m,?_,g.trans U⟩;have V:A[n]? = some me:=by grind
 have G:(((A[n]?).map (·.key)).getD (C' j key))=C' j key:=by grind
 simp only[execOp,v,e2,C,Instr.mapUpdate,Sem.run_bind,run_underlying J,Result.andThen_ok,CW B,D,S,G,O,D3 B,Sem.run_pure];grind;grind;grind
theorem lK{a:Array MapEntry}{n:Nat}{b:MapEntry}(h:a[n]? = some b){f g:MapEntry->MapEntry}(c:f b=g b):a.modify n f=a.modify n g:=by grind
theorem cq(T:TypeId)(mm x:Operand):Claim P E (.mapEntry T mm x):=by
 intro R ty ρ H fz slot k r h;simp only[evalOp,HB]at h;split at h;rename_i kt vt id Y hm;split at h;rename_i l b D A;split at h;rename_i b' cs' key fr G hz hx;split at h;rename_i hb;simp only[AV4]at hb;subst hb;refine⟨_,_,h,fun R' k'=>by simp only[evalOp,HB,Y,hm,A,G,hz,hx,AWG],Bm fun w F m ρc o I hty hi hr => ?_⟩;have s:=G;simp only[AV4]at s;have B:=SO s;obtain⟨hty',J,i,z,Z,hz0,K,hsz,L⟩:=CX hz;subst J;have q:=hr mm;rw[hm]at q;unfold Rep at q;rw[A]at q;obtain⟨bb,c,V,e2⟩:=q;obtain⟨b2,c',t,g,e3,M,W,X⟩:=hi.obj id _ A;rw[V]at e3;cases e3;have N:ρc x=C' l key:=(B.rep _ _ _ _).1 (ED hi hx (hr x));have O:=B.check w false key;have hst:=B.stays w key;have hlt:=CF M
 have v:∀ (val:b'.den) (p:Array MapEntry) (f:Nat),J4 w F l b' (BG (α:=l.den) D key val) p.toList->HL p f ->
   BS w F m H fz { w with heap:=w.heap.setIfInBounds bb (.map p f) } F m (H.set id (.map l b' (BG (α:=l.den) D key val))) fz:=by
  intro val p f he hbo
  refine BS.set hi (Fl A) V A trivial rfl rfl rfl (by simp) (fun k hk=>by grind) fun _ => ?_
  refine⟨bb,c,p,f,V,by grind,?_,hbo⟩
  refine he.mono (fun a ha => ?_) (fun _ h=>h)
  have:a≠bb:=by rintro rfl;exact hi.off id _ c (Fl A) V ha
  grind
 have Q:∀ (d:b'.den) (u:Value) (n:Nat),Ce w F b' d u->Rep w F m H (.tup [.data b' d,.data (.int .i64) (n:Int)]) (.tuple #[u,goInt (n:Int)]):=by intro d u n hd;unfold Rep;refine⟨_,rfl,?_⟩;unfold BF;exact⟨u,_,rfl,by unfold Rep;exact hd,OW (Bf _ _)⟩
 have hlen:=bw W;rcases B.find w _ _ key D t.toList W with⟨q1,q0,q2⟩|⟨y',n,y,q1,q0,q2,q3,q4,q5⟩
 obtain⟨s1,_⟩:=B.store key b'.zero z (Od K L) W;have C:=v b'.zero (t.push { key:=C' l key,val:=z,born:=g }) (g+1) (by grind) (X.push _ _);have hp:R1 (α:=l.den) D key=(g:Int):=by unfold R1;rw[q1,X.1];grind
 rw[q0,Option.getD_none,hp];refine⟨_,_,F,m,?_,C,C.1.rep hi (Q b'.zero z g (Od K L))⟩;simp only[execOp,I,e2,N,Instr.mapEntry,Sem.run_bind,run_underlying Y,Result.andThen_ok,CW M,O,q2,B_ Z hz0,D3 M,Sem.run_pure];obtain⟨_,s2⟩:=B.store key y' y.val q4 W;have j:t[n]? = some y:=by grind
 have S:(t.modify n fun e=>{ e with key:=C' l key,val:=y.val })=t.modify n fun e=>{ e with key:=C' l key }:=lK j rfl;have C:=v y' (t.modify n fun e=>{ e with key:=C' l key,val:=y.val }) g (by grind) (X.modify _ fun _=>rfl);rw[S]at C;have hp:R1 (α:=l.den) D key=(n:Int):=by unfold R1;grind
 rw[q0,AW6,hp];have U:(((t[n]?).map (·.key)).getD (C' l key))=C' l key:=by grind
 have hbn:(((t[n]?).map fun x=>(x.born:Int)).getD 0)=(n:Int):=by rw[j];show(y.born:Int)=n;rw[X.2 n y j]
 refine⟨_,_,F,m,?_,C,C.1.rep hi (Q y' y.val n q4)⟩;simp only[execOp,I,e2,N,Instr.mapEntry,Sem.run_bind,run_underlying Y,Result.andThen_ok,CW M,O,q2,U,hst,hbn,D3 M,Sem.run_pure];grind;grind;grind;grind
theorem ANi{w:World}{F:Nat->Prop}{a b:Ty}(val:b.den)(v:Value)(i:Ce w F b val v):∀ {c:List (a.den×b.den)} {d:List MapEntry} (n:Nat),J4 w F a b c d->J4 w F a b (c.modify n fun e=>(e.1,val)) (d.modify n fun e=>{ e with val:=v }):=by
 intro c;induction c with
  |nil=>rintro d n rfl;cases n<;>rfl
  |cons e c j=>
   rintro d n ⟨k,f,rfl,⟨g,l⟩,h⟩;cases n with
    |zero=>exact⟨_,f,rfl,⟨g,i⟩,h⟩
    |succ n=>exact⟨k,_,rfl,⟨g,l⟩,j n h⟩
theorem AHb{b:Array MapEntry}{a:Nat}(h:HL b a){i:Nat}(hi:i<b.size):b.findIdx? (fun e=>(e.born:Int)==(i:Int))=some i:=by rw[Array.findIdx?_eq_some_iff_getElem];refine⟨hi,?_,fun j c => ?_⟩;have:=h.2 i b[i] (by simp[hi]);grind;have:=h.2 j b[j] (by simp);grind
theorem VY(T:TypeId)(G s y:Operand):Claim P E (.entryStore T G s y):=by
 intro R ty ρ H fz slot k r h;simp only[evalOp,GV]at h;split at h
 ·rename_i id i0 I J;split at h
  ·rename_i K b L j;split at h
   ·rename_i val l M;split at h;rotate_left;cases h;rename_i q;refine⟨_,_,h,fun R' k'=>by simp only[evalOp,GV,I,J,j,M,q],E4 fun w F m ρc o v S hi x => ?_⟩;have f:=BS.freeze hi l;have g:=x G;rw[I]at g;unfold Rep at g;rw[j]at g;obtain⟨z,c,t,U⟩:=g;obtain⟨b2,c',u,d,N,A,O,Q⟩:=f.2.obj id _ j;rw[t]at N;cases N;have i:=x s;rw[J]at i;unfold Rep at i;have B:=Ry i;have C:=ED hi M (x y);have V:=CF A;have p:=bw O;rw[AWP]at p;rw[AV5,BM,BD,AW2,AW2]at q;obtain⟨n,rfl⟩:=AV7 q.1;have W:n<u.size:=by have:=q.2;unfold A2 at this;omega
    have D:=AHb Q W;have X:BS w (D' F m H l) m H (BK l fz) { w with heap:=w.heap.setIfInBounds z (.map (u.modify n fun e=>{ e with val:=ρc y }) d) } (D' F m H l) m (H.set id (.map K b (rN L (n:Int) val))) (BK l fz):=by
     refine BS.set f.2 (Fl j) t j trivial rfl rfl rfl (by simp) (fun k hk=>by grind) fun _ => ?_;refine⟨z,c,u.modify n fun e=>{ e with val:=ρc y },d,t,by grind,?_,Q.modify n fun _=>rfl⟩;have Y:J4 w (D' F m H l) K b (L.modify n fun e=>(e.1,val)) (u.modify n fun e=>{ e with val:=ρc y }).toList:=by rw[Array.toList_modify];exact ANi val (ρc y) C n O
     unfold rN;rw[AW8];refine Y.mono (fun a Z => ?_) (fun _ h=>h);have:a≠z:=by rintro rfl;exact f.2.off id _ c (Fl j) t Z
     grind
    refine⟨_,_,m,?_,f.trans X⟩;simp only[execOp,v,U,B,Instr.entryStore,Sem.run_bind,Result.andThen_ok,CW A,asInt,asIntOf,Sem.run_pure,D,D3 A]
   grind
  grind
 grind
theorem E5(u:∀ g,BW P g (E.spec g))(o:Op):Claim P E o:=by
 cases o with
  |move x=>exact AAf x
  |assign x=>exact nX x
  |pick c a b=>exact AAe c a b
  |alloc T=>exact tp T
  |box T x=>exact AIZ T x
  |build T parts=>exact tj T parts
  |buildSlice T len parts=>exact VZ T len parts
  |load T x=>exact AAg T x
  |store T x y=>exact tf T x y
  |nilCheck x=>exact cp x
  |binOp j T x y l=>exact tn j T x y l
  |unOp j T x=>exact AAd j T x
  |convert S T x=>exact eo S T x
  |makeFunc fn first cs=>exact cr fn first cs
  |makeMap T r=>exact ei T r
  |makeSlice T x y=>exact Xg T x y
  |slice T x q t p=>
   cases p with
    |none=>exact VX T x q t
    |some p=>exact Xe T x q t p
  |fieldAddr T x f=>exact Xi T x f
  |field T x f=>exact th T x f
  |indexAddr T x y=>exact Xh T x y
  |index T x y=>exact tg T x y
  |lookup T m x ok=>exact nV T m x ok
  |mapUpdate T m x y=>exact Xf T m x y
  |insert T m x y=>exact nW T m x y
  |mapEntry T m x=>exact cq T m x
  |entryStore T m s y=>exact VY T m s y
  |extract x i=>exact ek x i
  |makeInterface T x=>exact PN T x
  |typeAssert x T l ok=>exact VW x T l ok
  |call c=>
   obtain⟨d,args,e⟩:=c;cases d with
    |value f=>exact AAh u f args e
    |invoke r n=>intro R ty ρ H fz slot k r h;simp[evalOp,Kh]at h
    |builtin b=>
     cases b with
      |len=>exact AIX args e
      |append=>exact nY args e
      |cap=>exact AIY args e
      |min=>exact AIV args e
      |max=>exact AIW args e
      |clear=>exact ti args e
      |_=>intro R ty ρ H fz slot k r h;simp[evalOp,Ig]at h
  |_=>intro R ty ρ H fz slot k r h;simp[evalOp,Ig]at h
end
class DfI where
 d:List Deferred
instance noDf:DfI:=⟨[]⟩
structure SI[DfI](w:World)(F:Nat->Prop)(m:Mp)(st:St)(a:Act):Prop where
 tmps:∀ t,Rep w F m st.heap (st.tmps.f t) (a.tmps.getD t undef)
 size:st.tmps.n=a.tmps.size
 heap:HI w F m st.heap st.frz
 defers:a.defers=DfI.d
def ASi[DfI]{R:Type}(r:R)(k:St->Option R)(w:World)(F:Nat->Prop)(m:Mp)(H:List Ob)(fz:List Bool)(c:Act)(w':World):Prop:=
 ∃ st' a b,k st'=some r/\SI w' a b st' c/\Ext w F m H fz w' a b st'.heap st'.frz
section
variable [DfI] {P:Program} {E:Env} {R:Type} {r:R}
theorem SI.put{w:World}{F:Nat->Prop}{m:Mp}{st:St}{a:Act}(h:SI w F m st a){v:AV}{u:Value}(f:Rep w F m st.heap v u)(d:Option Tmp):SI w F m (st.put d v) (a.put d u):=by
 cases d with
  |none=>exact h
  |some d=>refine⟨fun t => ?_,by simp[St.put,Tm.set,Act.put,h.size],h.heap,h.defers⟩;simp only[St.put,Act.put,Tm.WN];have:=h.tmps t;rw[AWe]at this |-;by_cases e:t=d;subst e;by_cases b:t<st.tmps.n;have c:t<a.tmps.size:=h.size▸b;grind;have c:¬ t<a.tmps.size:=h.size▸b;grind;grind
theorem SI.go{w w':World}{F b:Nat->Prop}{m c:Mp}{st:St}{a:Act}(h:SI w F m st a){e:Eff}(d:BS w F m st.heap st.frz w' b c (DB e st.heap) (FN e st.frz)):SI w' b c (st.app e) a:=
 ⟨fun t=>d.1.rep h.heap (h.tmps t),h.size,d.2,h.defers⟩
theorem SI.lit{w:World}{F:Nat->Prop}{m:Mp}{st:St}{a:Act}(h:SI w F m st a){d:Nat}{b:Bool}(hd:st.tmps.f d = .data .bool b):SI w F m { st with tmps:=st.tmps.set d (.data .bool b) } a:=by rw[Tm.NR hd];exact h
theorem Ps{w:World}{F:Nat->Prop}{m:Mp}{st:St}{a:Act}(h:SI w F m st a){ops:Array Oper}{j d:Nat}(l:(ops.toList[j]?).bind (·.dst)=some d){b:Bool}(hd:st.tmps.f d = .data .bool b):
  yielded ops a.tmps j=some b:=by
 have i:=h.tmps d;rw[hd]at i;have e:=Ds i;have c:d<a.tmps.size:=by rcases AX1 d a.tmps.size with g|g;exact g;rw[AWe,Array.getElem?_eq_none g]at e;cases e
 rw[AWe,AXb c]at e;simp only[AW6]at e;have k:(ops[j]?).bind (·.dst)=some d:=by grind
 unfold yielded;grind
theorem Rk{w:World}{F:Nat->Prop}{m:Mp}{H:List Ob}:Rep w F m H CK undef:=by unfold CK Rep;exact⟨#[],rfl,by unfold BF;rfl⟩
theorem RI{w:World}{F:Nat->Prop}{m:Mp}{st:St}{a:Act}(h:SI w F m st a){ops:Array Oper}{j d:Nat}(k:(ops.toList[j]?).bind (·.dst)=some d)(hd:st.tmps.f d = .tup []):
  yielded ops a.tmps j=none:=by
 have b:=h.tmps d;rw[hd]at b;have c:(ops[j]?).bind (·.dst)=some d:=by grind
 unfold yielded;rw[c];unfold Rep at b;obtain⟨us,e,_⟩:=b;rcases AX1 d a.tmps.size with g|i;all_goals simp_all
theorem Qt{w:World}{F:Nat->Prop}{m:Mp}{st:St}{a:Act}(h:SI w F m st a){ops:Array Oper}{o:Oper}{f i:St->Option R}(e:guarded R ops.toList o.guard st f i=some r):
  ∃ st',SI w F m st' a/\st'.heap=st.heap/\st'.frz=st.frz/\((Region.wanted o (yielded ops a.tmps)=true/\f st'=some r)\/(Region.wanted o (yielded ops a.tmps)=false/\i st'=some r)):=by unfold guarded at e;split at e;rename_i c;exact⟨st,h,rfl,rfl,.inl ⟨by simp[Region.wanted,c],e⟩⟩;rename_i j k c;split at e;cases e;rename_i d l;split at e;rename_i b hd;have g:=Ps h l hd;split at e;split at e;exact⟨_,h.lit hd,rfl,rfl,.inl ⟨by simp[Region.wanted,c,g],e⟩⟩;exact⟨_,h.lit hd,rfl,rfl,.inr ⟨by simp[Region.wanted,c,g],e⟩⟩;split at e;exact⟨_,h.lit hd,rfl,rfl,.inr ⟨by simp[Region.wanted,c,g],e⟩⟩;exact⟨_,h.lit hd,rfl,rfl,.inl ⟨by simp[Region.wanted,c,g],e⟩⟩;rename_i hd;exact⟨st,h,rfl,rfl,.inr ⟨by simp[Region.wanted,c,RI h l hd],e⟩⟩;grind
theorem AFE(K:∀ g,BW P g (E.spec g)){ops:Array Oper}{Q:Exit->Act->World->Prop}{k:St->Option R}:∀ (b pre:List Oper) (slot:Nat) (st:St) (w:World) (F:Nat->Prop) (m:Mp) (a:Act),ops.toList=pre++b ->
  GD P E R ops.toList b slot st k=some r->SI w F m st a->(∀ l w',ASi r k w F m st.heap st.frz l w'->Q .normal l w')->wpOps P ops Q (List.range' pre.length b.length) a w:=by
 intro b;induction b with
  |nil=>intro pre slot st w F m a _ h s q;exact q a w ⟨st,F,m,h,s,Ext.refl ..⟩
  |cons o b G=>
   intro pre slot st w F m a n h s q;simp only[GD]at h;have p:ops[pre.length]? = some o:=by rw[<- AW4,n];simp
   have c:ops.toList=(pre++[o])++b:=by grind
   have H:(pre++[o]).length=pre.length+1:=by simp
   rw[AWD,AXp];simp only[wpOps,p];obtain⟨st',d,t,y,L⟩:=Qt s h;rcases L with⟨z,M⟩|⟨z,N⟩
   rw[AWB z];left;obtain⟨v,e,O,_,S⟩:=E5 K o.op R _ _ _ _ _ _ _ M;refine S w F m a o _ Q rfl rfl d.heap (fun x=>FM d.tmps x) fun u w' T U I V => ?_;have f:=(d.go I).put V o.dst;have:=G (pre++[o]) _ _ w' T U (a.put o.dst u) c O f fun l i ⟨j,A,B,C,D,W⟩=>q l i ⟨j,A,B,C,D,by
    have J:=I.1;rw[t,y]at J;refine J.trans ?_;have:((st'.app e).put o.dst v).heap=DB e st.heap/\((st'.app e).put o.dst v).frz=FN e st.frz:=by cases o.dst<;>simp[St.put,St.app,t,y]
    grind⟩
   grind;rw[AV9 (by simp[z])];have f:SI w F m (st'.put o.dst CK) (a.put o.dst undef):=d.put Rk o.dst;have:=G (pre++[o]) _ _ w F m (a.put o.dst undef) c N f fun l i ⟨j,A,B,C,D,W⟩=>q l i ⟨j,A,B,C,D,by
    have:(st'.put o.dst CK).heap=st.heap/\(st'.put o.dst CK).frz=st.frz:=by cases o.dst<;>simp[St.put,t,y]
    grind⟩
   grind
theorem HI.pad{w:World}{F:Nat->Prop}{m:Mp}{H:List Ob}{fz:List Bool}(hi:HI w F m H fz)(n:Nat):BS w F m H fz w F m (H++List.replicate n .free) (fz++List.replicate n false):=by
 have q:∀ i o,H[i]? = some o->(H++List.replicate n Ob.free)[i]? = some o:=fun i o h=>by rw[AXs (BU h)];exact h
 have a:∀ i o,(H++List.replicate n Ob.free)[i]? = some o->H[i]? = some o\/o=Ob.free:=fun i o h=>by rcases AX1 i H.length with y|y;rw[AXs y]at h;exact .inl h;grind
 have s:∀ i,(fz++List.replicate n false).getD i false=fz.getD i false:=fun i=>by grind
 have f:∀ i:Ix,owned (H++List.replicate n .free) (fz++List.replicate n false) i->owned H fz i:=fun i g=>by
  obtain⟨o,j,u,D⟩:=D6 g;rcases a i.id o j with z|z;have g:=(Db (H:=H) (j.trans z.symm)).1 g;cases i with
   |r i k=>simp only[owned]at *;grind
   |o i=>simp only[owned,Cn]at *;grind
  grind
 have d:DJ H (H++List.replicate n .free) m m:=by
  intro i o g l;rcases DJ.refl H m i o g l with h|⟨hd,o',j,u,_⟩
  all_goals grind
 refine⟨⟨rfl,rfl,rfl,AV8 _,fun _ _ _=>rfl,fun _ h=>h,fun _ h=>.inl h,fun i b c j u=>.inl ⟨i,c,f i j,u⟩,d⟩,⟨?_,?_,?_,?_,?_,?_,hi.lt,hi.glo,by simp[hi.len]⟩⟩;intro id o g;rcases a id o g with h|rfl;exact ObI.mono (fun _ _=>rfl) (fun _ h=>h) d (fun _ _ _ _ _ _=>rfl) (hi.obj id o h);trivial;intro i;cases g:H[i]? with
  |none=>intro T e t xs ver out j;grind
  |some o=>exact C0.mono (fun _ _=>rfl) (fun _ h=>h) d ((q i o g).trans g.symm) (fun _ _=>rfl) (fun _ _ _ _ _ _ _=>rfl) (hi.row i)
 intro i T e t xs ver out p l x A B b c C;rw[s]at l;rcases a i _ p with h|h;exact hi.rfz i T e t xs ver out h l x A ((DZ (by grind)).1 B) b c C;grind;exact fun i k b c b' c' j u=>hi.sep i k b c b' c' (f i j) (f k u);exact fun i b c j=>hi.off i b c (f i j);intro i T t xs b c p l v;rw[s]at l;rcases a i _ p with h|h;exact hi.froz i T t xs b c h l v;grind
theorem SI.pad{w:World}{F:Nat->Prop}{m:Mp}{st:St}{a:Act}(h:SI w F m st a)(n:Nat):SI w F m (st.pad n) a/\Ext w F m st.heap st.frz w F m (st.pad n).heap (st.pad n).frz:=by have b:=h.heap.pad n;exact⟨⟨fun t=>b.1.rep h.heap (h.tmps t),h.size,b.2,h.defers⟩,b.1⟩
theorem kq(c:∀ g,BW P g (E.spec g)){id:Nat}{ops:Array Oper}{Q:Exit->Act->World->Prop}{k:St->Option R}{st:St}{w:World}{F:Nat->Prop}{m:Mp}{a:Act}(h:G1 P E R ops.toList st k=some r)(d:SI w F m st a)
  (e:∀ b w',ASi r k w F m st.heap st.frz b w'->Q .normal b w'):(Code.region id ops false).wp P Q a w:=by unfold G1 at h;rw[PX]at h;obtain⟨f,i⟩:=d.pad (C6 ops.toList);have:=AFE c ops.toList [] _ _ w F m a (by simp) h f fun b w' ⟨st',j,l,n,o,p⟩=>e b w' ⟨st',j,l,n,o,i.trans p⟩;rw[AWK,AWP,<- AXu]at this;exact wp_region this
end
theorem E8{H H':List Ob}(t:Ty)(v:AV)(h:∀ id∈BT v,H[id]? = H'[id]?):Er H t v=Er H' t v:=by cases v<;>simp only[Er];rename_i id;rw[h id (by simp[BT])];rename_i id off n;rw[h id (by simp[BT])];rename_i id;rw[h id (by simp[BT])]
theorem zI{α:Type}{one a:List AV->Option (α×List Nat×List AV)}{H H':List Ob}
  (i:∀ cs,(∀ id∈B0 cs,H[id]? = H'[id]?)->one cs=a cs) (j:∀ cs x f r,one cs=some (x,f,r)->∃ d,cs=d++r) :
  ∀ (n:Nat) (cs:List AV),(∀ id∈B0 cs,H[id]? = H'[id]?)->SY one n cs=SY a n cs:=by
 intro n;induction n with
  |zero=>intro cs _;rfl
  |succ n k=>
   intro cs h;simp only[SY];rw[<- i cs h];cases g:one cs with
    |none=>rfl
    |some p=>
     obtain⟨x,f,r⟩:=p;simp only;obtain⟨d,l⟩:=j _ _ _ _ g;rw[k r fun id b=>h id (by
      subst l;clear g;induction d with
       |nil=>exact b
       |cons c d e=>simp only[AWa,B0,AWL];exact .inr (e fun id b=>h id (by simp only[AWa,B0,AWL];grind)))]
theorem AG3{α:Type}{one:List AV->Option (α×List Nat×List AV)}(b:∀ cs x f r,one cs=some (x,f,r)->∃ a,cs=a++r):
  ∀ (n:Nat) (cs:List AV) (xs:List α) (f:List Nat) (r:List AV),SY one n cs=some (xs,f,r)->∃ a,cs=a++r:=by
 intro n;induction n with
  |zero=>intro cs xs f r h;simp only[SY,AV3,AWI]at h;simp_all
  |succ n c=>intro cs xs f r h;simp only[SY]at h;grind
theorem SZ{H:List Ob}:∀ (t:Ty) (cs:List AV) (x:t.den) (f:List Nat) (r:List AV),BX H t cs=some (x,f,r)->∃ d,cs=d++r:=by
 intro t;induction t with
  |unit=>intro cs x f r h;simp only[BX,AV3,AWI]at h;simp_all
  |bool=>
   intro cs x f r h;cases cs with
    |nil=>simp[BX]at h
    |cons c cs=>unfold BX at h;split at h;cases h;simp only[AV3,AWI]at h;exact⟨[c],by grind⟩
  |int k=>
   intro cs x f r h;cases cs with
    |nil=>simp[BX]at h
    |cons c cs=>unfold BX at h;split at h;cases h;simp only[AV3,AWI]at h;exact⟨[c],by grind⟩
  |slice e _=>
   intro cs x f r h;cases cs with
    |nil=>simp[BX]at h
    |cons c cs=>unfold BX at h;split at h;cases h;simp only[AV3,AWI]at h;exact⟨[c],by grind⟩
  |nul e=>
   intro cs x f r h;cases cs with
    |nil=>simp[BX]at h
    |cons c cs=>unfold BX at h;split at h;cases h;simp only[AV3,AWI]at h;exact⟨[c],by grind⟩
  |mapi j e _=>
   intro cs x f r h;cases cs with
    |nil=>simp[BX]at h
    |cons c cs=>unfold BX at h;split at h;cases h;simp only[AV3,AWI]at h;exact⟨[c],by grind⟩
  |prod a b g i=>intro cs x f r h;simp only[BX]at h;grind
  |arr n e l=>intro cs x f r h;simp only[BX]at h;exact AG3 l n cs _ _ _ h
theorem Ey(a b:List AV):B0 (a++b)=B0 a++B0 b:=by
 induction a with
  |nil=>rfl
  |cons x a c=>simp[B0,c]
theorem Pb{H H':List Ob}:∀ (t:Ty) (cs:List AV),(∀ id∈B0 cs,H[id]? = H'[id]?)->BX H t cs=BX H' t cs:=by
 intro t;induction t with
  |unit=>intro cs _;cases cs<;>rfl
  |bool=>
   intro cs h;cases cs with
    |nil=>rfl
    |cons c cs=>unfold BX;rw[E8 .bool c fun id d=>h id (by simp[B0,d])]
  |int k=>
   intro cs h;cases cs with
    |nil=>rfl
    |cons c cs=>unfold BX;rw[E8 (.int k) c fun id d=>h id (by simp[B0,d])]
  |slice e _=>
   intro cs h;cases cs with
    |nil=>rfl
    |cons c cs=>unfold BX;rw[E8 (.slice e) c fun id d=>h id (by simp[B0,d])]
  |nul e=>
   intro cs h;cases cs with
    |nil=>rfl
    |cons c cs=>unfold BX;rw[E8 (.nul e) c fun id d=>h id (by simp[B0,d])]
  |mapi j e _=>
   intro cs h;cases cs with
    |nil=>rfl
    |cons c cs=>unfold BX;rw[E8 (.mapi j e) c fun id d=>h id (by simp[B0,d])]
  |prod a b g i=>
   intro cs h;simp only[BX];rw[<- g cs h];cases l:BX H a cs with
    |none=>rfl
    |some p=>obtain⟨x,f,r⟩:=p;simp only;obtain⟨o,rfl⟩:=SZ a _ _ _ _ l;rw[i r fun id d=>h id (by rw[Ey];grind)]
  |arr n e m=>intro cs h;simp only[BX];exact zI m (SZ e) n cs h
theorem Cq{H H':List Ob}(t:Ty)(v:AV)(h:∀ id∈BT v,H[id]? = H'[id]?):Fx H t v=Fx H' t v:=by unfold Fx;split;cases v<;>simp only[asAgg];rename_i cs;rw[Pb t cs fun id a=>h id (by simpa [BT]using a)];exact E8 t v h
theorem XB{H H':List Ob}(t:Ty)(v:AV)(h:∀ id∈BT v,H[id]? = H'[id]?):c9 H t v=c9 H' t v:=by have a:=Cq t v h;cases v<;>simp only[c9]<;>first|exact a|(rw[a,h _ (by simp[BT])])
structure TV(T:List Nat)(slot n:Nat)(W:List Nat)(H H':List Ob)(fz fz':List Bool):Prop where
 heap:∀ id∈T,H[id]? = H'[id]?
 slotH:∀ s,slot<=s->s<slot+n->H[s]? = H'[s]?
 slotF:∀ s,slot<=s->s<slot+n->fz.getD s false=fz'.getD s false
 len:fz.length=fz'.length
 wrF:∀ id∈W,fz.getD id false=fz'.getD id false
theorem E3{T:List Nat}{slot n:Nat}{W:List Nat}{H H':List Ob}{fz fz':List Bool}(h:TV T slot n W H H' fz fz'){s:Nat}(a:slot<=s)(b:s<slot+n)(c:List Nat):
  Bd H (BK c fz) s=Bd H' (BK c fz') s:=by unfold Bd;rw[h.slotH s a b,Bg,Bg,h.slotF s a b,h.len]
theorem Dj{T:List Nat}{slot n:Nat}{W:List Nat}{H H':List Ob}{fz fz':List Bool}(h:TV T slot n W H H' fz fz'){s:Nat}(a:slot<=s)(b:s<slot+n):
  Bd H fz s=Bd H' fz' s:=E3 h a b []
theorem DK{T W:List Nat}{slot n:Nat}{H H':List Ob}{fz fz':List Bool}(h:TV T slot n W H H' fz fz'){id:Nat}(a:id∈W)(b:List Nat):
  BN (BK b fz) id=BN (BK b fz') id:=by unfold BN;rw[Bg,Bg,h.wrF id a,h.len]
def HP(s:Spec):Prop:=
 ∀ R args H H' fz fz' slot k,TV (B0 args) slot 4 [] H H' fz fz'->s R args H fz slot k=s R args H' fz' slot k
def Ya(S:List Nat)(H:List Ob):Prop:=∀ id∈S,∀ cs,H[id]? = some (.box cs)->∀ j∈B0 cs,j∈S
def Ik(s:Spec):Prop:=
 ∀ R args H H' fz fz' slot k (S:List Nat),(∀ id∈B0 args,id∈S)->Ya S H->TV S slot 4 S H H' fz fz'->s R args H fz slot k=s R args H' fz' slot k
def Eu(E:Env):Prop:=(∀ g,E.loc g=true->HP (E.spec g))/\∀ g,E.G9 g=true->Ik (E.spec g)
section
variable {P:Program} {E:Env}
theorem MC{ρ ρ':Operand->AV}{l:List Operand}(h:∀ x∈l,ρ x=ρ' x):l.map ρ=l.map ρ':=AXo h
theorem WY{ρ ρ':Operand->AV}{l:List (Nat×Operand)}(h:∀ x∈l.map (·.2),ρ x=ρ' x):(l.map fun p=>(p.1,ρ p.2))=l.map fun p=>(p.1,ρ' p.2):=
 AXo fun p a=>by grind
theorem SW{ρ ρ':Operand->AV}{o:Option Operand}(h:∀ x∈o.toArray,ρ x=ρ' x):Fa ρ o=Fa ρ' o:=by
 cases o with
  |none=>rfl
  |some x=>simp only[Fa];grind
theorem Ct{R:Type}{ρ ρ':Operand->AV}(o:Op)(ty:TypeId)(H:List Ob)(fz:List Bool)(slot:Nat)(k:AV->Eff->Option R)(h:∀ x∈o.operands,ρ x=ρ' x):
  evalOp P E R o ty ρ H fz slot k=evalOp P E R o ty ρ' H fz slot k:=by
 cases o with
  |call c=>
   obtain⟨g,args,t⟩:=c;cases g with
    |value f=>have A:=h f (by simp[Op.operands,Call.operands]);have p:args.toList.map ρ=args.toList.map ρ':=MC fun x e=>h x (by simp[Op.operands,Call.operands];grind);simp only[evalOp,Kh,A,p]
    |invoke r n=>rfl
    |builtin b=>
     have p:∀ x∈args.toList,ρ x=ρ' x:=fun x e=>h x (by simp[Op.operands,Call.operands];grind);cases b with
      |len=>
       simp only[evalOp,N6];cases s:args.toList with
        |nil=>rfl
        |cons x r=>cases r with
         |nil=>
          rw[s]at p
          cases t.toList with
          |nil=>rfl
          |cons T r=>grind
         |cons y r=>rfl
      |append=>
       simp only[evalOp,Dx];cases s:args.toList with
        |nil=>rfl
        |cons x r=>cases r with
         |nil=>rfl
         |cons y r=>cases r with
          |nil=>
           rw[s]at p
           cases t.toList with
           |nil=>rfl
           |cons T r=>cases r with
            |nil=>rfl
            |cons I r=>cases r with
             |nil=>simp only[p x (by simp),p y (by simp)]
             |cons B r=>rfl
          |cons z r=>rfl
      |cap=>simp only[evalOp,ACk];grind
      |clear=>
       simp only[evalOp,Ig];cases s:args.toList with
        |nil=>rfl
        |cons x r=>grind
      |min=>simp only[evalOp,ACi];grind
      |max=>simp only[evalOp,ACj];grind
      |_=>rfl
  |build T parts=>have:=WY (ρ:=ρ) (ρ':=ρ') (l:=parts.toList) fun x e=>h x (by simpa [Op.operands]using e);simp only[evalOp,Md,this]
  |buildSlice T n parts=>have:=WY (ρ:=ρ) (ρ':=ρ') (l:=parts.toList) fun x e=>h x (by simpa [Op.operands]using e);simp only[evalOp,E7,this]
  |makeFunc fn first cs=>
   cases fn with
    |func f=>have:=MC (ρ:=ρ) (ρ':=ρ') (l:=cs.toList) fun x e=>h x (by simp[Op.operands];grind);have u:=MC (ρ:=ρ) (ρ':=ρ') (l:=first.toList) fun x e=>h x (by simp[Op.operands];grind);simp only[evalOp,Fc,this];grind
    |_=>rfl
  |slice T x C v D=>
   have e:=h x (by simp[Op.operands]);have i:=SW (ρ:=ρ) (ρ':=ρ') (o:=C) fun y F=>h y (by simp[Op.operands];grind);have j:=SW (ρ:=ρ) (ρ':=ρ') (o:=v) fun y F=>h y (by simp[Op.operands];grind);cases D with
    |none=>simp only[evalOp,Df,e,i,j]
    |some m=>have w:=h m (by simp[Op.operands]);rcases v with _|q;simp only[evalOp,Df,e,i,j,w];have G:=h q (by simp[Op.operands]);cases q<;>simp only[evalOp,Df,e,i,j,w,G]
  |makeMap T o=>cases o<;>rfl
  |pick a b c=>simp only[evalOp,VH,h a (by simp[Op.operands]),h b (by simp[Op.operands]),h c (by simp[Op.operands])]
  |mapUpdate a b c d=>simp only[evalOp,Fs,h b (by simp[Op.operands]),h c (by simp[Op.operands]),h d (by simp[Op.operands])]
  |mapEntry a b c=>simp only[evalOp,HB,h b (by simp[Op.operands]),h c (by simp[Op.operands])]
  |entryStore a b c d=>simp only[evalOp,GV,h b (by simp[Op.operands]),h c (by simp[Op.operands]),h d (by simp[Op.operands])]
  |insert a b c d=>simp only[evalOp,N7,h b (by simp[Op.operands]),h c (by simp[Op.operands]),h d (by simp[Op.operands])]
  |move x|assign x|box _ x|load _ x|nilCheck x|unOp _ _ x|convert _ _ x|fieldAddr _ x _|field _ x _|extract x _|makeInterface _ x|typeAssert x _ _ _=>simp only[evalOp,sZ,HC,LP,Sv,D1,Kg,FQ,Dk,E6,VG,h x (by simp[Op.operands])]
  |store _ x y|binOp _ _ x y _|makeSlice _ x y|indexAddr _ x y|index _ x y|lookup _ x y _=>simp only[evalOp,Dg,Mc,CH,Em,Hw,HZ,h x (by simp[Op.operands]),h y (by simp[Op.operands])]
  |_=>rfl
theorem I_{ρ:Operand->AV}{o:Op}{x:Operand}(b:x∈o.operands){id:Nat}(a:id∈BT (ρ x)):id∈IA ρ o:=by unfold IA;grind
theorem XW{H H':List Ob}(t:Ty):∀ (a:List (Nat×AV)) (xs:List t.den) (b:List Nat),(∀ p∈a,∀ id∈BT p.2,H[id]? = H'[id]?)->EP H t a xs b=EP H' t a xs b:=by
 intro a;induction a with
  |nil=>intro xs b _;rfl
  |cons p a c=>
   intro xs b h;obtain⟨i,v⟩:=p;simp only[EP];rw[Cq t v (h (i,v) (by simp))];cases Fx H' t v with
    |none=>rfl
    |some q=>cases decide (i<xs.length)with
     |true=>exact c _ _ fun p d=>h p (by simp[d])
     |false=>rfl
theorem HU:∀ (t:Ty) (d:t.den),B0 (CC t d)=[]:=by
 intro t;induction t with
  |unit=>intro d;rfl
  |bool=>intro d;rfl
  |int k=>intro d;rfl
  |slice e _=>intro d;rfl
  |nul e=>intro d;rfl
  |mapi j e _=>intro d;rfl
  |prod a b c f=>intro d;simp only[CC];rw[Ey,c,f];rfl
  |arr n e h=>
   intro d;simp only[CC];have m:∀ l:List Nat,B0 (l.flatMap fun i=>CC e (A9 d i e.zero))=[]:=by
    intro l;induction l with
     |nil=>rfl
     |cons x xs g=>rw[AW7,Ey,h,g];rfl
   grind
theorem wc(l:List AV)(n:Nat){id:Nat}(h:id∈B0 (l.take n)):id∈B0 l:=by have:=AXC n l;rw[<- this,Ey];simp[h]
theorem wg(l:List AV)(n:Nat){id:Nat}(h:id∈B0 (l.drop n)):id∈B0 l:=by have:=AXC n l;rw[<- this,Ey];simp[h]
theorem cells?_refs{v:AV}{vs:List AV}(h:cells? v=some vs){id:Nat}(c:id∈B0 vs):id∈BT v:=by
 cases v with
  |C7=>simp[cells?]at h
  |tup _=>simp[cells?]at h
  |agg cs=>simp only[cells?,AV3]at h;subst h;simpa [BT]using c
  |data t d=>
   cases t with
    |unit=>simp only[cells?,AV3]at h;subst h;simp[B0]at c
    |prod a b=>simp only[cells?,AV3]at h;subst h;rw[HU]at c;cases c
    |arr n e=>simp only[cells?,AV3]at h;subst h;rw[HU]at c;cases c
    |bool=>simp only[cells?,AV3]at h;subst h;simpa [B0]using c
    |int k=>simp only[cells?,AV3]at h;subst h;simpa [B0]using c
    |slice e=>simp only[cells?,AV3]at h;subst h;simpa [B0]using c
    |nul e=>simp only[cells?,AV3]at h;subst h;simpa [B0]using c
    |mapi j e=>simp only[cells?,AV3]at h;subst h;simpa [B0]using c
  |_=>simp only[cells?,AV3]at h;subst h;simpa [B0]using c
theorem xB{t:Ty}{d:t.den}{v:AV}{vs cs:List AV}{s:Nat}(b:Ee (CC t d) vs s=some cs)(c:cells? v=some vs){id:Nat}(a:id∈B0 cs):id∈BT v:=by unfold Ee at b;split at b;simp only[AV3]at b;subst b;rw[Ey,Ey,AWL,AWL]at a;rcases a with(a|a)|a;have:=wc _ _ a;rw[HU]at this;grind;exact cells?_refs c a;have:=wg _ _ a;rw[HU]at this;grind;grind
theorem Pm{R:Type}(hL:Eu E){ρ:Operand->AV}(o:Op)(ty:TypeId){H H':List Ob}{fz fz':List Bool}{slot:Nat}(k:AV->Eff->Option R)
  (w:TV (IA ρ o) slot (slotsOf o) (EZ ρ o) H H' fz fz') (hl:GG E ρ o=true):evalOp P E R o ty ρ H fz slot k=evalOp P E R o ty ρ H' fz' slot k:=by
 have B:∀ x∈o.operands,∀ id∈BT (ρ x),H[id]? = H'[id]? := fun x v id m=>w.heap id (I_ v m);have own:∀ x∈o.operands,∀ id,ρ x = .own id->H[id]? = H'[id]? := fun x v id h=>B x v id (by rw[h];simp[BT]);have win:∀ x∈o.operands,∀ id off n,ρ x = .win id off n->H[id]? = H'[id]? := fun x v id off n h=>B x v id (by rw[h];simp[BT]);have D:∀ x∈o.operands,∀ id off,ρ x = .ptr id off->H[id]? = H'[id]? := fun x v id off h=>B x v id (by rw[h];simp[BT]);have C:∀ x∈o.operands,∀ id i s,ρ x = .eptr id i s->H[id]? = H'[id]? := fun x v id i s h=>B x v id (by rw[h];simp[BT]);have F:∀ x∈o.operands,∀ id,ρ x = .mp id->H[id]? = H'[id]? := fun x v id h=>B x v id (by rw[h];simp[BT]);cases o with
  |alloc T=>simp only[evalOp,PD,Dj w (s:=slot) (AV8 _) (by simp[slotsOf])]
  |box T x=>simp only[evalOp,sZ,Dj w (s:=slot) (AV8 _) (by simp[slotsOf])]
  |buildSlice T n parts=>
   have M:∀ (t:Ty) xs I,EP H t (parts.toList.map fun p=>(p.1,ρ p.2)) xs I=EP H' t (parts.toList.map fun p=>(p.1,ρ p.2)) xs I:=fun t xs I=>
    XW t _ xs I fun p Z id m=>by
     obtain⟨q,hq,rfl⟩:=AWV.1 Z
     exact B q.2 (by simp[Op.operands];grind) id m
   simp only[evalOp,E7,M,E3 w (s:=slot) (AV8 _) (by simp[slotsOf]),Dj w (s:=slot) (AV8 _) (by simp[slotsOf])];cases sliceAt P T with
    |some p=>rfl
    |none=>
     dsimp only;cases cellAt P T with
      |none=>rfl
      |some e=>cases decide (n=1)with
       |false=>rfl
       |true=>
        cases hps:parts.toList with
        |nil=>rfl
        |cons p r=>cases r with
         |cons p' r=>rfl
         |nil=>
          simp only[AWW,AXS]
          cases v:ρ p.2<;>try rfl
          rename_i id i s
          dsimp only
          simp only[Dp,C p.2 (by simp[Op.operands];exact⟨p.1,(by simpa using (show p∈parts.toList by grind))⟩) id i s v]
  |load T x=>
   simp only[evalOp,Kg];cases CD P T with
    |none=>rfl
    |some n=>cases FO P T with
     |none=>rfl
     |some ag=>
      cases v:ρ x<;>try rfl
      ·rename_i id off;simp only[D x (by simp[Op.operands]) id off v]
      ·rename_i id i s;simp only[C x (by simp[Op.operands]) id i s v]
  |store T x y=>
   have X:=B y (by simp[Op.operands]);simp only[evalOp,HZ];cases O:CD P T with
    |none=>rfl
    |some n=>cases Q:cells? (ρ y)with
     |none=>rfl
     |some vs=>
      dsimp only
      cases hd:decide (vs.length=n)with
      |false=>rfl
      |true=>
       dsimp only
       cases v:ρ x<;>try rfl
       ·rename_i id off;dsimp only;rw[D x (by simp[Op.operands]) id off v]
       ·rename_i id i s
        dsimp only
        rw[C x (by simp[Op.operands]) id i s v]
        have A:∀ I,BN (BK I fz) id=BN (BK I fz') id:=fun I=>DK w (by simp[EZ,v,BT]) I
        cases H'[id]? with
        |none=>rfl
        |some ob=>cases ob with
         |arr N t xs=>
          simp only[A,Cq _ (ρ y) X]
          cases t.nul? with
          |some e=>rfl
          |none=>
          dsimp only
          cases (s==0&&n==t.size)with
          |true=>rfl
          |false=>
           dsimp only
           cases Z:Ee (CC t (A9 xs i t.zero)) vs s with
           |none=>rfl
           |some cs=>
            dsimp only
            rw[Pb t cs (fun id' m=>X id' (xB Z Q m))]
         |rows N e t xs ver out=>
          have hun0:BN fz id=BN fz' id:=A []
          grind
         |_=>rfl
  |nilCheck x=>
   simp only[evalOp,Dk];cases v:ρ x<;>try rfl
   rename_i id off;simp only[GH,D x (by simp[Op.operands]) id off v];rename_i id i s;simp only[Dp,C x (by simp[Op.operands]) id i s v]
  |fieldAddr T x f=>
   simp only[evalOp,D1];cases fieldAt P T f with
    |none=>rfl
    |some p=>
     obtain⟨off,size,ag⟩:=p;dsimp only;cases decide (size=0)with
      |true=>rfl
      |false=>
       dsimp only;cases v:ρ x<;>try rfl
       rename_i id off;simp only[GH,D x (by simp[Op.operands]) id off v];rename_i id i s;simp only[Dp,C x (by simp[Op.operands]) id i s v]
  |makeMap T o=>
   cases o with
    |none=>simp only[evalOp,I5,Dj w (s:=slot) (AV8 _) (by simp[slotsOf])]
    |some x=>rfl
  |makeSlice T x y=>simp only[evalOp,Hw,Dj w (s:=slot) (AV8 _) (by simp[slotsOf])]
  |slice T x lo up mx=>
   have v:=B x (by simp[Op.operands]);cases mx with
    |none=>
     have K:∀ sz l h,HR H sz (ρ x) l h R=HR H' sz (ρ x) l h R:=fun sz l h=>by
      funext kk;unfold HR;cases u:ρ x with
       |data t d=>cases t<;>rfl
       |own id=>dsimp only;rw[own x (by simp[Op.operands]) id u]
       |win id off n=>dsimp only;rw[win x (by simp[Op.operands]) id off n u]
       |_=>rfl
     simp only[evalOp,Df,K];cases P.underlying T with
      |none=>rfl
      |some d=>cases d with
       |array n e=>
        dsimp only
        cases Fa ρ lo with
        |none=>rfl
        |some lo=>cases Fa ρ up with
         |none=>rfl
         |some up=>
          cases u:ρ x<;>try rfl
          rename_i id n'
          dsimp only
          rw[B x (by simp[Op.operands]) id (by rw[u];simp[BT])]
       |_=>rfl
    |some mm=>
     have K:G_ H (ρ x)=G_ H' (ρ x):=by
      unfold G_;cases u:ρ x with
       |data t d=>cases t<;>rfl
       |own id=>simp only[Dp,own x (by simp[Op.operands]) id u]
       |win id off n=>simp only[Dp,win x (by simp[Op.operands]) id off n u]
       |_=>rfl
     simp only[evalOp,Df,K,Dj w (s:=slot) (AV8 _) (by simp[slotsOf])]
  |indexAddr T x y=>
   simp only[evalOp,CH];cases U:P.underlying T with
    |none=>rfl
    |some d=>cases d with
     |slice e=>
      cases X:ρ y<;>try rfl
      rename_i t d'
      cases t<;>try rfl
      cases u:ρ x with
      |data t d=>cases t<;>rfl
      |own id=>dsimp only;rw[own x (by simp[Op.operands]) id u]
      |win id off n=>dsimp only;rw[win x (by simp[Op.operands]) id off n u]
      |_=>rfl
     |array n e=>
      cases X:ρ y<;>try rfl
      rename_i t d'
      cases t<;>try rfl
      rename_i j
      have hat:dA H n (ρ x)=dA H' n (ρ x):=by
       unfold dA
       cases u:ρ x<;>try rfl
       rename_i id n'
       dsimp only
       rw[B x (by simp[Op.operands]) id (by rw[u];simp[BT])]
      dsimp only
      rw[hat]
      cases dA H' n (ρ x)with
      |some q=>rfl
      |none=>
      dsimp only
      cases gAt (ρ x)with
      |some q=>rfl
      |none=>
      dsimp only
      cases CD P e with
      |none=>rfl
      |some s=>cases decide (0<=(d':Int)/\(d':Int)<(n:Int))with
       |false=>rfl
       |true=>
        dsimp only
        cases u:ρ x<;>try rfl
        ·rename_i id off;simp only[GH,D x (by simp[Op.operands]) id off u]
        ·rename_i id i s;simp only[Dp,C x (by simp[Op.operands]) id i s u]
     |_=>rfl
  |lookup T a b ok=>
   have V:=fun t=>Cq t (ρ b) (B b (by simp[Op.operands]));simp only[evalOp,Em,V];cases U:P.underlying T with
    |none=>rfl
    |some d=>cases d with
     |map kt vt=>
      cases u:ρ a with
      |data t d=>cases t<;>rfl
      |mp id=>dsimp only;rw[F a (by simp[Op.operands]) id u]
      |_=>rfl
     |_=>rfl
  |mapUpdate T a b c=>
   have V:=fun t=>Cq t (ρ b) (B b (by simp[Op.operands]));have Q:=fun t=>Cq t (ρ c) (B c (by simp[Op.operands]));simp only[evalOp,Fs,V,Q];cases U:P.underlying T with
    |none=>rfl
    |some d=>cases d with
     |map kt vt=>
      cases u:ρ a<;>try rfl
      rename_i id
      dsimp only
      have A:BN fz id=BN fz' id:=DK w (by simp[EZ,u,BT]) []
      rw[F a (by simp[Op.operands]) id u,A]
     |_=>rfl
  |mapEntry T a b=>
   have V:=fun t=>Cq t (ρ b) (B b (by simp[Op.operands]));simp only[evalOp,HB];cases U:P.underlying T with
    |none=>rfl
    |some d=>cases d with
     |map kt vt=>
      cases u:ρ a<;>try rfl
      rename_i id
      dsimp only
      rw[F a (by simp[Op.operands]) id u]
      grind
     |_=>rfl
  |entryStore T a b c=>
   have Q:=fun t=>Cq t (ρ c) (B c (by simp[Op.operands]));simp only[evalOp,GV];cases u:ρ a<;>try rfl
   rename_i id;cases O:ρ b<;>try rfl
   rename_i t d;cases t<;>try rfl
   rename_i j;cases j<;>try rfl
   dsimp only;rw[F a (by simp[Op.operands]) id u];grind
  |insert T a b c=>
   have V:=fun t=>Cq t (ρ b) (B b (by simp[Op.operands]));have Q:=fun t=>Cq t (ρ c) (B c (by simp[Op.operands]));simp only[evalOp,N7];cases U:P.underlying T with
    |none=>rfl
    |some d=>cases d with
     |map kt vt=>
      cases u:ρ a<;>try rfl
      rename_i id
      dsimp only
      rw[F a (by simp[Op.operands]) id u]
      grind
     |_=>rfl
  |convert S T x=>have v:=fun t=>Cq t (ρ x) (B x (by simp[Op.operands]));simp only[evalOp,HC];grind
  |call c=>
   obtain⟨callee,args,Y⟩:=c;cases callee with
    |value f=>
     simp only[evalOp,Kh];cases M:ρ f<;>try rfl
     rename_i g W;dsimp only;refine hL.1 g (by simpa [GG,M]using hl) R _ H H' fz fz' slot k ⟨fun id m=>w.heap id ?_,w.slotH,w.slotF,w.len,fun id m=>by cases m⟩;rw[Ey,AWL]at m;rcases m with m|m;have L:∀ l:List Operand,id∈B0 (l.map ρ)->∃ x∈l,id∈BT (ρ x):=by
      intro l;induction l with
       |nil=>intro h;simp[B0]at h
       |cons y l ih=>intro h;simp only[AWW,B0,AWL]at h;grind
     obtain⟨x,J,h2⟩:=L _ m;exact I_ (x:=x) (by simp[Op.operands,Call.operands];grind) h2;exact I_ (x:=f) (by simp[Op.operands,Call.operands]) (by rw[M];simpa [BT]using m);rename_i g W;dsimp only;refine hL.1 g (by simpa [GG,M]using hl) R _ H H' fz fz' slot k ⟨fun id m=>w.heap id ?_,w.slotH,w.slotF,w.len,fun id m=>by cases m⟩;rw[Ey,AWL]at m;rcases m.symm with m|m;have L:∀ l:List Operand,id∈B0 (l.map ρ)->∃ x∈l,id∈BT (ρ x):=by
      intro l;induction l with
       |nil=>intro h;simp[B0]at h
       |cons y l ih=>intro h;simp only[AWW,B0,AWL]at h;grind
     obtain⟨x,J,h2⟩:=L _ m;exact I_ (x:=x) (by simp[Op.operands,Call.operands];grind) h2;exact I_ (x:=f) (by simp[Op.operands,Call.operands]) (by rw[M];simpa [BT]using m)
    |invoke r n=>rfl
    |builtin b=>
     have ops:∀ x∈args.toList,x∈Op.operands (.call { callee:=.builtin b,args:=args,argTypes:=Y }):=fun x v=>by simp[Op.operands,Call.operands];grind
     cases b with
      |len=>
       simp only[evalOp,N6];cases J:args.toList with
        |nil=>rfl
        |cons x r=>cases r with
         |cons y r=>rfl
         |nil=>
          have v:=ops x (by grind)
          cases Y.toList with
          |nil=>rfl
          |cons T r=>cases r with
           |cons N r=>rfl
           |nil=>
            dsimp only
            cases U:P.underlying T with
            |none=>rfl
            |some d=>
             cases d with
             |slice e=>
              dsimp only
              cases u:ρ x with
              |data t d=>cases t<;>rfl
              |own id=>grind
              |win id off n=>simp only[Dp,win x v id off n u]
              |_=>rfl
             |map a b=>
              grind
             |_=>rfl
      |append=>
       simp only[evalOp,Dx];cases J:args.toList with
        |nil=>rfl
        |cons s r=>cases r with
         |nil=>rfl
         |cons x r=>cases r with
          |cons z r=>rfl
          |nil=>
           have O:=ops s (by grind)
           have v:=ops x (by grind)
           have G:=Dj w (s:=slot) (AV8 _) (by simp[slotsOf])
           cases Y.toList with
           |nil=>rfl
           |cons T r=>cases r with
            |nil=>rfl
            |cons N r=>cases r with
             |cons T'' r=>rfl
             |nil=>
              dsimp only
              cases sliceAt P T with
              |none=>
               cases decide (T=N)with
               |false=>rfl
               |true=>
                dsimp only
                cases cellAt P T with
                |none=>rfl
                |some e=>
                 cases hvx:ρ x<;>try rfl
                 rename_i ix
                 dsimp only
                 rw[own x v ix hvx]
                 cases hvs:ρ s with
                 |own id=>grind
                 |_=>simp only[G]
              |some p=>
               obtain⟨e,t⟩:=p
               cases decide (T=N)with
               |false=>
                grind
               |true=>
                dsimp only
                rw[Cq (.slice t) (ρ x) (B x v)]
                cases Fx H' (.slice t) (ρ x)with
                |none=>rfl
                |some q=>
                 obtain⟨ys,I⟩:=q
                 cases zeroAt P e with
                 |none=>rfl
                 |some zz=>
                  cases (P.info? e).map (fun i=>decide (i.bytes<=1024))with
                  |none=>rfl
                  |some bb=>cases bb with
                   |false=>rfl
                   |true=>
                    dsimp only
                    cases u:ρ s<;>try rfl
                    ·grind
                    ·rename_i id
                     have A:BN fz id=BN fz' id:=DK w (by simp[EZ,J,u,BT]) []
                     dsimp only
                     rw[own s O id u]
                     simp_all
                    ·rename_i id off n
                     have A:BN fz id=BN fz' id:=DK w (by simp[EZ,J,u,BT]) []
                     cases off with
                     |succ off=>rfl
                     |zero=>simp only[win s O id 0 n u,G,A]
                    ·grind
                    ·rename_i id i ver
                     have A:BN fz id=BN fz' id:=DK w (by simp[EZ,J,u,BT]) []
                     dsimp only
                     rw[B s O id (by rw[u];simp[BT])]
                     grind
      |clear=>
       simp only[evalOp,Ig];cases J:args.toList with
        |nil=>rfl
        |cons x r=>cases r with
         |cons z r=>rfl
         |nil=>
          have v:=ops x (by grind)
          cases Y.toList with
          |nil=>rfl
          |cons T r=>cases r with
           |cons N r=>rfl
           |nil=>
            dsimp only
            cases sliceAt P T with
            |none=>rfl
            |some p=>
             obtain⟨e,t⟩:=p
             dsimp only
             cases zeroAt P e with
             |none=>rfl
             |some zz=>
              dsimp only
              cases u:ρ x<;>try rfl
              ·rename_i id
               have A:BN fz id=BN fz' id:=DK w (by simp[EZ,J,u,BT]) []
               grind
              ·rename_i id off n
               have A:BN fz id=BN fz' id:=DK w (by simp[EZ,J,u,BT]) []
               grind
      |_=>rfl
  |makeFunc fn first cs=>cases fn<;>rfl
  |_=>rfl
theorem mi{R:Type}(h:Eu E){ρ:Operand->AV}(o:Op)(ty:TypeId){H H':List Ob}{fz fz':List Bool}{slot:Nat}(k:AV->Eff->Option R)
  (d:TV (Mx ρ o) slot (slotsOf o) (EZ ρ o) H H' fz fz') (j:GG E ρ o=true):evalOp P E R o ty ρ H fz slot k=evalOp P E R o ty ρ H' fz' slot k:=by
 cases o with
  |move x=>rfl
  |assign x=>rfl
  |pick c a b=>rfl
  |extract x i=>rfl
  |build T n=>rfl
  |makeFunc f a b=>cases f<;>rfl
  |store T x y=>
   by_cases m:∃ id off,ρ x = .ptr id off;obtain⟨id,off,l⟩:=m;have g:=d.heap id (by simp only[Mx,l];simp);simp only[evalOp,HZ,l,g];have e:Mx ρ (.store T x y)=IA ρ (.store T x y):=by simp only[Mx];grind
   rw[e]at d;exact Pm h (.store T x y) ty k d j
  |_=>exact Pm h _ ty k d j
theorem gR{l:List AV}{id:Nat}(h:id∈B0 l):∃ v∈l,id∈BT v:=by
 induction l with
  |nil=>simp[B0]at h
  |cons a l b=>simp only[B0,AWL]at h;grind
theorem Da{l:List AV}{v:AV}{id:Nat}(b:v∈l)(h:id∈BT v):id∈B0 l:=by
 induction l with
  |nil=>cases b
  |cons a l c=>simp only[B0,AWL];grind
theorem sY{R:Type}(p:Eu E){ρ:Operand->AV}{φ:List Nat}(o:Op)(ty:TypeId){H H':List Ob}{fz fz':List Bool}{slot:Nat}(k:AV->Eff->Option R)(n:Lm E ρ o φ H=true)
  (c:TV (φ.map (· / 2)) slot (slotsOf o) (φ.map (· / 2)) H H' fz fz'):evalOp P E R o ty ρ H fz slot k=evalOp P E R o ty ρ H' fz' slot k:=by
 unfold Lm at n;simp only[AV5]at n;obtain⟨⟨⟨m,q⟩,u⟩,e⟩:=n;unfold UK at e;split at e;rename_i f args w;split at e;rename_i g h l;simp only[evalOp,Kh,l];have d:∀ {i:Nat},wt φ i=true->i∈φ.map (· / 2):=by intro i hi;unfold wt at hi;grind
 refine p.2 g e R _ H H' fz fz' slot k (φ.map (· / 2)) (fun id a => ?_) (fun id a cs r j s => ?_) ⟨c.heap,c.slotH,c.slotF,c.len,c.wrF⟩
 rw[AWU]at m;refine d (m id ?_);unfold IA;rw[AYD];obtain⟨v,b,hi⟩:=gR a;rcases AWL.1 b with b|b;obtain⟨x,t,rfl⟩:=AWV.1 b;exact⟨x,by simp[Op.operands,Call.operands];grind,hi⟩;exact⟨f,by simp[Op.operands,Call.operands],by rw[l];simp only[BT];exact Da b hi⟩;unfold PH at q;grind;rename_i g h l;simp only[evalOp,Kh,l];have d:∀ {i:Nat},wt φ i=true->i∈φ.map (· / 2):=by intro i hi;unfold wt at hi;grind
 refine p.2 g e R _ H H' fz fz' slot k (φ.map (· / 2)) (fun id a => ?_) (fun id a cs r j s => ?_) ⟨c.heap,c.slotH,c.slotF,c.len,c.wrF⟩
 rw[AWU]at m;refine d (m id ?_);unfold IA;rw[AYD];obtain⟨v,b,hi⟩:=gR a;rcases(AWL.1 b).symm with b|b;obtain⟨x,t,rfl⟩:=AWV.1 b;exact⟨x,by simp[Op.operands,Call.operands];grind,hi⟩;exact⟨f,by simp[Op.operands,Call.operands],by rw[l];simp only[BT];exact Da b hi⟩;unfold PH at q;grind;grind;grind
end
section
variable {P:Program} {E:Env}
def EI(all:List Oper)(g:Option (Nat×Bool))(st:St):Option Bool:=
 match g with
 |none=>some true
 |some (j,want)=>match(all[j]?).bind (·.dst)with
  |none=>none
  |some d=>match st.tmps.f d with
   |.data .bool b=>some (b==want)
   |.tup []=>some false
   |_=>none
theorem mL{R:Type}{all:List Oper}{g:Option (Nat×Bool)}{st:St}{a c:St->Option R}{r:R}(h:guarded R all g st a c=some r):
  (EI all g st=some true/\a st=some r)\/(EI all g st=some false/\c st=some r):=by
 unfold guarded at h;unfold EI;split at h;grind
 ·rename_i j e;split at h;cases h
  ·rename_i d i;simp only[i];split at h
   ·rename_i b hd;have f:=Tm.NR hd;simp only[hd];split at h;·rw[f]at h;split at h;all_goals simp_all
    ·rw[f]at h;split at h;all_goals simp_all
   all_goals grind
def Kn(E:Env)(H:List Ob)(ρ:Operand->AV)(o:Op)(φ:List Nat):Prop:=(NA φ=true/\Lm E ρ o φ H=true)\/(within (Mx ρ o) φ=true/\Oh (EZ ρ o) φ=true/\GG E ρ o=true)
def DQ(P:Program)(E:Env)(all:List Oper)(o:Oper)(φ:List Nat)(slot:Nat)(st a:St):Prop:=
 (EI all o.guard st=some true/\∃ v e,(Ly φ=true\/(Kn E st.heap (BZ st.tmps) o.op φ/\S2 (writer o.op||NA φ) φ slot (slotsOf o.op) e=true)) /\
  (∀ (R:Type) (k:AV->Eff->Option R),evalOp P E R o.op o.type (BZ st.tmps) st.heap st.frz slot k=k v e)/\a=(st.app e).put o.dst v) \/
 (EI all o.guard st=some false/\a=st.put o.dst CK)
theorem ZB(i:∀ g,BW P g (E.spec g)){R:Type}{all:List Oper}{o:Oper}{φ:List Nat}{slot:Nat}{st:St}{k:St->Option R}{r:R}(h:Ri P E R all o φ slot st k=some r):
  ∃ b,DQ P E all o φ slot st b/\k b=some r:=by
 unfold Ri at h;rcases mL h with⟨d,h⟩|⟨d,h⟩
 split at h;rename_i a;simp only[AXN,AV5]at a;obtain⟨v,e,f,j,_⟩:=E5 i o.op R _ _ _ _ _ _ _ h;split at f;rename_i c;rw[AXN]at c;refine⟨_,.inl ⟨d,v,e,?_,j,rfl⟩,f⟩;rcases a with a|a;grind;rcases c with c|c;grind;refine .inr ⟨?_,c⟩;rcases a with a|a;exact .inl a;exact .inr ⟨a.2.1.1,a.2.1.2,a.2.2⟩;grind;grind;exact⟨_,.inr ⟨d,rfl⟩,h⟩
def IL(P:Program)(E:Env)(all:List Oper)(fp:Nat->List Nat)(a:Nat->Nat):List Nat->St->St->Prop
 |[],st,st'=>st=st'
 |i::l,st,st'=>∃ o b,all[i]? = some o/\DQ P E all o (fp i) (a i) st b/\IL P E all fp a l b st'
def By(all:List Oper)(base i:Nat):Nat:=base+C6 (all.take i)
theorem JP(a b:List Oper):C6 (a++b)=C6 a+C6 b:=by
 unfold C6;induction a with
  |nil=>simp
  |cons x a c=>grind
theorem de(n:∀ g,BW P g (E.spec g)){R:Type}{all:List Oper}{fp:List (List Nat)}{base:Nat}{k:St->Option R}{r:R}:∀ (a pre:List Oper) (b:List (List Nat)) (slot:Nat) (st:St),
  all=pre++a->b=fp.drop pre.length->slot=By all base pre.length->KC P E R all a b slot st k=some r ->
  ∃ st',IL P E all (fun i=>fp.getD i []) (By all base) (List.range' pre.length a.length) st st'/\k st'=some r:=by
 intro a;induction a with
  |nil=>intro pre b slot st _ _ _ h;exact⟨st,rfl,h⟩
  |cons o a p=>
   intro pre b slot st j q e h;simp only[KC]at h;obtain⟨l,w,s⟩:=ZB n h;have c:(pre++[o]).length=pre.length+1:=by simp
   have m:b.headD []=fp.getD pre.length []:=by simp_all
   have d:b.tail=fp.drop (pre++[o]).length:=by simp_all
   have f:slot+slotsOf o.op=By all base (pre++[o]).length:=by
    rw[e,c];unfold By;have t:all.take (pre.length+1)=pre++[o]:=by grind
    have u:all.take pre.length=pre:=by grind
    rw[t,u,JP];simp[C6];omega
   obtain⟨st',x,v⟩:=p (pre++[o]) _ _ l (by grind) d f s;refine⟨st',?_,v⟩;rw[AWD,AXp];refine⟨o,l,by grind,?_,by grind⟩;grind
theorem WQ:∀ (l:List (Nat×Ob)) (H:List Ob),(Bs l H).length=H.length:=by
 intro l;induction l with
  |nil=>intro H;rfl
  |cons p l a=>intro H;obtain⟨i,o⟩:=p;simp only[Bs];grind
theorem CP{i:Nat}:∀ (l:List (Nat×Ob)) (H:List Ob),(∀ p∈l,p.1≠i)->(Bs l H)[i]? = H[i]? := by
 intro l;induction l with
  |nil=>intro H _;rfl
  |cons p l a=>intro H h;obtain⟨j,o⟩:=p;simp only[Bs];simp_all
theorem HS{i:Nat}:∀ (l:List (Nat×Ob)) (H H':List Ob),H[i]? = H'[i]?->(Bs l H)[i]? = (Bs l H')[i]? := by
 intro l;induction l with
  |nil=>intro H H' h;exact h
  |cons p l a=>intro H H' h;obtain⟨j,o⟩:=p;simp only[Bs];refine a _ _ ?_;by_cases b:i=j;all_goals grind
theorem kE(a b:List (Nat×Ob))(h:∀ p∈a,∀ q∈b,p.1≠q.1)(H:List Ob):Bs a (Bs b H)=Bs b (Bs a H):=by
 apply AWp;intro i;by_cases c:∀ p∈a,p.1≠i;rw[CP a _ c];exact HS b _ _ (CP a _ c).symm;have d:∀ q∈b,q.1≠i:=by grind
 rw[CP b _ d];exact HS a _ _ (CP b _ d)
theorem pX(a b:List Nat)(fz:List Bool):BK a (BK b fz)=BK b (BK a fz):=by
 apply AWp;intro i;have d:∀ (x:List Bool) (y:List Bool),x.length=y.length->(∀ i,x.getD i false=y.getD i false)->x[i]? = y[i]? := by intro x y c e;have:=e i;grind
 refine d _ _ (by simp[D4]) fun i => ?_;rw[Bg,Bg,Bg,Bg,D4,D4];grind
theorem Yh{l φ:List Nat}(h:within l φ=true){i:Nat}(hi:i∈l):rd φ i=true:=by unfold within at h;grind
theorem oR{l φ:List Nat}(h:Oh l φ=true){i:Nat}(hi:i∈l):wt φ i=true:=by unfold Oh at h;grind
theorem K2{φ:List Nat}{i:Nat}(h:wt φ i=true):rd φ i=true:=by unfold wt at h;unfold rd;grind
theorem Mg{a:Bool}{φ:List Nat}{slot n:Nat}{e:Eff}(h:S2 a φ slot n e=true):e.heap=none/\(∀ p∈e.objs,(slot<=p.1/\p.1<slot+n)\/(a=true/\wt φ p.1=true))/\∀ i∈e.frz,rd φ i=true:=by unfold S2 at h;simp only[AV5]at h;obtain⟨⟨c,d⟩,b⟩:=h;refine⟨by simp_all,fun p f => ?_,fun i hi=>Yh b hi⟩;grind
theorem DI{e:Eff}(h:e.heap=none)(H:List Ob):DB e H=Bs e.objs H:=by unfold DB;rw[h]
theorem DY{e:Eff}(h:e.heap=none)(F:List Bool):FN e F=BK e.frz F:=by unfold FN;rw[h]
theorem Ch{all:List Oper}{x y:Oper}(a:apart? all x y=true)(st:St)(v:AV):∀ z∈y.op.operands,BZ (st.put x.dst v).tmps z=BZ st.tmps z:=by
 obtain⟨c,_,_⟩:=Oper.apart_spec a;intro z e;cases hd:x.dst with
  |none=>rfl
  |some d=>
   cases z with
    |tmp t=>
     have b:d≠t:=by rintro rfl;refine c d hd ?_;unfold Oper.looksAt;refine List.mem_append_left _ ?_;rw[List.mem_filterMap];exact⟨.tmp d,by grind,rfl⟩
     simp[BZ,St.put,Tm.WN,AXx b]
    |const v=>rfl
    |global g=>rfl
    |func f=>rfl
theorem Hu{all:List Oper}{x y:Oper}(a:apart? all x y=true)(st:St)(v:AV)(H:List Ob)(F:List Bool):EI all y.guard ({ st with heap:=H,frz:=F }.put x.dst v)=EI all y.guard st:=by
 obtain⟨f,_,_⟩:=Oper.apart_spec a;unfold EI;cases g:y.guard with
  |none=>rfl
  |some p=>
   obtain⟨j,c⟩:=p;dsimp only;cases h:(all[j]?).bind (·.dst)with
    |none=>rfl
    |some d=>
     dsimp only;cases hd:x.dst with
      |none=>rfl
      |some e=>
       have b:e≠d:=by rintro rfl;refine f e hd ?_;unfold Oper.looksAt;grind
       simp[St.put,Tm.WN,AXx b]
theorem St.put_comm(st:St){x y:Option Tmp}(v u:AV)(h:∀ d,x=some d->y≠some d):(st.put x v).put y u=(st.put y u).put x v:=by
 cases x with
  |none=>rfl
  |some d=>
   cases y with
    |none=>rfl
    |some b=>have a:d≠b:=fun e=>h d rfl (by rw[e]);simp only[St.put];rw[Tm.set_comm _ _ _ a]
theorem St.Ij(st:St)(e:Eff)(d:Option Tmp)(v:AV):(st.put d v).app e=(st.app e).put d v:=by cases d<;>rfl
theorem AKn{φ:List Nat}{i:Nat}(h:rd φ i=true):∃ c∈φ,c/2=i:=by unfold rd at h;grind
theorem Nv{all:List Oper}{x y:Oper}{φx φy:List Nat}{a b:Nat}(h:indep all x y φx φy a b=true):
  apart? all x y=true/\((NA φx=false/\NA φy=false/\YE x.op y.op=true)\/(Ly φx=true/\Ck y.op=true)\/(Ly φy=true/\Ck x.op=true)\/Ly φx=false/\Ly φy=false/\(∀ i,rd φy i=true->¬ (a<=i/\i<a+slotsOf x.op))/\(∀ i,rd φx i=true->¬ (b<=i/\i<b+slotsOf y.op))/\(∀ i,wt φx i=true->rd φy i=true->False)/\(∀ i,wt φy i=true->rd φx i=true->False)):=by
 unfold indep at h;rw[AV5]at h;obtain⟨d,h⟩:=h;refine⟨d,?_⟩;simp only[AXN,AV5,AXF]at h;rcases h with((h|h)|h)|h;grind;grind;rotate_left;grind;obtain⟨⟨⟨⟨⟨e,f⟩,g⟩,j⟩,k⟩,l⟩:=h;refine .inr (.inr (.inr ⟨e,f,?_⟩));rw[AWU]at g j k l;have m:∀ {φ:List Nat} {s n:Nat},(∀ c∈φ,(!(decide (s<=c/2)&&decide (c/2<s+n)))=true)->∀ i,rd φ i=true->¬ (s<=i/\i<s+n):=by intro φ s n h i hi;obtain⟨c,o,rfl⟩:=AKn hi;grind
 have p:∀ {φ ψ:List Nat},(∀ c∈φ,(decide (c % 2=0) || !(rd ψ (c/2)))=true)->∀ i,wt φ i=true->rd ψ i=true->False:=by intro φ ψ h i hi q;unfold wt at hi;grind
 grind
theorem Jv{all:List Oper}{x y:Oper}(h:apart? all x y=true):apart? all y x=true:=by obtain⟨a,b,c⟩:=Oper.apart_spec h;unfold apart? Oper.apart;grind
theorem eg{φ:List Nat}{H H':List Ob}(h:∀ i,rd φ i=true->H[i]? = H'[i]?):PH φ H=PH φ H':=by
 unfold PH;rw[AXa,AWU,AWU];have e:∀ c∈φ,H[c/2]? = H'[c/2]? := by intro c a;refine h _ ?_;unfold rd;grind
 grind
theorem oD{ρ:Operand->AV}{o:Op}{φ:List Nat}{H H':List Ob}(h:∀ i,rd φ i=true->H[i]? = H'[i]?)(a:Kn E H ρ o φ):Kn E H' ρ o φ:=by rcases a with⟨b,c⟩|a;refine .inl ⟨b,?_⟩;unfold Lm at *;rw[<- eg h];exact c;exact .inr a
theorem iF{x:Oper}{φx φy:List Nat}{c:Nat}(g:∀ i,rd φy i=true->¬ (c<=i/\i<c+slotsOf x.op))(h:∀ i,wt φx i=true->rd φy i=true->False){st:St}{vx:AV}{b:Eff}{e:Bool}(d:S2 e φx c (slotsOf x.op) b=true):
  ∀ i,rd φy i=true->((st.app b).put x.dst vx).heap[i]? = st.heap[i]? := by
 intro i hi;obtain⟨f,j,k⟩:=Mg d;have a:((st.app b).put x.dst vx).heap=Bs b.objs st.heap:=by cases x.dst<;>exact DI f _
 rw[a];refine CP _ _ fun p l => ?_;grind
theorem fZ(B:Eu E){all:List Oper}{x y:Oper}{φx φy:List Nat}{j e:Nat}(r:apart? all x y=true)(L:∀ i,rd φy i=true->¬ (j<=i/\i<j+slotsOf x.op))
  (C:∀ i,rd φx i=true->¬ (e<=i/\i<e+slotsOf y.op)) (M:∀ i,wt φx i=true->rd φy i=true->False) (N:∀ i,wt φy i=true->rd φx i=true->False) (H:j+slotsOf x.op<=e\/e+slotsOf y.op<=j)
  {st:St} {vx:AV} {ex:Eff} {I:Bool} (hex:S2 I φx j (slotsOf x.op) ex=true) (D:Kn E ((st.app ex).put x.dst vx).heap (BZ st.tmps) y.op φy\/Kn E st.heap (BZ st.tmps) y.op φy) :
  ∀ (R:Type) (k:AV->Eff->Option R),evalOp P E R y.op y.type (BZ ((st.app ex).put x.dst vx).tmps) ((st.app ex).put x.dst vx).heap ((st.app ex).put x.dst vx).frz e k=evalOp P E R y.op y.type (BZ st.tmps) st.heap st.frz e k:=by
 intro R k;obtain⟨F,G,O⟩:=Mg hex;have f:∀ z∈y.op.operands,BZ ((st.app ex).put x.dst vx).tmps z=BZ st.tmps z:=fun z J=>by have:=Ch r (st.app ex) vx z J;exact this
 have b:((st.app ex).put x.dst vx).heap=Bs ex.objs st.heap:=by cases x.dst<;>exact DI F _
 have l:((st.app ex).put x.dst vx).frz=BK ex.frz st.frz:=by cases x.dst<;>exact DY F _
 rw[b]at D;rw[b,l];have d:∀ i,rd φy i=true->(Bs ex.objs st.heap)[i]? = st.heap[i]? := by intro i hi;refine CP _ _ fun p o => ?_;grind
 have t:Kn E st.heap (BZ st.tmps) y.op φy:=D.elim (fun h=>oD d h) fun h=>h;rcases t with⟨_,g⟩|⟨g,u,K⟩
 rw[Ct y.op y.type _ _ e k f];symm;have v:∀ c∈φy,wt φy (c/2)=true:=by intro c q;unfold Lm at g;simp only[AV5]at g;have:=g.1.2;rw[AWU]at this;have:=this c q;simp only[AXZ]at this;unfold wt;grind
 refine sY B y.op y.type k g ⟨fun id a => ?_,fun s m n => ?_,fun s m n => ?_,(D4 _ _).symm,fun id a => ?_⟩;obtain⟨c,q,rfl⟩:=AWV.1 a;exact(d _ (K2 (v c q))).symm;symm;refine CP _ _ fun p o => ?_;rintro rfl;rcases G p o with h|⟨w,h⟩
 omega;exact C _ (K2 h) ⟨m,n⟩;rw[Bg];grind;obtain⟨c,q,rfl⟩:=AWV.1 a;rw[Bg];grind;have A:TV (Mx (BZ st.tmps) y.op) e (slotsOf y.op) (EZ (BZ st.tmps) y.op) (Bs ex.objs st.heap) st.heap (BK ex.frz st.frz) st.frz:=by
  refine⟨fun id a => ?_,fun s m n => ?_,fun s m n => ?_,D4 _ _,fun id a => ?_⟩;have hφ:=Yh g a;grind;refine CP _ _ fun p o => ?_;rintro rfl;rcases G p o with h|⟨w,h⟩
  omega;exact C _ (K2 h) ⟨m,n⟩;rw[Bg];grind;rw[Bg];have hφ:=oR u a;grind
 rw[Ct y.op y.type _ _ e k f];exact mi B y.op y.type k A K
theorem jv{ρ ρ':Operand->AV}{o:Op}(h:∀ z∈o.operands,ρ z=ρ' z):EZ ρ o=EZ ρ' o:=by
 unfold EZ;split;rw[h _ (by simp[Op.operands])];rw[h _ (by simp[Op.operands])];rw[h _ (by simp[Op.operands])];rw[h _ (by simp[Op.operands])];rw[h _ (by simp[Op.operands])];rename_i args a;cases b:args.toList with
  |nil=>rfl
  |cons s r=>
   have:s∈args:=by
    have:s∈args.toList:=by grind
    grind
   simp only;rw[h s (by simp[Op.operands,Call.operands];omega)]
 rename_i args a;cases b:args.toList with
  |nil=>rfl
  |cons s r=>
   have:s∈args:=by
    have:s∈args.toList:=by grind
    grind
   simp only;rw[h s (by simp[Op.operands,Call.operands];omega)]
 rfl
theorem Lu{ρ ρ':Operand->AV}{o:Op}(h:∀ z∈o.operands,ρ z=ρ' z):IA ρ o=IA ρ' o:=by
 unfold IA;have a:∀ l:List Operand,(∀ z∈l,ρ z=ρ' z)->(l.flatMap fun x=>BT (ρ x))=l.flatMap fun x=>BT (ρ' x):=by
  intro l;induction l with
   |nil=>simp
   |cons x l b=>grind
 grind
theorem oz{ρ ρ':Operand->AV}{o:Op}(h:∀ z∈o.operands,ρ z=ρ' z):Mx ρ o=Mx ρ' o:=by
 cases o with
  |store T x y=>simp only[Mx];rw[h x (by simp[Op.operands]),Lu h]
  |move x=>rfl
  |assign x=>rfl
  |pick c a b=>rfl
  |extract x i=>rfl
  |build T d=>rfl
  |makeFunc f a b=>rfl
  |_=>exact Lu h
theorem dp{ρ ρ':Operand->AV}{o:Op}(h:∀ z∈o.operands,ρ z=ρ' z):GG E ρ o=GG E ρ' o:=by unfold GG;split;rename_i f args a;rw[h f (by simp[Op.operands,Call.operands])];rfl
theorem H6{H:List Ob}{ρ ρ':Operand->AV}{o:Op}{φ:List Nat}(h:∀ z∈o.operands,ρ z=ρ' z)(a:Kn E H ρ o φ):Kn E H ρ' o φ:=by
 rcases a with⟨g,a⟩|⟨b,c,d⟩
 refine .inl ⟨g,?_⟩;have e:UK E ρ o=UK E ρ' o:=by unfold UK;split;rename_i f args i;rw[h f (by simp[Op.operands,Call.operands])];rfl
 unfold Lm at *;rw[<- e,<- Lu h];exact a;rw[oz h]at b;rw[jv h]at c;rw[dp h]at d;exact .inr ⟨b,c,d⟩
theorem Pj{R:Type}{o:Op}(h:Ck o=true)(ty:TypeId)(ρ:Operand->AV)(H H':List Ob)(fz fz':List Bool)(slot:Nat)(k:AV->Eff->Option R):
  evalOp P E R o ty ρ H fz slot k=evalOp P E R o ty ρ H' fz' slot k:=by cases o<;>first|rfl|(simp only[Ck,AWM]at h)
theorem MV{o:Op}(h:Ck o=true)(ty:TypeId)(ρ:Operand->AV)(H:List Ob)(fz:List Bool)(slot:Nat){v:AV}{e:Eff}
  (a:∀ (R:Type) (k:AV->Eff->Option R),evalOp P E R o ty ρ H fz slot k=k v e):e = {}:=by
 have:=a Eff (fun _ e=>some e);cases o<;>first|(simp only[Ck,AWM]at h;done)|skip
 all_goals
  simp only[evalOp,VH,Dg,VG,LP]at this
  grind
theorem OA{o:Op}(h:Dl o=true)(ty:TypeId)(ρ:Operand->AV)(H:List Ob)(fz:List Bool)(slot:Nat){v:AV}{e:Eff}
  (f:∀ (R:Type) (k:AV->Eff->Option R),evalOp P E R o ty ρ H fz slot k=k v e):e = {}:=by
 by_cases d:Ck o=true;exact MV d ty ρ H fz slot f;have:=f Eff (fun _ e=>some e);cases o with
  |call c=>
   obtain⟨a,args,i⟩:=c;cases a with
    |builtin b=>
     cases b<;>first|(simp only[Dl,Ck,AWM]at h;done)|skip
     simp only[evalOp,N6]at this;grind
    |_=>simp only[Dl,Ck,AWM]at h
  |slice T x j hi g=>
   cases g with
    |some m=>simp only[Dl,Ck,AWM]at h
    |none=>
     simp only[evalOp,Df,HR]at this;repeat' split at this
     all_goals grind
  |makeFunc fn first cs=>
   cases fn<;>first|(simp only[Dl,Ck,AWM]at h;done)|skip
   simp only[evalOp,Fc]at this;grind
  |load _ _|convert _ _ _|fieldAddr _ _ _|field _ _ _|indexAddr _ _ _|index _ _ _|nilCheck _|lookup _ _ _ _|build _ _=>
   simp only[evalOp,Md,HC,Sv,D1,Mc,CH,Kg,Em,Dk]at this;repeat' split at this
   all_goals first|(cases this;done)|(simp only[AV3]at this;exact this.symm)
  |_=>first|exact absurd h d|(simp only[Dl,Ck,AWM]at h;done)|exact absurd rfl d
theorem AC9{H:List Ob}{ρ:Operand->AV}{o:Op}{φ:List Nat}(h:Ck o=true)(a:Kn E H ρ o φ):within (Mx ρ o) φ=true/\Oh (EZ ρ o) φ=true/\GG E ρ o=true:=by rcases a with⟨_,a⟩|a;exfalso;unfold Lm at a;simp only[AV5]at a;have:=a.2;unfold UK at this;split at this;cases h;grind;omega
theorem vV{all:List Oper}{x y:Oper}{φx φy:List Nat}{o g:Nat}(b:apart? all x y=true)(A:Ly φx=true)(p:Ck y.op=true)
  {st c s2:St} (B:DQ P E all x φx o st c) (m:DQ P E all y φy g c s2):∃ i,DQ P E all y φy g st i/\DQ P E all x φx o i s2:=by
 have d:=Jv b;obtain⟨_,j,_⟩:=Oper.apart_spec b;have t:∀ (v:AV) (H:List Ob) (F:List Bool) (s:St),EI all y.guard ({ s with heap:=H,frz:=F }.put x.dst v)=EI all y.guard s:=fun v H F s=>Hu b s v H F;have K:∀ (v:AV) (H:List Ob) (F:List Bool) (s:St),EI all x.guard ({ s with heap:=H,frz:=F }.put y.dst v)=EI all x.guard s:=fun v H F s=>Hu d s v H F;have first:∀ (c:St),(∀ z∈y.op.operands,BZ c.tmps z=BZ st.tmps z)->EI all y.guard c=EI all y.guard st->DQ P E all y φy g c s2->∃ a,DQ P E all y φy g st (st.put y.dst a)/\s2=c.put y.dst a:=by
  intro c e L m;rcases m with⟨C,a,M,q,u,rfl⟩|⟨C,rfl⟩
  have D:=MV p _ _ _ _ _ u;subst D;refine⟨a,.inl ⟨by grind,a,{},?_,fun R k => ?_,rfl⟩,rfl⟩;rcases q with h|⟨l,G⟩
  grind;exact .inr ⟨.inr (AC9 p (H6 e l)),G⟩;rw[<- u R k,Ct y.op y.type _ _ g k e];exact Pj p _ _ _ _ _ _ _ _;exact⟨CK,.inr ⟨by grind,rfl⟩,rfl⟩
 have f:∀ (v:AV) (s:St),∀ z∈y.op.operands,BZ (s.put x.dst v).tmps z=BZ s.tmps z:=fun v s z r=>Ch b s v z r;rcases B with⟨I,vx,n,J,N,rfl⟩|⟨I,rfl⟩
 obtain⟨a,l,rfl⟩:=first _ (f vx (st.app n)) (t vx (DB n st.heap) (FN n st.frz) st) m
 refine⟨_,l,.inl ⟨?_,vx,n,.inl A,fun R k => ?_,?_⟩⟩;simp_all;have w:(st.put y.dst a).heap=st.heap/\(st.put y.dst a).frz=st.frz:=by cases y.dst<;>exact⟨rfl,rfl⟩
 rw[w.1,w.2,Ct x.op x.type _ _ o k fun z r=>Ch d st a z r];grind;rw[St.Ij,St.put_comm _ vx a j];obtain⟨a,l,rfl⟩:=first _ (f CK st) (t CK st.heap st.frz st) m
 refine⟨_,l,.inr ⟨?_,?_⟩⟩;simp_all;rw[St.put_comm _ CK a j]
theorem vU{all:List Oper}{x y:Oper}{φx φy:List Nat}{e n:Nat}(c:apart? all x y=true)(u:Ly φy=true)(o:Ck x.op=true)
  {st s1 s2:St} (w:DQ P E all x φx e st s1) (A:DQ P E all y φy n s1 s2):∃ i,DQ P E all y φy n st i/\DQ P E all x φx e i s2:=by
 have b:=Jv c;obtain⟨_,j,_⟩:=Oper.apart_spec c;have M:∀ (v:AV) (s:St),EI all y.guard (s.put x.dst v)=EI all y.guard s:=fun v s=>Hu c s v s.heap s.frz;have q:∀ (v:AV) (H:List Ob) (F:List Bool) (s:St),EI all x.guard ({ s with heap:=H,frz:=F }.put y.dst v)=EI all x.guard s:=fun v H F s=>Hu b s v H F;have r:∀ v:AV,(st.put x.dst v).heap=st.heap/\(st.put x.dst v).frz=st.frz:=fun v=>by cases x.dst<;>exact⟨rfl,rfl⟩
 have m:∀ (s:St) (vx:AV),(∀ z∈x.op.operands,BZ s.tmps z=BZ st.tmps z)->EI all x.guard s=EI all x.guard st->DQ P E all x φx e st (st.put x.dst vx)->(∃ v,DQ P E all x φx e st (st.put x.dst v)):=fun s vx _ _ h=>⟨vx,h⟩
 have xs:∃ vx,s1=st.put x.dst vx/\∀ s:St,(∀ z∈x.op.operands,BZ s.tmps z=BZ st.tmps z)->EI all x.guard s=EI all x.guard st->DQ P E all x φx e s (s.put x.dst vx):=by
  rcases w with⟨B,vx,N,p,t,rfl⟩|⟨B,rfl⟩
  have C:=MV o _ _ _ _ _ t;subst C;refine⟨vx,rfl,fun s a D=>.inl ⟨by grind,vx,{},?_,fun R k => ?_,rfl⟩⟩;rcases p with h|⟨G,I⟩
  grind;exact .inr ⟨.inr (AC9 o (H6 (fun z d=>(a z d).symm) G)),I⟩;rw[<- t R k,Ct x.op x.type _ _ e k a];exact Pj o _ _ _ _ _ _ _ _;exact⟨CK,rfl,fun s _ D=>.inr ⟨by grind,rfl⟩⟩
 obtain⟨vx,rfl,l⟩:=xs;have a:∀ z∈y.op.operands,BZ (st.put x.dst vx).tmps z=BZ st.tmps z:=fun z d=>Ch c st vx z d;rcases A with⟨J,f,g,K,L,rfl⟩|⟨J,rfl⟩
 refine⟨(st.app g).put y.dst f,.inl ⟨by grind,f,g,.inl u,fun R k => ?_,rfl⟩,?_⟩;have:=L R k;rw[(r vx).1,(r vx).2,Ct y.op y.type _ _ n k a]at this;omega;have:=l ((st.app g).put y.dst f) (fun z d=>Ch b (st.app g) f z d) (q f (DB g st.heap) (FN g st.frz) st);rw[St.Ij,St.put_comm _ vx f j];omega;refine⟨st.put y.dst CK,.inr ⟨by grind,rfl⟩,?_⟩;have:=l (st.put y.dst CK) (fun z d=>Ch b st CK z d) (q CK st.heap st.frz st);rw[St.put_comm _ vx CK j];omega
theorem vW(U:Eu E){all:List Oper}{x y:Oper}{φx φy:List Nat}{r t:Nat}(c:apart? all x y=true)(n1:Ly φx=false)(n2:Ly φy=false)(G:∀ i,rd φy i=true->¬ (r<=i/\i<r+slotsOf x.op))(I:∀ i,rd φx i=true->¬ (t<=i/\i<t+slotsOf y.op))(J:∀ i,wt φx i=true->rd φy i=true->False)(N:∀ i,wt φy i=true->rd φx i=true->False)(w:r+slotsOf x.op<=t)
  {st s1 s2:St} (X:DQ P E all x φx r st s1) (V:DQ P E all y φy t s1 s2):∃ A,DQ P E all y φy t st A/\DQ P E all x φx r A s2:=by
 have a:=Jv c;obtain⟨_,g,_⟩:=Oper.apart_spec c;have Y:∀ (v:AV) (H:List Ob) (F:List Bool) (s:St),EI all y.guard ({ s with heap:=H,frz:=F }.put x.dst v)=EI all y.guard s:=fun v H F s=>Hu c s v H F;have Z:∀ (v:AV) (H:List Ob) (F:List Bool) (s:St),EI all x.guard ({ s with heap:=H,frz:=F }.put y.dst v)=EI all x.guard s:=fun v H F s=>Hu a s v H F;have gxa:∀ v e,EI all y.guard ((st.app e).put x.dst v)=EI all y.guard st:=fun v e=>Y v (DB e st.heap) (FN e st.frz) st;have gya:∀ v e,EI all x.guard ((st.app e).put y.dst v)=EI all x.guard st:=fun v e=>Z v (DB e st.heap) (FN e st.frz) st;rcases X with⟨g1,vx,B,O,a3,rfl⟩|⟨g1,rfl⟩
 obtain⟨Q,C⟩:=O.resolve_left (by grind);rcases V with⟨S,f,l,n,W,rfl⟩|⟨S,rfl⟩
 obtain⟨j,u⟩:=n.resolve_left (by grind);have b:∀ z∈y.op.operands,BZ ((st.app B).put x.dst vx).tmps z=BZ st.tmps z:=fun z d=>Ch c (st.app B) vx z d;have j:=H6 b j;have ov:=fZ (P:=P) U c G I J N (.inl w) (vx:=vx) C (.inl j);refine⟨(st.app l).put y.dst f,.inl ⟨by grind,f,l,.inr ⟨oD (iF G J C) j,u⟩,fun R k=>by grind,rfl⟩,?_⟩;have o:∀ z∈x.op.operands,BZ ((st.app l).put y.dst f).tmps z=BZ st.tmps z:=fun z d=>Ch a (st.app l) f z d;have ov':=fZ (P:=P) U a I G N J (.inr w) (st:=st) (vx:=f) u (.inr Q);refine .inl ⟨by grind,vx,B,.inr ⟨H6 (fun z d=>(o z d).symm) (oD (fun i hi=>(iF I N u i hi).symm) Q),C⟩,fun R k=>by grind,?_⟩;obtain⟨K,p2,p3⟩:=Mg C;obtain⟨L,r2,r3⟩:=Mg u;have D:∀ p∈l.objs,∀ q∈B.objs,p.1≠q.1:=by
  intro p hp q hq T;rcases r2 p hp with h|⟨hw,h⟩<;>rcases p2 q hq with M|⟨hw',M⟩
  omega;exact I _ (K2 M) (T▸h);exact G _ (K2 h) (T▸M);exact J _ M (T▸K2 h)
 rw[St.Ij,St.Ij,St.put_comm _ vx f g];congr 2;unfold St.app;rw[DI K,DI L,DY K,DY L,DI L,DI K,DY L,DY K,kE _ _ D,pX];refine⟨st.put y.dst CK,.inr ⟨by grind,rfl⟩,.inl ⟨?_,vx,B,.inr ⟨?_,C⟩,fun R k => ?_,?_⟩⟩;simp_all;have m:(st.put y.dst CK).heap=st.heap:=by cases y.dst<;>rfl
 rw[m];exact H6 (fun z d=>(Ch a st CK z d).symm) Q;have m:(st.put y.dst CK).heap=st.heap/\(st.put y.dst CK).frz=st.frz:=by cases y.dst<;>exact⟨rfl,rfl⟩
 rw[m.1,m.2,Ct x.op x.type _ _ r k fun z d=>Ch a st CK z d];grind;rw[St.Ij,St.put_comm _ vx CK g];rcases V with⟨S,f,l,n,W,rfl⟩|⟨S,rfl⟩
 obtain⟨j,u⟩:=n.resolve_left (by grind);have m:(st.put x.dst CK).heap=st.heap/\(st.put x.dst CK).frz=st.frz:=by cases x.dst<;>exact⟨rfl,rfl⟩
 rw[m.1]at j;have b:∀ z∈y.op.operands,BZ (st.put x.dst CK).tmps z=BZ st.tmps z:=fun z d=>Ch c st CK z d;have j:=H6 b j;refine⟨(st.app l).put y.dst f,.inl ⟨by simp_all,f,l,.inr ⟨j,u⟩,fun R k => ?_,rfl⟩,.inr ⟨by grind,?_⟩⟩;have:=W R k;rw[m.1,m.2,Ct y.op y.type _ _ t k b]at this;omega;rw[St.Ij,St.put_comm _ CK f g]
 exact⟨st.put y.dst CK,.inr ⟨by simp_all,rfl⟩,
  .inr ⟨by simp_all,St.put_comm _ CK CK g⟩⟩
def AC7(H H':List Ob)(id:Nat):Prop:=(∃ a b c,H[id]? = some (.map a b c))/\∃ a b c,H'[id]? = some (.map a b c)
theorem Fv{H H':List Ob}(h:∀ id,H[id]? = H'[id]?\/AC7 H H' id)(t:Ty)(v:AV):Er H t v=Er H' t v:=by
 cases v<;>simp only[Er]
 ·rename_i id;rcases h id with h|⟨⟨a,b,d,e⟩,f,b',c,g⟩
  all_goals grind
 ·rename_i id off n;rcases h id with h|⟨⟨a,b,d,e⟩,f,b',c,g⟩
  all_goals grind
 ·rename_i id;rcases h id with h|⟨⟨a,b,d,e⟩,f,b',c,g⟩
  all_goals grind
theorem AG4{α:Type}{one a:List AV->Option (α×List Nat×List AV)}(b:∀ cs,one cs=a cs):∀ (n:Nat) (cs:List AV),SY one n cs=SY a n cs:=by
 intro n;induction n with
  |zero=>intro cs;rfl
  |succ n c=>intro cs;simp only[SY];grind
theorem l5{H H':List Ob}(h:∀ id,H[id]? = H'[id]?\/AC7 H H' id):∀ (t:Ty) (cs:List AV),BX H t cs=BX H' t cs:=by
 intro t;induction t with
  |unit=>intro cs;cases cs<;>rfl
  |bool=>intro cs;cases cs with
   |nil=>rfl
   |cons c cs=>unfold BX;rw[Fv h .bool c]
  |int k=>intro cs;cases cs with
   |nil=>rfl
   |cons c cs=>unfold BX;rw[Fv h (.int k) c]
  |slice e _=>intro cs;cases cs with
   |nil=>rfl
   |cons c cs=>unfold BX;rw[Fv h (.slice e) c]
  |nul e=>intro cs;cases cs with
   |nil=>rfl
   |cons c cs=>unfold BX;rw[Fv h (.nul e) c]
  |mapi j e _=>intro cs;cases cs with
   |nil=>rfl
   |cons c cs=>unfold BX;rw[Fv h (.mapi j e) c]
  |prod a b d f=>intro cs;simp only[BX];grind
  |arr n e g=>intro cs;simp only[BX];exact AG4 g n cs
theorem AIu{H H':List Ob}(h:∀ id,H[id]? = H'[id]?\/AC7 H H' id)(t:Ty)(v:AV):Fx H t v=Fx H' t v:=by unfold Fx;split;cases v<;>simp only[asAgg];rename_i cs;rw[l5 h t cs];exact Fv h t v
theorem AGd{α β:Type}[DecidableEq α](b:List (α×β))(k j:α)(z:β):(A_ (BG b k ((A_ b k).getD z)) j).getD z=(A_ b j).getD z:=by
 have d:∀ (b:List (α×β)) (v:β),A_ (BG b k v) j=if j=k then some v else A_ b j:=by
  intro b v;induction b with
   |nil=>simp only[BG,A_];grind
   |cons e b f=>obtain⟨a,x⟩:=e;by_cases c:a=k;subst c;simp only[BG,A_,AWf];grind;simp only[BG,A_,c,AWN,f];grind
 grind
theorem lO{R:Type}{H:List Ob}{j:Nat}{a b:Ty}{h c:List (a.den×b.den)}(l:H[j]? = some (.map a b h))(n:∀ f:a.den,(A_ (α:=a.den) c f).getD b.zero=(A_ (α:=a.den) h f).getD b.zero)
  (T:TypeId) (m x:Operand) (ty:TypeId) (ρ:Operand->AV) (fz fz':List Bool) (slot e:Nat) (o:AV->Eff->Option R) :
  evalOp P E R (.lookup T m x false) ty ρ (H.set j (.map a b c)) fz' e o=evalOp P E R (.lookup T m x false) ty ρ H fz slot o:=by
 have i:=BU l;have p:∀ id,(H.set j (.map a b c))[id]? = H[id]?\/AC7 (H.set j (.map a b c)) H id:=fun id=>by by_cases g:id=j;subst g;exact .inr ⟨⟨a,b,c,Bk i⟩,a,b,h,l⟩;grind
 simp only[evalOp,Em,AIu p];cases P.underlying T with
  |none=>rfl
  |some d=>
   cases d with
    |map r s=>
     by_cases k:∃ id,ρ m = .mp id
     case neg=>
      grind
     obtain⟨id,q⟩:=k;rw[q];dsimp only;by_cases g:id=j;all_goals grind
    |_=>rfl
theorem lM{H:List Ob}{fz:List Bool}{T:TypeId}{m x:Operand}{ty:TypeId}{ρ:Operand->AV}{slot:Nat}{v:AV}{e:Eff}(h:∀ (R:Type) (k:AV->Eff->Option R),evalOp P E R (.mapEntry T m x) ty ρ H fz slot k=k v e):
  ∃ id a b d,∃ c:a.den,H[id]? = some (.map a b d)/\e = { objs:=[(id,.map a b (BG (α:=a.den) d c ((A_ (α:=a.den) d c).getD b.zero)))] }:=by have:=h Eff (fun _ e=>some e);simp only[evalOp,HB]at this;grind
theorem AC8{H H':List Ob}{ρ:Operand->AV}{o:Op}{φ:List Nat}(b:NA φ=false)(a:Kn E H ρ o φ):Kn E H' ρ o φ:=by rcases a with⟨c,_⟩|a;grind;exact .inr a
theorem vT{all:List Oper}{x y:Oper}{φx φy:List Nat}{A B:Nat}(g:apart? all x y=true)(V:NA φx=false)(W:NA φy=false)(L:YE x.op y.op=true)
  {st s1 s2:St} (X:DQ P E all x φx A st s1) (Y:DQ P E all y φy B s1 s2):∃ r,DQ P E all y φy B st r/\DQ P E all x φx A r s2:=by
 have e:=Jv g;obtain⟨_,t,_⟩:=Oper.apart_spec g;obtain⟨T,m,kx,ok,f,M,N,O,l,C⟩:∃ T m kx ok,x.op = .lookup T m kx ok/\∃ M N O,y.op = .mapEntry M N O/\ok=false:=by cases f:x.op<;>cases l:y.op<;>rw[f,l]at L<;>simp only[YE,AWM]at L;grind
 subst C;have gx:∀ (v:AV) (s:St),EI all y.guard (s.put x.dst v)=EI all y.guard s:=fun v s=>Hu g s v s.heap s.frz;have Q:∀ (v:AV) (H:List Ob) (F:List Bool) (s:St),EI all x.guard ({ s with heap:=H,frz:=F }.put y.dst v)=EI all x.guard s:=fun v H F s=>Hu e s v H F;have S:∀ v:AV,(st.put x.dst v).heap=st.heap/\(st.put x.dst v).frz=st.frz:=fun v=>by cases x.dst<;>exact⟨rfl,rfl⟩
 have xs:∃ vx,s1=st.put x.dst vx/\∀ s:St,(∀ z∈x.op.operands,BZ s.tmps z=BZ st.tmps z)->EI all x.guard s=EI all x.guard st ->
   (s.heap=st.heap\/∃ j a b i n,st.heap[j]? = some (.map a b i)/\s.heap=st.heap.set j (.map a b n)/\∀ d:a.den,(A_ (α:=a.den) n d).getD b.zero=(A_ (α:=a.den) i d).getD b.zero)->DQ P E all x φx A s (s.put x.dst vx):=by
  rcases X with⟨Z,vx,ex,D,U,rfl⟩|⟨Z,rfl⟩
  ·have he:=OA (by rw[f];rfl) _ _ _ _ _ U
   subst he
   refine⟨vx,rfl,fun s c hg G=>.inl ⟨by grind,vx,{},?_,fun R k => ?_,rfl⟩⟩
   ·rcases D with h|⟨u,I⟩
    ·grind
    ·exact .inr ⟨AC8 V (H6 (fun z o=>(c z o).symm) u),I⟩
   ·rw[<- U R k,Ct x.op x.type _ _ A k c]
    rcases G with G|⟨j,a,b,i,n,u,h2,h3⟩
    ·rw[G,f];rfl
    ·rw[h2,f]
     exact lO u h3 _ _ _ _ _ _ _ _ _ _
  ·exact⟨CK,rfl,fun s _ hg _=>.inr ⟨by grind,rfl⟩⟩
 obtain⟨vx,rfl,w⟩:=xs;have c:∀ z∈y.op.operands,BZ (st.put x.dst vx).tmps z=BZ st.tmps z:=fun z o=>Ch g st vx z o;rcases Y with⟨g2,p,J,K,b3,rfl⟩|⟨g2,rfl⟩
 have q:∀ (R:Type) (k:AV->Eff->Option R),evalOp P E R y.op y.type (BZ st.tmps) st.heap st.frz B k=k p J:=fun R k=>by have:=b3 R k;rw[(S vx).1,(S vx).2,Ct y.op y.type _ _ B k c]at this;omega
 refine⟨(st.app J).put y.dst p,.inl ⟨by grind,p,J,?_,q,rfl⟩,?_⟩;rcases K with h|⟨u,I⟩
 grind;exact .inr ⟨AC8 W (H6 c u),I⟩;rw[l]at q;obtain⟨j,a,b,i,d,ho,rfl⟩:=lM q
 have:=w ((st.app { objs:=[(j,.map a b (BG (α:=a.den) i d ((A_ (α:=a.den) i d).getD b.zero)))] }).put y.dst p) (fun z o=>Ch e (st.app _) p z o) (Q p _ _ st)
  (.inr ⟨j,a,b,i,_,ho,by cases y.dst<;>rfl,fun k=>AGd (α:=a.den) i d k b.zero⟩)
 rw[St.Ij,St.put_comm _ vx p t];omega;refine⟨st.put y.dst CK,.inr ⟨by grind,rfl⟩,?_⟩;have:=w (st.put y.dst CK) (fun z o=>Ch e st CK z o) (Q CK st.heap st.frz st) (.inl (by cases y.dst<;>rfl));rw[St.put_comm _ vx CK t];omega
theorem AEC(l:Eu E){all:List Oper}{x y:Oper}{φx φy:List Nat}{c d:Nat}(g:indep all x y φx φy c d=true)(i:c+slotsOf x.op<=d)
  {st s1 s2:St} (e:DQ P E all x φx c st s1) (f:DQ P E all y φy d s1 s2):∃ b,DQ P E all y φy d st b/\DQ P E all x φx c b s2:=by
 obtain⟨a,h⟩:=Nv g;rcases h with⟨m,n,o⟩|⟨j,k⟩|⟨j,k⟩|⟨p,q,r,s,t,u⟩
 exact vT a m n o e f;exact vV a j k e f;exact vU a j k e f;exact vW l a p q r s t u i e f
end
section
variable [DfI] {P:Program} {E:Env}
theorem rK{all:List Oper}{y:Oper}{φy:List Nat}{b:Nat}:∀ {l:List (Nat×Oper×List Nat×Nat)},YC all y φy b l=true->∀ q∈l,reach all 8 y q.1=true\/indep all q.2.1 y q.2.2.1 φy q.2.2.2 b=true:=by
 intro l;induction l with
  |nil=>simp
  |cons p l d=>
   intro h q c;obtain⟨i,x,φx,e⟩:=p;simp only[YC,AV5,AXN]at h;rcases AWO.1 c with rfl|c;·rcases h.1 with a|a|a;exact .inl (by simp only[reach,a,Bool.true_or]);all_goals grind
   grind
theorem R9{all:List Oper}{fp:List (List Nat)}{base:Nat}:∀ (a pre:List Oper) (b:List (List Nat)) (slot:Nat) (d:List (Nat×Oper×List Nat×Nat)),all=pre++a->b=fp.drop pre.length->slot=By all base pre.length ->
  (∀ j x,j<pre.length->all[j]? = some x->(j,x,fp.getD j [],By all base j)∈d)->aL all a b pre.length slot d=true ->
  ∀ i y,pre.length<=i->all[i]? = some y->(∀ e∈y.after.toList,Region.binds .any e=true->e.on<i) /\
   ∀ j x,j<i->all[j]? = some x->reach all 8 y j=true\/indep all x y (fp.getD j []) (fp.getD i []) (By all base j) (By all base i)=true:=by
 intro a;induction a with
  |nil=>grind
  |cons o a v=>
   intro pre b slot d r f g k h i y hi n;simp only[aL,AV5]at h;obtain⟨⟨s,F⟩,w⟩:=h;have c:(pre++[o]).length=pre.length+1:=by simp
   have l:b.headD []=fp.getD pre.length []:=by rw[f,AWd,List.headD_eq_head?_getD,List.head?_drop]
   have m:b.tail=fp.drop (pre++[o]).length:=by rw[f,c,List.tail_drop]
   have p:slot+slotsOf o.op=By all base (pre++[o]).length:=by
    rw[g,c];unfold By;have z:all.take (pre.length+1)=pre++[o]:=by grind
    have A:all.take pre.length=pre:=by grind
    rw[z,A,JP];simp[C6];omega
   have B:all[pre.length]? = some o:=by grind
   rcases AX1 pre.length i with C|D;refine v (pre++[o]) _ _ _ (by grind) m p (fun j x t u => ?_) (by rw[c];exact w) i y (by omega) n;grind;have q:i=pre.length:=by omega
   subst q;rw[B]at n;cases n;refine⟨fun e G H => ?_,fun j x t u => ?_⟩;grind;rw[l,g]at s;exact rK s _ (k j x t u)
theorem AEH{all:List Oper}{base i j:Nat}{x:Oper}(b:j<i)(d:all[j]? = some x):By all base j+slotsOf x.op<=By all base i:=by
 unfold By;have a:j<all.length:=by grind
 have e:all.take (j+1)=all.take j++[x]:=by rw[AW1 a];grind
 have c:all.take i=all.take (j+1)++(all.drop (j+1)).take (i-(j+1)):=by rw[<- List.take_add];congr 1;omega
 rw[c,e,JP,JP];simp[C6];omega
theorem OS(n:Eu E){all:List Oper}{fp:Nat->List Nat}{base:Nat}{i:Nat}{y:Oper}(l:all[i]? = some y):
  ∀ (a c:List Nat) (st st':St),(∀ j∈a,j<i/\∀ x,all[j]? = some x->indep all x y (fp j) (fp i) (By all base j) (By all base i)=true) ->
   IL P E all fp (By all base) (a++i::c) st st'->IL P E all fp (By all base) (i::(a++c)) st st':=by
 intro a;induction a with
  |nil=>simp
  |cons j a o=>intro c st st' m h;obtain⟨x,p,d,q,r⟩:=h;obtain⟨A,s,b,t,u⟩:=o c p st' (fun k v=>m k (by simp[v])) r;rw[l]at b;cases b;obtain⟨e,f⟩:=m j (by simp);obtain⟨g,w,z⟩:=AEC n (f x d) (AEH e d) q t;exact⟨y,g,l,w,x,s,d,z,u⟩
def BQ(n:Nat)(a:Array Bool):List Nat:=(List.range n).filter fun i => !a.getD i true
theorem RU{n:Nat}{a:Array Bool}{i:Nat}(o:a.size=n)(f g:List Nat)(h:BQ n a=f++i::g):BQ n (a.setIfInBounds i true)=f++g:=by
 have b:(BQ n a).Nodup:=AXv _ AXg;have c:i∈BQ n a:=by grind
 have k:i<n:=by unfold BQ at c;grind
 have e:BQ n (a.setIfInBounds i true)=(BQ n a).filter fun j=>decide (j≠i):=by
  unfold BQ;rw[List.filter_filter];apply AX5;intro j p;have l:j<n:=by grind
  by_cases d:j=i;simp_all;simp[AWe,Array.getElem?_setIfInBounds_ne (AXx d),d]
 rw[e,h];rw[h]at b;rw[List.nodup_append]at b;obtain⟨_,m,hd⟩:=b;rw[AXQ,AYq];simp only[ne_eq,AXG,AWg,AWM,AWN];rw[AXY.2,AXY.2];all_goals grind
theorem Mw{n:Nat}{a:Array Bool}{i:Nat}{b c:List Nat}(h:BQ n a=b++i::c):∀ j∈b,j<i:=by
 have d:(BQ n a).Pairwise (· < ·):=AXv _ AYm
 grind
def Vv(ops:List Oper)(a:Nat->Bool):Prop:=∀ k z,ops[k]? = some z->a k=true->∀ e∈z.after.toList,Region.binds .any e=true->a e.on=true
theorem Rz{ops:List Oper}{a:Nat->Bool}(d:Vv ops a):∀ (n:Nat) (y:Oper) (j:Nat),(∀ e∈y.after.toList,Region.binds .any e=true->a e.on=true)->reach ops n y j=true->a j=true:=by
 intro n;induction n with
  |zero=>intro y j _ h;cases h
  |succ n f=>intro y j g h;simp only[reach,AXN]at h;rcases h with h|h;unfold mK at h;grind;rw[AYT]at h;obtain⟨e,i,b⟩:=h;simp only[AV5]at b;obtain⟨k,c⟩:=b;split at c;rename_i z l;exact f z j (d e.on z l (g e i k)) c;grind
theorem kA(G:∀ g,BW P g (E.spec g)){ops:Array Oper}{i:Nat}{o:Oper}{φ:List Nat}{slot:Nat}{st r:St}{Q:Exit->Act->World->Prop}{K:Act->World->Prop}{w:World}{F:Nat->Prop}{m:Mp}{a:Act}(z:ops[i]? = some o)(H:DQ P E ops.toList o φ slot st r)(h:SI w F m st a)
  (B:∀ C w' t y,SI w' t y r C->Ext w F m st.heap st.frz w' t y r.heap r.frz->K C w'):wpOp P ops Q i K a w:=by
 unfold wpOp;rw[z];simp only;have c:∀ (s:St) (v:AV),(s.put o.dst v).heap=s.heap/\(s.put o.dst v).frz=s.frz:=fun s v=>by cases o.dst<;>exact⟨rfl,rfl⟩
 rcases H with⟨f,v,e,_,I,rfl⟩|⟨f,rfl⟩
 ·have A:Region.wanted o (yielded ops a.tmps)=true:=by
   unfold EI at f;unfold Region.wanted;cases k:o.guard with
    |none=>rfl
    |some p=>
     obtain⟨j,n⟩:=p;rw[k]at f;dsimp only at f |-;cases l:(ops.toList[j]?).bind (·.dst)with
      |none=>grind
      |some d=>rw[l]at f;dsimp only at f;split at f;rename_i b hd;rw[Ps h l hd];grind;all_goals grind
  rw[AWB A];left;obtain⟨M,N,D,_,J⟩:=E5 G o.op (AV×Eff) o.type (BZ st.tmps) st.heap st.frz slot (fun v e=>some (v,e)) (v,e) (I _ _);simp only[AV3,AWI]at D;obtain⟨rfl,rfl⟩:=D;refine J w F m a o _ Q rfl rfl h.heap (fun x=>FM h.tmps x) fun u w' t y q L => ?_;refine B _ w' t y ((h.go q).put L o.dst) ?_;rw[(c ..).1,(c ..).2];exact q.1
 have A:Region.wanted o (yielded ops a.tmps)=false:=by
  unfold EI at f;unfold Region.wanted;cases k:o.guard with
   |none=>grind
   |some p=>
    obtain⟨j,n⟩:=p;rw[k]at f;dsimp only at f |-;cases l:(ops.toList[j]?).bind (·.dst)with
     |none=>grind
     |some d=>rw[l]at f;dsimp only at f;split at f;rename_i b hd;rw[Ps h l hd];grind;rename_i hd;rw[RI h l hd];rfl;grind
 rw[AV9 (by simp[A])];refine B _ w F m (h.put Rk o.dst) ?_;rw[(c ..).1,(c ..).2];exact Ext.refl ..
theorem iz(hE:∀ g,BW P g (E.spec g))(hL:Eu E){ops:Array Oper}{fp:Nat->List Nat}{base:Nat}{Q:Exit->Act->World->Prop}{st':St}
  (D:∀ i y,ops.toList[i]? = some y->(∀ e∈y.after.toList,Region.binds .any e=true->e.on<i) /\
   ∀ j x,j<i->ops.toList[j]? = some x->reach ops.toList 8 y j=true\/indep ops.toList x y (fp j) (fp i) (By ops.toList base j) (By ops.toList base i)=true) :
  ∀ (c:Nat) (b:Array Bool) (st:St) (w:World) (F:Nat->Prop) (m:Mp) (a:Act),b.size=ops.size->Vv ops.toList (fun i=>b.getD i false)->(BQ ops.size b).length<=c->SI w F m st a ->
   IL P E ops.toList fp (By ops.toList base) (BQ ops.size b) st st' ->
   (∀ q w' r s,SI w' r s st' q->Ext w F m st.heap st.frz w' r s st'.heap st'.frz->Q .normal q w')->wpAny P .any ops Q c b a w:=by
 intro c
 have o:∀ (b:Array Bool) (st:St) (w:World) (F:Nat->Prop) (m:Mp) (a:Act),BQ ops.size b=[]->SI w F m st a->IL P E ops.toList fp (By ops.toList base) (BQ ops.size b) st st' ->
   (∀ q w' r s,SI w' r s st' q->Ext w F m st.heap st.frz w' r s st'.heap st'.frz->Q .normal q w')->Q .normal a w:=by
  intro b st w F m a O B p C
  rw[O]at p
  have p:st=st':=p
  subst p
  exact C a w F m B (Ext.refl ..)
 have f:∀ (b:Array Bool) (i:Nat),i∈Region.ready .any ops b↔i∈BQ ops.size b/\((ops[i]?).map (·.after.all fun e => !Region.binds .any e||b.getD e.on false)).getD false=true:=by intro b i;unfold Region.ready BQ;grind
 induction c with
  |zero=>intro b st w F m a G t hl B p C;have O:BQ ops.size b=[]:=AWb (by omega);refine⟨List.eq_nil_iff_forall_not_mem.2 fun i hi => ?_,o b st w F m a O B p C⟩;grind
  |succ c ih=>
   intro b st w F m a G t hl B p C;refine⟨fun X => ?_,fun i hi => ?_⟩;refine o b st w F m a ?_ B p C;cases Y:BQ ops.size b with
    |nil=>rfl
    |cons i l=>
     exfalso;have n:i∈BQ ops.size b:=by grind
     have u:i<ops.size:=by unfold BQ at n;grind
     have:i∈Region.ready .any ops b:=by
      refine(f b i).2 ⟨n,?_⟩;rw[AXb u];simp only[AX2,AW6];rw[<- AYr,AWU];intro e R;cases S:Region.binds .any e with
       |false=>rfl
       |true=>
        have hlt:=(D i ops[i] (by simp)).1 e R S;simp only[AV6,AYo];cases hg:b.getD e.on false with
         |true=>rfl
         |false=>
          exfalso;have hon:e.on<ops.size:=by omega
          have:e.on∈BQ ops.size b:=by unfold BQ;grind
          rw[Y]at this;have hp:(BQ ops.size b).Pairwise (· < ·):=AXv _ AYm
          rw[Y,AWr]at hp;grind
     grind
   obtain⟨n,v⟩:=(f b i).1 hi;have u:i<ops.size:=by grind
   obtain⟨Z,l2,d⟩:=AYJ n;have H:ops[i]? = some ops[i]:=AXb u;have A:ops.toList[i]? = some ops[i]:=by simp
   rw[H]at v;simp only[AX2,AW6]at v;rw[<- AYr,AWU]at v;rw[d]at p;obtain⟨y,s1,hy,h1,h2⟩:=OS hL A Z l2 st st' (fun j hj=>by
    have I:=Mw d j hj;refine⟨I,fun x T => ?_⟩;rcases(D i _ A).2 j x I T with h|h;exfalso;have J:∀ e∈(ops[i]).after.toList,Region.binds .any e=true->(fun i=>b.getD i false) e.on=true:=by grind
    have this:=Rz t 8 _ j J h;have U:j∈BQ ops.size b:=by grind
    unfold BQ at U;grind;omega) p
   rw[A]at hy;cases hy;have V:=RU G Z l2 d;have K:(BQ ops.size (b.setIfInBounds i true)).length<=c:=by grind
   have L:Vv ops.toList (fun k=>(b.setIfInBounds i true).getD k false):=by
    have M:∀ k,(b.setIfInBounds i true).getD k false=true↔(k=i\/b.getD k false=true):=by
     intro k;have hil:i<b.size:=by omega
     rw[AWe,AWe,Array.getElem?_setIfInBounds];grind
    intro k z hz N e R S;simp only[M]at N |-;right;rcases N with rfl|N;grind;exact t k z hz N e R S
   exact kA hE H h1 B fun q w' r s W T=>ih _ _ w' r s q (by grind) L K W (by grind) fun q w2 F2 m2 q1 q2=>C q w2 F2 m2 q1 (T.trans q2)
theorem SI.drew{w:World}{F:Nat->Prop}{m:Mp}{st:St}{a:Act}(h:SI w F m st a):SI w.drew F m st a/\Ext w F m st.heap st.frz w.drew F m st.heap st.frz:=by have b:=BS.drew h.heap;exact⟨⟨fun t=>b.1.rep h.heap (h.tmps t),h.size,b.2,h.defers⟩,b.1⟩
theorem db(p:∀ g,BW P g (E.spec g))(q:Eu E){R:Type}{r:R}{id:Nat}{fp:List (List Nat)}{ops:Array Oper}{Q:Exit->Act->World->Prop}{k:St->Option R}{st:St}{w:World}{F:Nat->Prop}{m:Mp}{a:Act}
  (h:FY P E R fp ops.toList st k=some r) (s:SI w F m st a) (t:∀ e w',ASi r k w F m st.heap st.frz e w'->Q .normal e w'):(Code.region id ops true).wp P Q a w:=by
 unfold FY at h;rw[PX]at h;split at h;rename_i b;simp only[AV5]at b;obtain⟨u,b⟩:=b;obtain⟨f,l⟩:=s.drew;obtain⟨n,o⟩:=f.pad (C6 ops.toList);have c:ops.toList=[]++ops.toList:=by simp
 obtain⟨st',G,d⟩:=de p (all:=ops.toList) (fp:=fp) (base:=st.heap.length) ops.toList [] fp st.heap.length _ c rfl (by simp[By,C6]) h;refine wp_region_any u ?_;have H:BQ ops.size (Array.replicate ops.size false)=List.range' 0 ops.toList.length:=by
  unfold BQ;rw[AWP,<- AXu];rw[AXY];intro i hi;have:i<ops.size:=by grind
  simp[AWe,this]
 refine iz (ops:=ops) p q (fp:=fun i=>fp.getD i []) (base:=st.heap.length) (st':=st') (fun i y v=>R9 (all:=ops.toList) ops.toList [] fp _ [] c rfl (by simp[By,C6]) (fun j x I=>by grind) b i y (AXV _) v)
  ops.size _ _ w.drew F m a (by simp) (fun k z _ d=>by
   exfalso
   have d:(Array.replicate ops.size false).getD k false=true:=d
   rw[AWe,Array.getElem?_replicate]at d
   grind) (by grind) n (by grind) fun e w' A B C D=>t e w' ⟨st',A,B,d,C,l.trans (o.trans D)⟩
 grind
end
def B9(w:World)(F:Nat->Prop)(m:Mp)(H:List Ob)(fz:List Bool)(a:Mp)(H':List Ob)(j:Nat):Bnd->Prop
 |.none=>a j=none/\((∃ T e,H'[j]? = some (.arr T e [])/\0<e.size)\/∃ T t,H'[j]? = some (.prs T t []))
 |.whole id=>a j=m id/\((∃ T t xs,H[id]? = some (.arr T t xs)/\H'[j]? = some (.arr T t xs)/\fz.getD id false=false) \/
   (∃ k v h,H[id]? = some (.map k v h)/\H'[j]? = some (.map k v h)) \/
   (∃ cs d b c vs T,H[id]? = some (.box cs)/\H'[j]? = some (.box d)/\d.length=cs.length/\m id=some (b,c)/\w.heap[b]? = some (.cells vs T (0,0))/\BF w F a H' d vs.toList/\∀ u∈vs.toList,u.oneCell'=true) \/
   (∃ T f i g,H[id]? = some (.prs T f g)/\H'[j]? = some (.prs T i g)/\ObI w F a H' (.prs T i g) (m id)) \/
   (∃ T e t xs ver,H[id]? = some (.rows T e t xs ver none)/\H'[j]? = some (.rows T e t xs 0 none)/\(∀ k,a (.r j k)=m (.r id k))/\fz.getD id false=false))
 |.cut id=>∃ T t xs n,H[id]? = some (.arr T t xs)/\fz.getD id false=false/\H'[j]? = some (.arr T t (List.take (α:=t.den) n xs))/\(a j=m id\/(a j=none/\List.take (α:=t.den) n xs=[]))
structure Inv(w:World)(F:Nat->Prop)(m:Mp)(H:List Ob)(fz:List Bool)(bs:List Bnd)(m':Mp)(E:St)(val:Nat->Value):Prop where
 tmps:∀ t,Rep w F m' E.heap (E.tmps.f t) (val t)
 lenH:E.heap.length=bs.length
 lenF:E.frz.length=E.heap.length
 frz:∀ i,E.frz.getD i false=false
 ob:∀ j b,bs[j]? = some b->B9 w F m H fz m' E.heap j b
 inj:∀ (i j:Nat) (b c:Bnd) (id:Nat),bs[i]? = some b->bs[j]? = some c->b.id? = some id->c.id? = some id->i=j
def AA7(w:World)(m:Mp)(H:List Ob)(a:List Bnd)(val:Nat->Value):Loc->Value->Prop
 |.tmp t,u=>u=val t
 |.cell j c,u=>∃ id b cc vs T cs,a[j]? = some (.whole id)/\H[id]? = some (.box cs)/\m id=some (b,cc)/\w.heap[b]? = some (.cells vs T (0,0))/\vs.toList[c]? = some u
 |_,_=>True
theorem AO1{w:World}{F:Nat->Prop}{m:Mp}{H:List Ob}{cs:List AV}{us:List Value}{c:Nat}{v:AV}{u:Value}(h:BF w F m H cs us)(e:us[c]? = some u)(f:Rep w F m H v u):BF w F m H (cs.set c v) us:=by refine EE (by simp[Ba h]) fun i x y b g => ?_;by_cases a:i=c;grind;rw[List.getElem?_set_ne (AXx a)]at b;obtain⟨j,d,k⟩:=DR h b;grind
theorem AJa{w:World}{F:Nat->Prop}{m:Mp}{H:List Ob}{a:Tm}{val:Nat->Value}(h:∀ t,Rep w F m H (a.f t) (val t)){t:Nat}{v:AV}(b:Rep w F m H v (val t)):∀ i,Rep w F m H ((a.set t v).f i) (val i):=by intro i;rw[Tm.WN];grind
theorem qI{w:World}{F a:Nat->Prop}{m c:Mp}{H d:List Ob}{T:TypeId}{j:Nat}{e:List Int}{l:Option (Nat×Nat)}(f:∀ {cs us},BF w F m H cs us->BF w a c d cs us)(h:ObI w F m H (.prs T j e) l):ObI w a c d (.prs T j e) l:=by
 cases l with
  |none=>exact h
  |some p=>obtain⟨b,cap⟩:=p;obtain⟨vs,us,g,i,k,n,o,q⟩:=h;exact⟨vs,us,g,i,k,n,f o,q⟩
section
variable {w:World} {F:Nat->Prop} {m:Mp} {H:List Ob} {fz:List Bool} {bs:List Bnd} {m':Mp} {E:St} {val:Nat->Value}
theorem B9.mono{b:Bnd}{a:Mp}{H' d:List Ob}{j:Nat}(h:B9 w F m H fz m' H' j b)(n:d[j]? = H'[j]?)(g:∀ x:Ix,x.id=j->a x=m' x)(p:∀ {cs us},BF w F m' H' cs us->BF w F a d cs us):B9 w F m H fz a d j b:=by
 cases b with
  |none=>simp only[B9]at *;rw[n,g j rfl];exact h
  |whole id=>
   simp only[B9]at *;rw[n,g j rfl];obtain⟨e,h⟩:=h;refine⟨e,?_⟩;rcases h with h|h|⟨cs,q,b,c,vs,T,i,l,f,y,z,A,B⟩|⟨T,o,s,u,i,l,f⟩|⟨T,v,t,xs,ver,i,l,f⟩
   grind;grind;grind;exact .inr (.inr (.inr (.inl ⟨T,o,s,u,i,l,qI p f⟩)));exact .inr (.inr (.inr (.inr ⟨T,v,t,xs,ver,i,l,fun k=>(g (.r j k) rfl).trans (f.1 k),f.2⟩)))
  |cut id=>simp only[B9]at *;rw[n,g j rfl];exact h
theorem Inv.place(h:Inv w F m H fz bs m' E val){l:Loc}{u:Value}{v:AV}(q:AA7 w m H bs val l u)(z:Rep w F m' E.heap v u):Inv w F m H fz bs m' (Pev.place E v l) val:=by
 cases l with
  |tmp t=>have q:u=val t:=q;subst q;exact⟨AJa h.tmps z,h.lenH,h.lenF,h.frz,h.ob,h.inj⟩
  |cap t i=>exact h
  |obj j=>exact h
  |cell j c=>
   obtain⟨id,b,cc,vs,T,cs,A,B,C,D,J⟩:=q;have d:=h.ob j _ A;simp only[B9]at d;obtain⟨r,d⟩:=d;rw[B]at d;rcases d with⟨_,_,_,g,_⟩|⟨_,_,_,g,_⟩|⟨K,n,P,Q,L,R,g,s,M,G,y,I,N⟩|⟨_,_,_,_,g,_⟩|⟨_,_,_,_,_,g,_⟩
   cases g;cases g;rotate_left;cases g;cases g
   ·cases g;rw[C]at G;cases G;rw[D]at y;cases y;have p:=BU s;have e:DJ E.heap (E.heap.set j (.box (n.set c v))) m' m':=by
     intro i o hi O;by_cases k:i=j;subst k;rw[s]at hi;cases hi;exact .inr ⟨by simp,_,Bk p,trivial,rfl,fun _ _ _=>rfl⟩
     ·rcases DJ.refl E.heap m' i o hi O with h|⟨hd,o',y,I,_⟩
      all_goals grind
    have mono:∀ {a u},Rep w F m' E.heap a u->Rep w F m' (E.heap.set j (.box (n.set c v))) a u:=fun h=>Rep.mono (fun _ _=>rfl) (fun _ h=>h) e _ h;have f:∀ {a u},BF w F m' E.heap a u->BF w F m' (E.heap.set j (.box (n.set c v))) a u:=fun h=>BF.mono (fun _ _=>rfl) (fun _ h=>h) e _ h;unfold Pev.place;simp only[s];refine⟨fun t=>mono (h.tmps t),by simp[h.lenH],by simp[h.lenF],h.frz,fun i x hi => ?_,h.inj⟩;by_cases k:i=j;subst k;rw[A]at hi;cases hi;simp only[B9];exact⟨r,.inr (.inr (.inl ⟨cs,_,b,cc,vs,T,B,Bk p,by simp[M],C,D,f (AO1 I J z),N⟩))⟩;exact(h.ob i x hi).mono (Bh k) (fun _ _=>rfl) f
theorem mR{α:Type}{l:List α}{x y:α}{j:Nat}(h:(l++[x])[j]? = some y):(j<l.length/\l[j]? = some y)\/(j=l.length/\y=x):=by grind
theorem Inv.AUs(h:Inv w F m H fz bs m' E val){b:Bnd}{o:Ob}{mn:Mp}(g:∀ x:Ix,x.id≠E.heap.length->mn x=m' x)(s:∀ (i:Nat) (c:Bnd) (id:Nat),bs[i]? = some c->c.id? = some id->b.id?≠some id)
  (n:B9 w F m H fz mn (E.heap++[o]) E.heap.length b):Inv w F m H fz (bs++[b]) mn (Es E o) val:=by
 have e:DJ E.heap (E.heap++[o]) m' mn:=by
  intro i x hi v;have f:=BU hi;rcases DJ.refl E.heap m' i x hi v with h|⟨hd,o',B,z,_⟩
  grind;exact .inr ⟨hd,o',by grind,z,g _ (by show i≠_;omega),fun _ _ _=>g _ (by show i≠_;omega)⟩
 have k:∀ {a u},BF w F m' E.heap a u->BF w F mn (E.heap++[o]) a u:=fun h=>BF.mono (fun _ _=>rfl) (fun _ h=>h) e _ h;refine⟨fun t=>Rep.mono (fun _ _=>rfl) (fun _ h=>h) e _ (h.tmps t),by simp[Es,h.lenH],by simp[Es,h.lenF],fun i => ?_,fun j x p => ?_,fun i j x y id hi p A q => ?_⟩;have:=h.frz i;simp only[Es];grind;rcases mR p with⟨f,d⟩|⟨d,rfl⟩
 rw[<- h.lenH]at f;exact(h.ob j x d).mono (AXs f) (fun y q=>g y (by omega)) k;rw[<- h.lenH]at d;rw[d];exact n;rcases mR hi with⟨f,l⟩|⟨l,rfl⟩
 rcases mR p with⟨r,d⟩|⟨d,rfl⟩
 exact h.inj i j x y id l d A q;grind;grind
theorem Inv.add(h:Inv w F m H fz bs m' E val){b:Bnd}{o:Ob}{l:Option (Nat×Nat)}(a:∀ (i:Nat) (c:Bnd) (id:Nat),bs[i]? = some c->c.id? = some id->b.id?≠some id)
  (d:B9 w F m H fz (upd m' E.heap.length l) (E.heap++[o]) E.heap.length b):Inv w F m H fz (bs++[b]) (upd m' E.heap.length l) (Es E o) val:=
 h.AUs (fun x e=>Ym e x rfl) a d
theorem GP{id:Nat}(h:fresh? bs id=true):∀ (i:Nat) (c:Bnd),bs[i]? = some c->c.id?≠some id:=by
 intro i c hi a;unfold fresh? at h;rw[AWU]at h;have:=h c (AWA hi);cases c with
  |none=>simp[Bnd.id?]at a
  |whole k=>simp only[Bnd.id?,AV3]at a;grind
  |cut k=>simp only[Bnd.id?,AV3]at a;grind
theorem Inv.freeze(h:Inv w F m H fz bs m' E val){f:List Nat}(s:f.all (fresh? bs)=true):Inv w (D' F m H f) m H (BK f fz) bs m' E val:=by
 have l:∀ {a u},BF w F m' E.heap a u->BF w (D' F m H f) m' E.heap a u:=fun h=>BF.mono (fun _ _=>rfl) (fun _ h=>.inl h) (DJ.refl _ _) _ h;have o:∀ (id i:Nat) (c:Bnd),bs[i]? = some c->c.id? = some id->fz.getD id false=false->(BK f fz).getD id false=false:=by
  intro id i c hi x y;rw[Bg,y];have:id∉f:=fun q=>by rw[AWU]at s;exact GP (s id q) i c hi x
  grind
 refine⟨fun t=>Rep.mono (fun _ _=>rfl) (fun _ h=>.inl h) (DJ.refl _ _) _ (h.tmps t),h.lenH,h.lenF,h.frz,fun j b p => ?_,h.inj⟩;have:=h.ob j b p;cases b with
  |none=>exact this
  |whole id=>
   simp only[B9]at *;obtain⟨e,this⟩:=this;refine⟨e,?_⟩;rcases this with⟨T,t,xs,d,g,k⟩|D|⟨cs,z,b,c,vs,T,d,g,k,v,G,I,J⟩|⟨T,r,A,B,d,g,k⟩|⟨T,C,t,xs,ver,d,g,k,v⟩
   exact .inl ⟨T,t,xs,d,g,o id j _ p rfl k⟩;grind;grind;exact .inr (.inr (.inr (.inl ⟨T,r,A,B,d,g,qI l k⟩)));exact .inr (.inr (.inr (.inr ⟨T,C,t,xs,ver,d,g,k,o id j _ p rfl v⟩)))
  |cut id=>simp only[B9]at *;obtain⟨T,t,xs,n,d,g,k⟩:=this;exact⟨T,t,xs,n,d,o id j _ p rfl g,k⟩
theorem wq{j id off:Nat}{u:Value}(a:B9 w F m H fz m' E.heap j (.whole id))(b:Rep w F m H (.ptr id off) u):Rep w F m' E.heap (.ptr j off) u:=by simp only[B9]at a;obtain⟨e,a⟩:=a;unfold Rep at *;unfold HM at *;grind
theorem AR5{j id i sub:Nat}{u:Value}(a:B9 w F m H fz m' E.heap j (.whole id))(h:Rep w F m H (.eptr id i sub) u):Rep w F m' E.heap (.eptr j i sub) u:=by
 simp only[B9]at a;obtain⟨e,a⟩:=a;unfold Rep at *;unfold Dq at *;rcases a with⟨T,t,xs,d,f,_⟩|⟨k,v,l,d,_⟩|⟨cs,g,b,c,vs,T,d,f,_,n,_⟩|⟨_,_,_,_,d,f,_⟩|⟨K,_,_,_,_,d,f,_⟩
 grind;all_goals grind
theorem AQJ{j id:Nat}{b:List Int}{us:List Value}(f:B9 w F m H fz m' E.heap j (.whole id))(d:BF w F m H (Gz id b) us):BF w F m' E.heap (Gz j b) us:=by refine EE (by have:=Ba d;simpa [Gz]using this) fun i c v e g => ?_;rw[Gz,AYj,AWE]at e;obtain⟨x,h,rfl⟩:=e;obtain⟨l,a,k⟩:=DR d (i:=i) (c:=.eptr id x.toNat 0) (by rw[Gz,AYj,h];rfl);rw[g]at a;cases a;exact AR5 f k
theorem AVJ{j id:Nat}{u:Value}(a:B9 w F m H fz m' E.heap j (.whole id))(b:Rep w F m H (.mp id) u):Rep w F m' E.heap (.mp j) u:=by simp only[B9]at a;obtain⟨e,a⟩:=a;unfold Rep at *;unfold M6 at *;grind
theorem AL6{j id:Nat}{u:Value}(a:B9 w F m H fz m' E.heap j (.whole id))(b:Rep w F m H (.own id) u):Rep w F m' E.heap (.own j) u:=by simp only[B9]at a;obtain⟨e,a⟩:=a;unfold Rep at *;unfold Br at *;grind
theorem ASb{j id n:Nat}{u:Value}(a:B9 w F m H fz m' E.heap j (.whole id))(b:Rep w F m H (.aptr id n) u):Rep w F m' E.heap (.aptr j n) u:=by simp only[B9]at a;obtain⟨e,a⟩:=a;unfold Rep at *;unfold Ge at *;grind
theorem uh{j id off n:Nat}{u:Value}(a:B9 w F m H fz m' E.heap j (.whole id))(b:Rep w F m H (.win id off n) u):Rep w F m' E.heap (.win j off n) u:=by simp only[B9]at a;obtain⟨e,a⟩:=a;unfold Rep at *;unfold II at *;grind
theorem AQq{id:Nat}{u:Value}{T:TypeId}{t:Ty}{ys:List t.den}(hi:HI w F m H fz)(c:H[id]? = some (.arr T t ys))(b:Rep w F m H (.own id) u):Rep w F m H (.win id 0 ys.length) u:=by
 unfold Rep at *;unfold Br at b;unfold II;rw[c]at b |-;simp only at b |-;refine⟨by omega,?_⟩;cases d:m id with
  |none=>rw[d]at b;obtain⟨a,rfl⟩:=b;obtain⟨_,e⟩:=hi.obj id _ c;simp_all
  |some p=>grind
theorem Ei{α:Type}{l:List α}{i:Nat}{o:α}(h:l[i]? = some o):i<l.length:=by grind
theorem Cg(hi:HI w F m H fz){s:Nat->Option AV}(q:∀ t v,s t=some v->Rep w F m H v (val t)){l:Loc}{v:AV}(h:look s H bs l=some v):∃ u,Rep w F m H v u/\AA7 w m H bs val l u:=by
 cases l with
  |tmp t=>exact⟨val t,q t v h,rfl⟩
  |cell j c=>simp only[look]at h;split at h;rename_i id x;split at h;rename_i cs a;obtain⟨b,cc,vs,T,d,y,z,B⟩:=hi.obj id _ a;obtain⟨u,g,n⟩:=DR z h;exact⟨u,n,id,b,cc,vs,T,cs,x,a,d,y,g⟩;grind;grind
  |cap t i=>simp only[look]at h;split at h;rename_i f cs r;have:=q t _ r;unfold Rep at this;obtain⟨us,_,n⟩:=this;obtain⟨u,_,g⟩:=DR n h;exact⟨u,g,trivial⟩;rename_i f cs r;have:=q t _ r;unfold Rep at this;obtain⟨us,_,n⟩:=this;obtain⟨u,_,g⟩:=DR n h;exact⟨u,g,trivial⟩;grind
  |obj j=>
   simp only[look,ASp]at h;split at h;rename_i T t xs a;cases h;have:=hi.obj j _ a;obtain⟨_,this⟩:=this;cases o:m j with
    |none=>refine⟨.slice none 0 0,?_,trivial⟩;unfold Rep Br;grind
    |some p=>obtain⟨b,cap⟩:=p;refine⟨.slice (some ⟨b,0,none⟩) (List.length (α:=t.den) xs) cap,?_,trivial⟩;unfold Rep Br;grind
   rename_i cs a;cases h;obtain⟨b,c,vs,T,d,_⟩:=hi.obj j _ a;refine⟨.pointer (some ⟨b,0,none⟩),?_,trivial⟩;unfold Rep HM;grind;rename_i k v C a;cases h;obtain⟨b,c,vs,T,d,_⟩:=hi.obj j _ a;refine⟨.map (some b),?_,trivial⟩;unfold Rep M6;grind;rename_i T t A a;cases h;cases o:m j with
    |none=>refine⟨.slice none 0 0,?_,trivial⟩;unfold Rep Br;grind
    |some p=>obtain⟨b,cap⟩:=p;refine⟨.slice (some ⟨b,0,none⟩) A.length cap,?_,trivial⟩;unfold Rep Br;grind
   rename_i T e t xs ver out a;cases h;cases o:m j with
    |none=>refine⟨.slice none 0 0,?_,trivial⟩;unfold Rep Br;grind
    |some p=>obtain⟨b,cap⟩:=p;refine⟨.slice (some ⟨b,0,none⟩) (List.length (α:=List t.den) xs) cap,?_,trivial⟩;unfold Rep Br;grind
   rename_i jk D e t xs ver out a;cases h;obtain⟨_,d⟩:=hi.obj j _ a;cases o:m j with
    |none=>rw[o]at d;cases d.1
    |some p=>obtain⟨b,cap⟩:=p;refine⟨.map (some b),?_,trivial⟩;unfold Rep M6;grind
   grind
theorem AA7.app{l:Loc}{u:Value}(h:AA7 w m H bs val l u)(b:Bnd):AA7 w m H (bs++[b]) val l u:=by
 cases l with
  |tmp t=>exact h
  |cap t i=>trivial
  |obj j=>trivial
  |cell j c=>obtain⟨id,a,cc,vs,T,cs,e,d⟩:=h;exact⟨id,a,cc,vs,T,cs,by grind,d⟩
theorem ASK(f:∀ j b,bs[j]? = some b->B9 w F m H fz m' E.heap j b):∀ (vs:List AV) (a:List (Nat×Nat)) (us:List Value),AIR bs vs a=true->BF w F m H vs us->BF w F m' E.heap (a.map fun p=>.ptr p.1 p.2) us:=by
 intro vs;induction vs with
  |nil=>
   intro a us h c;cases a with
    |nil=>unfold BF at *;exact c
    |cons p a=>simp[AIR]at h
  |cons v vs g=>
   intro a us h c;cases a with
    |nil=>cases v<;>simp[AIR]at h
    |cons p a=>
     obtain⟨j,o'⟩:=p;cases v<;>simp only[AIR]at h<;>try grind
     rename_i id o;simp only[AV5]at h;obtain⟨e,i⟩:=h;unfold BF at c;obtain⟨u,d,rfl,k,c⟩:=c;simp only[AWW];unfold BF;refine⟨u,d,rfl,?_,g a d i c⟩;split at e;rename_i l n;simp only[AV5,AV4]at e;obtain⟨rfl,rfl⟩:=e;exact wq (f j _ n) k;grind
end
theorem vm(f g:List Nat):∀ fz,BK (f++g) fz=BK g (BK f fz):=by
 induction f with
  |nil=>intro fz;rfl
  |cons a f b=>intro fz;simp only[AWa,BK];grind
section
variable {w:World} {H:List Ob} {m:Mp} {val:Nat->Value} {tm:Nat->Option AV}
theorem DL{fz:List Bool}{id:Nat}(h:BN fz id=true):fz.getD id false=false:=by unfold BN at h;grind
theorem AAF:∀ (its:A1) (fz:List Bool) (U:List Bnd) (F:Nat->Prop) (Y:Mp) (E:St) (d:Be (leaves its)) (L:List Bnd) (Z:List Nat),
  HI w F m H fz->(∀ t v,tm t=some v->Rep w F m H v (val t))->Inv w F m H fz U Y E val->dec tm H its fz U=some (d,L,Z) ->
  ∃ F2 m2,BS w F m H fz w F2 m H (BK Z fz)/\Inv w F2 m H (BK Z fz) L m2 (enc its d E) val/\∃ r,L=U++r:=by
 intro its;induction its with
  |nil=>intro fz U F Y E d L Z hi J V h;simp only[dec,AV3]at h;obtain⟨rfl,rfl,rfl⟩:=h;exact⟨F,Y,BS.refl hi,V,[],by simp⟩
  |cons p r ih=>
   intro fz U F Y E d L Z hi J V h;obtain⟨l,c⟩:=p
   have obj:∀ (b:Bnd) (o:Ob) (lc:Option (Nat×Nat)) (D:AV) (u:Value) (xs:Be (leaves r)) (g:List Nat),AA7 w m H U val l u->(∀ (i:Nat) (c:Bnd) (id:Nat),U[i]? = some c->c.id? = some id->b.id?≠some id) ->
     B9 w F m H fz (upd Y E.heap.length lc) (E.heap++[o]) E.heap.length b->Rep w F (upd Y E.heap.length lc) (E.heap++[o]) D u->dec tm H r fz (U++[b])=some (xs,L,g) ->
     ∃ F2 m2,BS w F m H fz w F2 m H (BK g fz)/\Inv w F2 m H (BK g fz) L m2 (enc r xs (place (Es E o) D l)) val/\∃ r,L=U++r:=by
    intro b o lc D u xs g q z hbd N hd
    have h1:=V.add z hbd
    have h2:=h1.place (q.app b) N
    grind
   have D:∀ (v:AV) (u:Value) (xs:Be (leaves r)) (g:List Nat),AA7 w m H U val l u->Rep w F Y E.heap v u->dec tm H r fz U=some (xs,L,g) ->
     ∃ F2 m2,BS w F m H fz w F2 m H (BK g fz)/\Inv w F2 m H (BK g fz) L m2 (enc r xs (place E v l)) val/\∃ r,L=U++r:=by
    intro v u xs g q N hd
    exact ih fz U F _ _ xs L g hi J (V.place q N) hd
   cases c with
    |dat t=>simp only[dec]at h;split at h;rename_i v A;split at h;rename_i x f hx;split at h;rename_i hf;split at h;rename_i xs M g hd;simp only[AV3]at h;obtain⟨rfl,rfl,rfl⟩:=h;obtain⟨u,s,q⟩:=Cg hi J A;have hdat:=AOo hi hx s;have hg:=BS.freeze hi f;have hv1:=V.freeze hf;have hv2:=hv1.place (v:=.data t x) q (by unfold Rep;omega);obtain⟨F2,m2,a1,a2,rr,a3⟩:=ih (BK f fz) U (D' F m H f) _ _ xs _ _ hg.2 (fun t v h=>hg.1.rep hi (J t v h)) hv2 hd;rw[vm];exact⟨F2,m2,hg.trans a1,a2,rr,a3⟩;grind;grind;grind;grind
    |own T e=>
     simp only[dec]at h;split at h;rename_i P A;split at h;rename_i K;simp only[AV4]at K;have hsz:=K;split at h;rename_i xs M g hd;simp only[AV3]at h;obtain⟨rfl,rfl,rfl⟩:=h;obtain⟨u,s,q⟩:=Cg hi J A;unfold Rep at s;refine obj .none (.arr T e []) none (.own E.heap.length) u xs _ q (fun _ _ _ _ _=>by simp[Bnd.id?]) ?_ ?_ hd;simp only[B9];exact⟨BY ..,.inl ⟨T,e,by simp,hsz⟩⟩;unfold Rep Br;simp only[AWm (AV8 _),AXT,AWo,BY];grind;grind;grind;rename_i id A;split at h;rename_i T' P ys G y;simp only[AV5]at y;obtain⟨O,y⟩:=y;split at h;rename_i ys' W K;simp only[AV4]at W;subst W;obtain⟨he,X⟩:=DP K;subst he;simp only at X;subst X;split at h;rename_i xs M g hd;simp only[AV3]at h;obtain⟨rfl,rfl,rfl⟩:=h;obtain⟨u,s,q⟩:=Cg hi J A;refine obj (.whole id) (.arr T P ys) (m id) (.own E.heap.length) u xs _ q (fun i c C I B => ?_) ?_ ?_ hd;rintro h;simp only[Bnd.id?,AV3]at h;subst h;exact GP y i c I B;simp only[B9];exact⟨BY ..,.inl ⟨T,P,ys,G,by simp,DL O⟩⟩;unfold Rep at s |-;rw[G]at s;rw[AWm (AV8 _),AXT,AWo,BY];exact s;grind;grind;grind;rename_i id n A;split at h;rename_i T' P ys G y;simp only[AV5]at y;obtain⟨O,y⟩:=y;split at h;rename_i ys' W K;simp only[AV4]at W;subst W;obtain⟨he,X⟩:=DP K;subst he;simp only at X;subst X;split at h;rename_i xs M g hd;simp only[AV3]at h;obtain⟨rfl,rfl,rfl⟩:=h;obtain⟨u,s,q⟩:=Cg hi J A;unfold Rep II at s;rw[G]at s;obtain⟨hle,s⟩:=s;have z:∀ (i:Nat) (c:Bnd) (C:Nat),U[i]? = some c->c.id? = some C->(Bnd.cut id).id?≠some C:=by intro i c C I B h;simp only[Bnd.id?,AV3]at h;subst h;exact GP y i c I B
     have R:(E.heap++[Ob.arr T P (C5 n ys)])[E.heap.length]? = some (Ob.arr T P (C5 n ys)):=by simp
     obtain⟨hsz,Q⟩:=hi.obj id _ G;have hnil:n=0->List.take (α:=P.den) n ys=[]:=by grind
     have hlen:List.length (α:=P.den) (C5 n ys)=n:=by unfold C5;grind
     cases hm:m id with
      |none=>
       rw[hm]at Q s;simp only at Q s;subst Q;have h0:n=0:=by grind
       subst h0;obtain⟨a,rfl⟩:=s;refine obj (.cut id) (.arr T P (C5 0 [])) none (.own E.heap.length) _ xs _ q z ?_ ?_ hd;simp only[B9];exact⟨T,P,[],0,G,DL O,R,.inl (by rw[BY,hm])⟩;unfold Rep;rw[R,BY];exact⟨a,rfl⟩
      |some p=>
       obtain⟨b,cap⟩:=p;rw[hm]at Q s;obtain⟨a,rfl,ha⟩:=s;obtain⟨vs,row,o1,o2,o3,o4,o5,o6⟩:=Q;by_cases hcap:cap=0;subst hcap;have h0:n=0:=by omega
       refine obj (.cut id) (.arr T P (C5 n ys)) none (.own E.heap.length) _ xs _ q z ?_ ?_ hd;simp only[B9];exact⟨T,P,ys,n,G,DL O,R,.inr ⟨BY ..,hnil h0⟩⟩;unfold Rep;rw[R,BY];exact⟨a,by rw[h0]⟩;refine obj (.cut id) (.arr T P (C5 n ys)) (m id) (.own E.heap.length) _ xs _ q z ?_ ?_ hd;simp only[B9];exact⟨T,P,ys,n,G,DL O,R,.inl (BY ..)⟩;unfold Rep Br;rw[R,BY,hm];grind
     grind;grind;grind;grind
    |box n=>simp only[dec]at h;split at h;rename_i id A;split at h;rename_i cs G y;split at h;rename_i hn;simp only[AV4]at hn;obtain⟨u,s,q⟩:=Cg hi J A;obtain⟨b,cc,vs,T,b1,b2,b3,b4⟩:=hi.obj id _ G;refine obj (.whole id) (.box (List.replicate n .C7)) (m id) (.ptr E.heap.length 0) u d Z q (fun i c C I B => ?_) ?_ ?_ h;rintro h;simp only[Bnd.id?,AV3]at h;subst h;exact GP y i c I B;simp only[B9];refine⟨BY ..,.inr (.inr (.inl ⟨cs,List.replicate n .C7,b,cc,vs,T,G,by simp,by simp[hn],b1,b2,?_,b4⟩))⟩;refine EE (by rw[Ba b3];simp[hn]) fun i c v K _ => ?_;have:=AYe (AWA K);subst this;unfold Rep;trivial;unfold Rep HM at s |-;rw[G]at s;rw[AWm (AV8 _),AXT,AWo,BY];exact s;grind;grind;grind
    |map k v=>simp only[dec]at h;split at h;rename_i id A;split at h;rename_i k' v' es G y;split at h;rename_i es' K;obtain⟨he,X⟩:=DP K;cases he;simp only at X;subst X;split at h;rename_i xs M g hd;simp only[AV3]at h;obtain⟨rfl,rfl,rfl⟩:=h;obtain⟨u,s,q⟩:=Cg hi J A;refine obj (.whole id) (.map k v es) (m id) (.mp E.heap.length) u xs _ q (fun i c C I B => ?_) ?_ ?_ hd;rintro h;simp only[Bnd.id?,AV3]at h;subst h;exact GP y i c I B;simp only[B9];exact⟨BY ..,.inr (.inl ⟨k,v,es,G,by simp⟩)⟩;unfold Rep M6 at s |-;rw[G]at s;rw[AWm (AV8 _),AXT,AWo,BY];exact s;grind;grind;grind;grind
    |own' j=>simp only[dec]at h;split at h;rename_i id C A S;split at h;rename_i z;simp only[AV4]at z;subst z;obtain⟨u,s,q⟩:=Cg hi J A;exact D (.own j) u d Z q (AL6 (V.ob j _ S) s) h;grind;grind
    |ptr' j off=>simp only[dec]at h;split at h;rename_i id o C A S;split at h;rename_i z;simp only[AV5,AV4]at z;obtain⟨rfl,rfl⟩:=z;obtain⟨u,s,q⟩:=Cg hi J A;exact D (.ptr j o) u d Z q (wq (V.ob j _ S) s) h;grind;grind
    |sub' j=>simp only[dec]at h;split at h;rename_i id off n C A S;split at h;rename_i z;simp only[AV4]at z;subst z;split at h;rename_i xs M g hd;simp only[AV3]at h;obtain⟨rfl,rfl,rfl⟩:=h;obtain⟨u,s,q⟩:=Cg hi J A;exact D (.win j off n) u xs _ q (uh (V.ob j _ S) s) hd;grind;grind;grind
    |win' j=>simp only[dec]at h;split at h;rename_i id n C A S;split at h;rename_i z;simp only[AV4]at z;subst z;split at h;rename_i xs M g hd;simp only[AV3]at h;obtain⟨rfl,rfl,rfl⟩:=h;obtain⟨u,s,q⟩:=Cg hi J A;exact D (.win j 0 n) u xs _ q (uh (V.ob j _ S) s) hd;grind;grind;rename_i id C A S;split at h;rename_i T t ys z G;simp only[AV4]at z;subst z;split at h;rename_i xs M g hd;simp only[AV3]at h;obtain⟨rfl,rfl,rfl⟩:=h;obtain⟨u,s,q⟩:=Cg hi J A;exact D (.win j 0 ys.length) u xs _ q (uh (V.ob j _ S) (AQq hi G s)) hd;grind;grind;grind
    |map' j=>simp only[dec]at h;split at h;rename_i id C A S;split at h;rename_i z;simp only[AV4]at z;subst z;obtain⟨u,s,q⟩:=Cg hi J A;exact D (.mp j) u d Z q (AVJ (V.ob j _ S) s) h;grind;grind
    |clo f ps=>simp only[dec]at h;split at h;rename_i f' vs A;split at h;rename_i K;simp only[AV5,AV4]at K;obtain⟨rfl,K⟩:=K;obtain⟨u,s,q⟩:=Cg hi J A;unfold Rep at s;obtain⟨cs,rfl,hr⟩:=s;exact D (.clo f (ps.map fun p=>.ptr p.1 p.2)) _ d Z q (by unfold Rep;exact⟨cs,rfl,ASK V.ob vs ps cs.toList K hr⟩) h;grind;grind
    |bnd f j=>simp only[dec]at h;split at h;rename_i f' id C A S;split at h;rename_i K;simp only[AV5,AV4]at K;obtain⟨rfl,rfl⟩:=K;obtain⟨u,s,q⟩:=Cg hi J A;unfold Rep at s;obtain⟨cs,rfl,hr⟩:=s;refine D (.bnd f [.own j]) _ d Z q ?_ h;unfold Rep;refine⟨cs,rfl,?_⟩;unfold BF at hr |-;obtain⟨x,xs,e1,e2,e3⟩:=hr;refine⟨x,xs,e1,AL6 (V.ob j _ S) e2,?_⟩;unfold BF at e3 |-;exact e3;grind;grind
    |prs T j=>
     simp only[dec]at h;split at h;rename_i P A;split at h;rename_i xs M g hd;simp only[AV3]at h;obtain⟨rfl,rfl,rfl⟩:=h;obtain⟨u,s,q⟩:=Cg hi J A;unfold Rep at s;refine obj .none (.prs T j []) none (.own E.heap.length) u xs _ q (fun _ _ _ _ _=>by simp[Bnd.id?]) ?_ ?_ hd;simp only[B9];exact⟨BY ..,.inr ⟨T,j,by simp⟩⟩;unfold Rep Br;simp only[AWm (AV8 _),AXT,AWo,BY];grind;grind;rename_i id A;split at h;rename_i T' tgt is tgt' G y S;split at h;rename_i W;simp only[AV5,AV4]at W;obtain⟨rfl,rfl⟩:=W;split at h;rename_i xs M g hd;simp only[AV3]at h;obtain⟨rfl,rfl,rfl⟩:=h;obtain⟨u,s,q⟩:=Cg hi J A;have hbj:=V.ob j _ S;have Q:=hi.obj id _ G;have hcomp:DJ E.heap (E.heap++[.prs T j is]) Y (upd Y E.heap.length (m id)):=by
      intro i x hi hf;have hlt:=BU hi;rcases DJ.refl E.heap Y i x hi hf with h|⟨hd,o',h4,h5,_⟩
      grind;exact .inr ⟨hd,o',by grind,h5,Gp (by omega),fun _ _ _=>FW (by simp)⟩
     have hob':ObI w F (upd Y E.heap.length (m id)) (E.heap++[.prs T j is]) (.prs T j is) (m id):=by
      cases hm:m id with
       |none=>rw[hm]at Q;exact Q
       |some p=>obtain⟨b,cap⟩:=p;rw[hm]at Q hcomp;obtain⟨vs,us,e1,e2,e3,e4,e5,e6⟩:=Q;exact⟨vs,us,e1,e2,e3,e4,BF.mono (fun _ _=>rfl) (fun _ h=>h) hcomp _ (AQJ hbj e5),e6⟩
     refine obj (.whole id) (.prs T j is) (m id) (.own E.heap.length) u xs _ q (fun i c C I B => ?_) ?_ ?_ hd;rintro h;simp only[Bnd.id?,AV3]at h;subst h;exact GP y i c I B;simp only[B9];exact⟨BY ..,.inr (.inr (.inr (.inl ⟨T,tgt,j,is,G,by simp,hob'⟩)))⟩;unfold Rep at s |-;rw[G]at s;rw[AWm (AV8 _),AXT,AWo,BY];exact s;grind;grind;grind;grind
    |nil e=>
     simp only[dec]at h;cases A:look tm H U l with
      |none=>grind
      |some v=>
       rw[A]at h;cases v with
        |nils P=>obtain⟨u,s,q⟩:=Cg hi J A;exact D (.nils e) u d Z q (by unfold Rep at *;exact s) h
        |_=>cases h
    |rows T e t=>
     simp only[dec]at h;split at h;rename_i id A;split at h;rename_i T' P t' ys ver G y;simp only[AV5]at y;obtain⟨O,y⟩:=y;split at h;rename_i ys' W K;simp only[AV5,AV4]at W;obtain⟨rfl,rfl⟩:=W;obtain⟨he,X⟩:=DP K;cases he;simp only at X;subst X;split at h;rename_i xs M g hd;simp only[AV3]at h;obtain⟨rfl,rfl,rfl⟩:=h;obtain⟨u,s,q⟩:=Cg hi J A;have N:Rep w F (PK Y E.heap.length (m id) fun k=>m (.r id k)) (E.heap++[.rows (.arr T) e t ys 0 none]) (.own E.heap.length) u:=by unfold Rep at s |-;rw[G]at s;rw[AWm (AV8 _),AXT,AWo,Lq];exact s
     have h1:=V.AUs (b:=.whole id) (o:=.rows (.arr T) e t ys 0 none) (mn:=PK Y E.heap.length (m id) fun k=>m (.r id k)) (fun x hx=>IQ hx)
      (fun i c C I B h=>by simp only[Bnd.id?,AV3]at h;subst h;exact GP y i c I B)
      (by simp only[B9];exact⟨Lq,.inr (.inr (.inr (.inr ⟨.arr T,e,t,ys,ver,G,by simp,fun k=>jg,DL O⟩)))⟩)
     have h2:=h1.place (q.app (.whole id)) N;obtain⟨F2,m2,a1,a2,rr,a3⟩:=ih fz (U++[.whole id]) F _ _ xs _ _ hi J h2 hd;exact⟨F2,m2,a1,a2,.whole id::rr,by grind⟩;grind;grind;grind;grind
    |mrows j e t=>
     simp only[dec]at h;split at h;rename_i id A;split at h;rename_i j' ks P t' ys ver G y;simp only[AV5]at y;obtain⟨O,y⟩:=y;split at h;rename_i ys' W K;simp only[AV5,AV4]at W;obtain⟨rfl,rfl⟩:=W;obtain⟨he,X⟩:=DP K;cases he;simp only at X;subst X;split at h;rename_i xs M g hd;simp only[AV3]at h;obtain⟨rfl,rfl,rfl⟩:=h;obtain⟨u,s,q⟩:=Cg hi J A;have N:Rep w F (PK Y E.heap.length (m id) fun k=>m (.r id k)) (E.heap++[.rows (.map j ks) e t ys 0 none]) (.mp E.heap.length) u:=by unfold Rep at s |-;rw[G]at s;rw[AWm (AV8 _),AXT,AWo,Lq];exact s
     have h1:=V.AUs (b:=.whole id) (o:=.rows (.map j ks) e t ys 0 none) (mn:=PK Y E.heap.length (m id) fun k=>m (.r id k)) (fun x hx=>IQ hx)
      (fun i c C I B h=>by simp only[Bnd.id?,AV3]at h;subst h;exact GP y i c I B)
      (by simp only[B9];exact⟨Lq,.inr (.inr (.inr (.inr ⟨.map j ks,e,t,ys,ver,G,by simp,fun k=>jg,DL O⟩)))⟩)
     have h2:=h1.place (q.app (.whole id)) N;have hzl:ks.length=List.length (α:=List t.den) ys:=by
      obtain⟨_,h4⟩:=hi.obj id _ G;cases hm:m id with
       |none=>rw[hm]at h4;cases h4.1
       |some p=>obtain⟨b,cap⟩:=p;rw[hm]at h4;obtain⟨_,_,_,_,_,h5,_⟩:=h4;grind
     have he:enc ((l,.mrows j e t)::r) ((List.zip (β:=List t.den) ks ys,xs):Be (leaves ((l,.mrows j e t)::r))) E=enc r xs (place (Es E (.rows (.map j ks) e t ys 0 none)) (.mp E.heap.length) l):=by simp only[enc];rw[List.map_fst_zip (AYC hzl),List.map_snd_zip (AYC hzl.symm)]
     grind;grind;grind;grind;grind
    |aptr T e n=>simp only[dec]at h;split at h;rename_i id n' A;split at h;rename_i T' P ys G y;simp only[AV5]at y;obtain⟨O,y⟩:=y;split at h;rename_i ys' W K;simp only[AV5,AV4]at W;obtain⟨rfl,rfl⟩:=W;obtain⟨he,X⟩:=DP K;subst he;simp only at X;subst X;split at h;rename_i xs M g hd;simp only[AV3]at h;obtain⟨rfl,rfl,rfl⟩:=h;obtain⟨u,s,q⟩:=Cg hi J A;refine obj (.whole id) (.arr T P ys) (m id) (.aptr E.heap.length n) u xs _ q (fun i c C I B => ?_) ?_ ?_ hd;rintro h;simp only[Bnd.id?,AV3]at h;subst h;exact GP y i c I B;simp only[B9];exact⟨BY ..,.inl ⟨T,P,ys,G,by simp,DL O⟩⟩;unfold Rep at s |-;rw[G]at s;rw[AWm (AV8 _),AXT,AWo,BY];exact s;grind;grind;grind;grind
    |bndp f j=>simp only[dec]at h;split at h;rename_i f' id C A S;split at h;rename_i K;simp only[AV5,AV4]at K;obtain⟨rfl,rfl⟩:=K;obtain⟨u,s,q⟩:=Cg hi J A;unfold Rep at s;obtain⟨cs,rfl,hr⟩:=s;refine D (.bnd f [.ptr j 0]) _ d Z q ?_ h;unfold Rep;refine⟨cs,rfl,?_⟩;unfold BF at hr |-;obtain⟨x,xs,e1,e2,e3⟩:=hr;refine⟨x,xs,e1,wq (V.ob j _ S) e2,?_⟩;unfold BF at e3 |-;exact e3;grind;grind
    |nilp=>
     simp only[dec]at h;cases A:look tm H U l with
      |none=>grind
      |some v=>
       rw[A]at h;cases v with
        |nilp=>obtain⟨u,s,q⟩:=Cg hi J A;exact D .nilp u d Z q (by unfold Rep at *;exact s) h
        |_=>cases h
    |aptr' j n=>simp only[dec]at h;split at h;rename_i id n' C A S;split at h;rename_i z;simp only[AV5,AV4]at z;obtain⟨rfl,rfl⟩:=z;obtain⟨u,s,q⟩:=Cg hi J A;exact D (.aptr j n) u d Z q (ASb (V.ob j _ S) s) h;grind;grind
end
structure Il(np:Nat)(w:World)(F:Nat->Prop)(m:Mp)(H:List Ob)(fz:List Bool)(w':World)(F':Nat->Prop)(m':Mp)(H':List Ob)(fz':List Bool):Prop where
 os:w'.os=w.os
 tape:w'.tape=w.tape
 output:w'.output=w.output
 size:w.heap.size<=w'.heap.size
 keep:∀ b,b<w.heap.size->(∀ i c,owned H fz i->m i≠some (b,c))->w'.heap[b]? = w.heap[b]?
 sub:∀ b,F b->F' b
 bnd:∀ b,F' b->F b\/(∃ i c,owned H fz i/\m i=some (b,c))\/w.heap.size<=b
 own:∀ i b c,owned H' fz' i->m' i=some (b,c)->(∃ i c,owned H fz i/\m i=some (b,c))\/w.heap.size<=b
 comp:∀ (i:Nat) o,i<np->H[i]? = some o->o≠.free->H'[i]? = some .dead\/(o≠.dead/\∃ o',H'[i]? = some o'/\sameShape o o'/\m' i=m i/\(CA o=false->RT o'=RT o->∀ k,m' (.r i k)=m (.r i k)))
theorem Ext.toN{w w':World}{F a:Nat->Prop}{m b:Mp}{H H':List Ob}{fz fz':List Bool}(h:Ext w F m H fz w' a b H' fz')(np:Nat):Il np w F m H fz w' a b H' fz':=
 ⟨h.os,h.tape,h.output,h.size,h.keep,h.sub,h.bnd,h.own,fun i o _=>h.comp i o⟩
theorem Il.refl(np:Nat)(w:World)(F:Nat->Prop)(m:Mp)(H:List Ob)(fz:List Bool):Il np w F m H fz w F m H fz:=(Ext.refl ..).toN np
theorem Il.trans{np:Nat}{w s t:World}{F u v:Nat->Prop}{m x y:Mp}{H z A:List Ob}{fz g j:List Bool}
  (h:Il np w F m H fz s u x z g) (k:Il np s u x z g t v y A j):Il np w F m H fz t v y A j where
 os:=k.os.trans h.os
 tape:=k.tape.trans h.tape
 output:=k.output.trans h.output
 size:=AWx h.size k.size
 keep b hb hn:=by rw[k.keep b (AXP hb h.size) ?_,h.keep b hb hn];intro i c n C;rcases h.own i b c n C with⟨B,c',d,e⟩|d;all_goals grind
 sub b hb:=k.sub b (h.sub b hb)
 bnd b hb:=by
  rcases k.bnd b hb with d|⟨i,c,d,e⟩|d;exact h.bnd b d;·rcases h.own i b c d e with f|f;all_goals grind
  exact .inr (.inr (AWx h.size d))
 own i b c d e:=by rcases k.own i b c d e with⟨B,c',f,l⟩|f;exact h.own B b c' f l;exact .inr (AWx h.size f)
 comp i o hlt n hf:=by
  rcases h.comp i o hlt n hf with d|⟨hd,o',d,e,f,E⟩
  ·rcases k.comp i _ hlt d (by simp)with l|⟨p,_⟩
   all_goals grind
  have q:o'≠.free:=by rintro rfl;cases o<;>simp[sameShape]at e
  rcases k.comp i o' hlt d q with l|⟨_,r,l,p,D,G⟩
  grind;refine .inr ⟨hd,r,l,e.trans p,D.trans f,fun a b k => ?_⟩;have I:=e.ver;have J:=p.ver;grind
section
variable {w:World} {F:Nat->Prop} {m:Mp} {H:List Ob} {fz:List Bool} {bs:List Bnd} {m':Mp} {E:St} {val:Nat->Value}
def Ix.at:Ix->Nat->Ix
 |.o _,i=>.o i
 |.r _ k,i=>.r i k
theorem Ix.AS4(x:Ix)(i:Nat):(x.at i).id=i:=by cases x<;>rfl
theorem Inv.AVn(h:Inv w F m H fz bs m' E val){i b c:Nat}(k:owned E.heap E.frz i)(l:m' i=some (b,c)):∃ x id,bs[i]? = some x/\x.id? = some id/\owned H fz id/\m id=some (b,c):=by
 obtain⟨o,g,_,_⟩:=Fm k;have d:=BU g;rw[h.lenH]at d;have f:bs[i]? = some bs[i]:=AWC d;have a:=h.ob i _ f;cases j:bs[i]with
  |none=>rw[j]at a;simp only[B9]at a;grind
  |whole id=>rw[j]at a f;simp only[B9]at a;obtain⟨e,a⟩:=a;refine⟨_,id,f,rfl,?_,by grind⟩;simp only[owned,Cn];grind
  |cut id=>rw[j]at a f;simp only[B9]at a;obtain⟨T,t,xs,n,p,q,r,s⟩:=a;refine⟨_,id,f,rfl,by simp only[owned,Cn];grind,?_⟩;grind
theorem Inv.rowAt(h:Inv w F m H fz bs m' E val){j:Nat}{T:RK}{e:TypeId}{t:Ty}{xs:List (List t.den)}{ver:Nat}{out:Option Nat}(g:E.heap[j]? = some (.rows T e t xs ver out)):
  ∃ id b,bs[j]? = some (.whole id)/\H[id]? = some (.rows T e t xs b none)/\out=none/\m' j=m id/\(∀ k,m' (.r j k)=m (.r id k))/\fz.getD id false=false:=by
 have c:=BU g;rw[h.lenH]at c;have f:bs[j]? = some bs[j]:=AWC c;have a:=h.ob j _ f;cases d:bs[j]with
  |none=>rw[d]at a;simp only[B9]at a;grind
  |whole id=>rw[d]at a f;simp only[B9]at a;grind
  |cut id=>rw[d]at a;simp only[B9]at a;grind
theorem Inv.src(h:Inv w F m H fz bs m' E val){i:Ix}{b c:Nat}(a:owned E.heap E.frz i)(d:m' i=some (b,c)):∃ x id,bs[i.id]? = some x/\x.id? = some id/\owned H fz (i.at id)/\m (i.at id)=some (b,c):=by
 cases i with
  |o i=>exact h.AVn a d
  |r i k=>simp only[owned]at a;split at a;rename_i T e t xs ver out g;obtain⟨id,f,j,n,_,_,l,p⟩:=h.rowAt g;exact⟨_,id,j,rfl,by simp only[owned,Ix.at];grind,(l k).symm.trans d⟩;grind
theorem Inv.hi(hi:HI w F m H fz)(h:Inv w F m H fz bs m' E val):HI w F m' E.heap E.frz where
 obj j o f:=by
  have s:=BU f;rw[h.lenH]at s;have C:bs[j]? = some bs[j]:=AWC s;have g:=h.ob j _ C;cases D:bs[j]with
   |none=>rw[D]at g;simp only[B9]at g;obtain⟨M,⟨T,e,u,Q⟩|⟨T,t,u⟩⟩:=g;rw[f]at u;cases u;exact⟨Q,by rw[M]⟩;rw[f]at u;cases u;rw[M];exact(rfl:([]:List Int)=[])
   |whole id=>
    rw[D]at g;simp only[B9]at g;obtain⟨e,g⟩:=g;rcases g with⟨T,t,xs,l,a,z⟩|⟨k,v,es,l,a⟩|⟨cs,R,b,c,vs,T,l,a,_,q,B,S,U⟩|⟨T,V,j0,is,l,a,z⟩|⟨T,e',t,xs,ver,l,a,z⟩
    rw[f]at a;cases a;rw[e];exact hi.obj id _ l;rw[f]at a;cases a;rw[e];exact hi.obj id _ l;rw[f]at a;cases a;exact⟨b,c,vs,T,e.trans q,B,S,U⟩;grind;rw[f]at a;cases a;rw[e];exact hi.obj id _ l
   |cut id=>
    rw[D]at g;simp only[B9]at g;obtain⟨T,t,xs,n,l,a,z,q⟩:=g;rw[f]at z;cases z;obtain⟨G,d⟩:=hi.obj id _ l;refine⟨G,?_⟩;rcases q with q|⟨q,B⟩
    ·rw[q];cases W:m id with
      |none=>grind
      |some p=>obtain⟨b,cap⟩:=p;rw[W]at d;simp only at d |-;obtain⟨vs,row,X,b2,Y,Z,b5,b6⟩:=d;refine⟨vs,row.take (n*t.size),X,?_,Y,Z,Ew (fun x cs C=>Dat.length t C) n b5,?_⟩;all_goals grind
    grind
 row i:=by intro T e t xs ver out f k ys hk;obtain⟨id,A,l,a,rfl,q,B,_⟩:=h.rowAt f;obtain⟨d,r⟩:=hi.row id T e t xs A none a k ys hk;rw[B k];refine⟨?_,fun _ => ?_⟩;obtain⟨G,d⟩:=d;exact⟨G,d⟩;grind
 rfz i T e t xs ver out f hf:=by rw[h.frz i]at hf;cases hf
 sep i j b c b' c' d r hij h3 h4:=by
  obtain⟨x,id,N,O,I,J⟩:=h.src d h3;obtain⟨y,K,l1,l2,l3,l4⟩:=h.src r h4;refine hi.sep _ _ b c b' c' I l3 ?_ J l4;intro P;have L:id=K:=by rw[<- Ix.AS4 i id,P,Ix.AS4]
  subst L;have:=h.inj _ _ x y id N l1 O l2;cases i<;>cases j<;>simp only[Ix.at,Ix.id]at P this<;>(grind)<;>subst this<;>exact hij rfl
 off i b c d r:=by obtain⟨x,id,N,O,I,J⟩:=h.src d r;exact hi.off _ b c I J
 froz i T t xs b c d r:=by rw[h.frz i]at r;cases r
 lt:=hi.lt
 glo:=hi.glo
 len:=h.lenF.symm
theorem qM:∀ (n i:Nat) (bs:List Bnd),pins n i bs=true->∀ k,k<n->bs[k]? = some (.whole (i+k)):=by
 intro n;induction n with
  |zero=>omega
  |succ n a=>
   intro i bs h k c;cases bs with
    |nil=>simp[pins]at h
    |cons b bs=>
     simp only[pins,AV5,AV4]at h;cases k with
      |zero=>grind
      |succ k=>grind
theorem Inv.blank{val:Nat->Value}(n:Nat):Inv w F m H fz [] (fun _=>none) (Pev.blank n) val where
 tmps t:=by rw[show(Pev.blank n).tmps.f t = .C7 from rfl];unfold Rep;trivial
 lenH:=rfl
 lenF:=rfl
 frz i:=by simp[Pev.blank]
 ob j b h:=by simp at h
 inj i j b c id h:=by simp at h
theorem xA(st:St)(v:AV)(l:Loc):(place st v l).tmps.n=st.tmps.n:=by
 cases l with
  |tmp t=>rfl
  |cell j c=>simp only[place];grind
  |cap t i=>rfl
  |obj j=>rfl
theorem ANn:∀ (a:A1) (d:Be (leaves a)) (st:St),(enc a d st).tmps.n=st.tmps.n:=by
 intro a;induction a with
  |nil=>intro d st;rfl
  |cons p r b=>intro d st;obtain⟨l,c⟩:=p;cases c<;>exact(b _ _).trans (xA _ _ _)
theorem N9(n:Nat)(a:A1)(d:Be (leaves a)):(encode n a d).tmps.n=n:=by unfold encode;rw[ANn];simp[blank]
theorem AFC{y:Nat->Prop}{q:List Bool}{np:Nat}(h:Inv w y m H q bs m' E val)(n:(pins np 0 bs&&(H.take np).all CA)=true):∀ (i:Nat) o,i<np->H[i]? = some o->o≠.free->E.heap[i]? = some .dead\/(o≠.dead/\∃ o',E.heap[i]? = some o'/\sameShape o o'/\m' i=m i/\(CA o=false->RT o'=RT o->∀ k,m' (.r i k)=m (.r i k))):=by
 intro i o s j B;rw[AV5]at n;obtain⟨n,l⟩:=n;have u:CA o=true:=AWU.1 l o (AWA (i:=i) (by grind))
 suffices z:E.heap[i]? = some .dead\/(o≠.dead/\∃ o',E.heap[i]? = some o'/\sameShape o o'/\m' i=m i)from
  z.imp id fun ⟨a,o',b,c,d⟩=>⟨a,o',b,c,d,fun e=>by grind⟩
 have x:=qM np 0 bs n i s;rw[AWs]at x;have p:=h.ob i _ x;simp only[B9]at p;obtain⟨e,p⟩:=p;right;rcases p with⟨T,t,xs,f,g,C⟩|⟨k,v,D,f,g⟩|⟨cs,A,b,c,vs,T,f,g,_,G,I,J,K⟩|⟨_,_,_,_,f,g,_⟩|⟨_,_,_,_,_,f,g,_⟩
 rw[j]at f;cases f;exact⟨by simp,_,g,⟨rfl,rfl⟩,e⟩;rw[j]at f;cases f;exact⟨by simp,_,g,trivial,e⟩;rw[j]at f;cases f;exact⟨by simp,_,g,trivial,e⟩;rw[j]at f;cases f;exact⟨by simp,_,g,rfl,e⟩;rw[j]at f;cases f;cases u
theorem HE[DfI]{np e:Nat}{st:St}{a:Act}{d:A1}{v:Be (leaves d)}(f:SI w F m st a)(h:decode np e st d=some v):
  ∃ k m',SI w k m' (encode e d v) a/\Il np w F m st.heap st.frz w k m' (encode e d v).heap (encode e d v).frz:=by
 unfold decode at h;split at h;rename_i l;simp only[AV4]at l;split at h;rename_i n bs o hd;split at h;rename_i p;simp only[AV3]at h;subst h
 obtain⟨q,r,g,j,_⟩:=AAF (val:=fun t=>a.tmps.getD t undef) d st.frz [] F (fun _=>none) (blank e) n bs o f.heap
  (fun t v s=>by rw[(Tm.ASU s).1];exact f.tmps t) (Inv.blank e) hd
 refine⟨q,r,⟨j.tmps,by rw[N9,<- l];exact f.size,j.hi g.2,f.defers⟩,?_⟩;refine⟨rfl,rfl,rfl,AV8 _,fun _ _ _=>rfl,g.1.sub,g.1.bnd,fun i b c u y => ?_,AFC j p⟩;obtain⟨x,id,B,C,z,A⟩:=j.src u y;exact g.1.own _ b c z A;grind;grind;grind
end
theorem N2{R:Type}{all:List Oper}{g:Option (Nat×Bool)}{st:St}{f l:St->Option R}{r:R}(h:guarded R all g st f l=some r):
  ∃ st',(f st'=some r/\∀ (i:Type) (a c:St->Option i),guarded i all g st a c=a st')\/(l st'=some r/\∀ (i:Type) (a c:St->Option i),guarded i all g st a c=c st'):=by
 unfold guarded at h;split at h;exact⟨st,.inl ⟨h,fun _ _ _=>by simp[guarded]⟩⟩;rename_i j e;split at h;cases h;rename_i d k;split at h;rename_i b hd;cases b with
  |true=>
   cases e with
    |true=>exact⟨_,.inl ⟨h,fun _ _ _=>by simp only[guarded,k,hd]⟩⟩
    |false=>exact⟨_,.inr ⟨h,fun _ _ _=>by simp only[guarded,k,hd]⟩⟩
  |false=>
   cases e with
    |true=>exact⟨_,.inr ⟨h,fun _ _ _=>by simp only[guarded,k,hd]⟩⟩
    |false=>exact⟨_,.inl ⟨h,fun _ _ _=>by simp only[guarded,k,hd]⟩⟩
 rename_i hd;exact⟨_,.inr ⟨h,fun _ _ _=>by simp only[guarded,k,hd]⟩⟩;grind
section
variable [DfI] {P:Program} {E:Env}
theorem fa(i:∀ g,BW P g (E.spec g)){R:Type}{r:R}{all:List Oper}{o:Oper}{φ:List Nat}{slot:Nat}{st:St}{k:St->Option R}(h:Ri P E R all o φ slot st k=some r):
  ∃ st',k st'=some r/\∀ (b:Type) (c:St->Option b),Ri P E b all o φ slot st c=c st':=by
 unfold Ri at h;obtain⟨j,a⟩:=N2 h;rcases a with⟨a,d⟩|⟨a,d⟩
 split at a;rename_i m;obtain⟨v,e,f,n,_⟩:=E5 i o.op _ _ _ _ _ _ _ r a;split at f;rename_i l;exact⟨_,f,fun b c=>by unfold Ri;grind⟩;grind;grind;exact⟨_,a,fun b c=>by unfold Ri;rw[d]⟩
theorem SI.C7{w:World}{F:Nat->Prop}{m:Mp}{st:St}{a:Act}(h:SI w F m st a)(d:Option Tmp):SI w F m (st.put d .C7) a:=by
 cases d with
  |none=>exact h
  |some d=>refine⟨fun t => ?_,h.size,h.heap,h.defers⟩;simp only[St.put,Tm.WN];split;exact(by unfold Rep;trivial:Rep w F m st.heap .C7 _);exact h.tmps t
theorem FH(st:St)(d:Option Tmp)(v:AV):(st.put d v).heap=st.heap/\(st.put d v).frz=st.frz:=by cases d<;>exact⟨rfl,rfl⟩
theorem yy:∀ (l:List Oper) (st:St),(Gl l st).heap=st.heap/\(Gl l st).frz=st.frz:=by
 intro l;induction l with
  |nil=>exact fun st=>⟨rfl,rfl⟩
  |cons o l a=>intro st;exact⟨(a _).1.trans (FH ..).1,(a _).2.trans (FH ..).2⟩
theorem SI.Gl{w:World}{F:Nat->Prop}{m:Mp}{a:Act}:∀ (l:List Oper) {st:St},SI w F m st a->SI w F m (Pev.Gl l st) a:=by
 intro l;induction l with
  |nil=>exact fun h=>h
  |cons o l b=>exact fun h=>b (h.C7 o.dst)
theorem AQF(st:St)(d:Option Tmp)(u v:AV):(st.put d u).put d v=st.put d v:=by
 cases d with
  |none=>rfl
  |some d=>simp only[St.put,Tm.set_set]
theorem hQ:∀ (l:List Oper) (st:St) (x:Oper) (v:AV),x∈l->Pev.Gl l (st.put x.dst v)=Pev.Gl l st:=by
 intro l;induction l with
  |nil=>simp
  |cons o l f=>intro st x v g;simp only[Pev.Gl];by_cases a:o.dst=x.dst;rw[a,AQF];have b:∀ d,x.dst=some d->o.dst≠some d:=fun d c e=>a (e.trans c.symm);rw[St.put_comm st v .C7 b];grind
def M7(E:Env)(o:Oper)(slot:Nat)(st:St)(p:PV)(e:Eff):Prop:=
 o.guard=none/\((∃ x,o.op = .panic x/\BZ st.tmps x = .ifc (some p)/\e = {}) \/
  ∃ f args a s,o.op = .call { callee:=.value (.func f),args:=args,argTypes:=a }/\E.pan f=some s /\
   ∀ (R:Type) (k:AV->Eff->Option R) (kp:PV->Eff->Option R),s R (args.toList.map (BZ st.tmps)) st.heap st.frz slot k kp=kp p e)
theorem dB{w:World}{F:Nat->Prop}{m:Mp}{H:List Ob}{ρ:Operand->AV}{a:Act}(b:∀ x,Rep w F m H (ρ x) (a.eval x))(args:Array Operand):BF w F m H (args.toList.map ρ) (args.map a.eval).toList:=by rw[AXd];exact EE (by simp) fun i c v d e=>by grind
theorem qG(t:Gg P E){o:Oper}{slot:Nat}{st:St}{p:PV}{e:Eff}(h:M7 E o slot st p e){w:World}{F:Nat->Prop}{m:Mp}{a:Act}(d:SI w F m st a){next:Act->World->Prop}{Q:Exit->Act->World->Prop}
  (u:∀ w' k n,BS w F m st.heap st.frz w' k n (DB e st.heap) (FN e st.frz)->Q (.panic [Cu p]) a w'):o.wp P a w next Q:=by
 obtain⟨_,⟨x,i,v,rfl⟩|⟨f,args,C,s,i,y,j⟩⟩:=h;have g:=FM d.tmps x;rw[v]at g;unfold Rep at g;unfold Oper.wp;have b:(execOp a.eval o).run P w = .halt (.panic (Kd (some p))) w:=by obtain⟨T,l⟩:=p;simp only[Kd]at g;simp[execOp,i,g,Instr.panic,goPanic,Kd]
 rw[b];exact u w F m (BS.refl d.heap);obtain q|q:=t f s y (PV×Eff) (args.toList.map (BZ st.tmps)) st.heap st.frz slot (fun _ _=>none) (fun p e=>some (p,e)) (p,e) (j _ _ _);grind;obtain⟨D,G,r,_,z,A⟩:=q;simp only[AV3,AWI]at r;obtain⟨rfl,rfl⟩:=r;have c:=A w F m _ d.heap (dB (fun x=>FM d.tmps x) args);rw[AX8]at c;unfold Oper.wp;have b:(execOp a.eval o).run P w = .ok (.enter f (args.map a.eval)) w:=by simp[execOp,i,resolve,Act.eval,Deferred.ofValue,invoke,z _ w]
 rw[b];exact c.mono fun H w' ⟨B,k,n,I⟩=>by grind
theorem Hq(n:Gg P E){R:Type}{r:R}{o:Oper}{st:St}{slot:Nat}{q:PV⊕(Lg×List AV)}(h:We E (BZ st.tmps) o=some q){k:AV->Eff->Option R}{kp:PV->Eff->Option R}
  (i:(match q with
   |.inl p=>kp p {}
   |.inr (s,args)=>s R args st.heap st.frz slot k kp)=some r) :
  (∃ p e,kp p e=some r/\M7 E o slot st p e/\∀ (a:Type) (c:AV->Eff->Option a) (b:PV->Eff->Option a),(match q with
   |.inl p=>b p {}
   |.inr (s,args)=>s a args st.heap st.frz slot c b)=b p e) \/
  (∃ s args v e,q = .inr (s,args)/\o.guard=none/\k v e=some r/\(∀ (a:Type) (c:AV->Eff->Option a),evalOp P E a o.op o.type (BZ st.tmps) st.heap st.frz slot c=c v e) /\
   ∀ (a:Type) (c:AV->Eff->Option a) (b:PV->Eff->Option a),s a args st.heap st.frz slot c b=c v e):=by
 unfold We at h;split at h;cases h;rename_i j;split at h;rename_i x d;split at h;rename_i p t;simp only[AV3]at h;subst h;exact .inl ⟨p,{},i,⟨j,.inl ⟨x,d,t,rfl⟩⟩,fun _ _ _=>rfl⟩;grind;rename_i f args u d;split at h;rename_i s m;simp only[AV3]at h;subst h;simp only at i;rcases n f s m R _ _ _ _ _ _ _ i with⟨v,e,l,g,w⟩|⟨p,e,l,g,_,_⟩
 refine .inr ⟨s,_,v,e,rfl,j,l,fun a c => ?_,g⟩;rw[d];simp only[evalOp,Kh,BZ,AWk];grind;exact .inl ⟨p,e,l,⟨j,.inr ⟨f,args,u,s,d,m,g⟩⟩,g⟩;grind;grind
theorem qP(w:∀ g,BW P g (E.spec g))(z:Gg P E){R:Type}{r:R}{t:Bool}{all:List Oper}:∀ (b:List Oper) (fp:List (List Nat)) (slot:Nat) (st:St) (k:Exit->St->Option R),Cs P E R t all b fp slot st k=some r ->
  ∃ e st',k e st'=some r/\∀ (d:Type) (f:Exit->St->Option d),Cs P E d t all b fp slot st f=f e st':=by
 intro b;induction b with
  |nil=>intro fp slot st k h;exact⟨_,_,h,fun _ _=>rfl⟩
  |cons o b n=>
   intro fp slot st k h;simp only[Cs]at h;cases a:We E (BZ st.tmps) o with
    |none=>
     rw[a]at h;cases t with
      |true=>obtain⟨A,c,x⟩:=fa w h;obtain⟨e,i,j,B⟩:=n _ _ _ _ c;exact⟨e,i,j,fun d f=>by simp only[Cs,a];grind⟩
      |false=>
       obtain⟨A,c⟩:=N2 h;rcases c with⟨c,x⟩|⟨c,x⟩
       obtain⟨v,e,j,B,_⟩:=E5 w o.op _ _ _ _ _ _ _ r c;obtain⟨l,i,m,y⟩:=n _ _ _ _ j;exact⟨l,i,m,fun d f=>by simp only[Cs,a];grind⟩;obtain⟨l,i,m,y⟩:=n _ _ _ _ c;exact⟨l,i,m,fun d f=>by simp only[Cs,a];grind⟩
    |some q=>
     rw[a]at h;cases q with
      |inl p=>exact⟨_,_,h,fun d f=>by simp only[Cs,a]⟩
      |inr C=>
       obtain⟨s,args⟩:=C;simp only at h;rcases Hq z (q:=.inr (s,args)) a h with⟨p,e,c,_,j⟩|⟨F,u,v,e,D,_,c,_,j⟩
       exact⟨_,_,c,fun d f=>by simp only[Cs,a];grind⟩;cases D;split at c;rename_i G;obtain⟨l,i,m,y⟩:=n _ _ _ _ c;exact⟨l,i,m,fun d f=>by simp only[Cs,a];grind⟩;grind
theorem Ll{ops:Array Oper}{Q:Exit->Act->World->Prop}{i:Nat}{b:List Nat}{a:Act}{w:World}{o:Oper}(c:ops[i]? = some o)(d:o.guard=none)(h:o.wp P a w (wpOps P ops Q b) Q):wpOps P ops Q (i::b) a w:=by simp only[wpOps,c];rw[AWB (by simp[Region.wanted,d])];grind
theorem qO(hE:∀ g,BW P g (E.spec g))(T:Gg P E){ops:Array Oper}{Q:Exit->Act->World->Prop}{e:Exit}{st':St}:∀ (b pre:List Oper) (fp:List (List Nat)) (slot:Nat) (st:St) (w:World) (F:Nat->Prop) (m:Mp) (a:Act),ops.toList=pre++b ->
  Cs P E (Exit×St) false ops.toList b fp slot st (fun e s=>some (e,s))=some (e,st')->SI w F m st a ->
  (∀ t w' y z,SI w' y z st' t->Ext w F m st.heap st.frz w' y z st'.heap st'.frz->Q e t w')->wpOps P ops Q (List.range' pre.length b.length) a w:=by
 intro b;induction b with
  |nil=>intro pre fp slot st w F m a _ h A H;simp only[Cs,AV3,AWI]at h;obtain⟨rfl,rfl⟩:=h;exact H a w F m A (Ext.refl ..)
  |cons o b U=>
   intro pre fp slot st w F m a I h A H;have d:ops[pre.length]? = some o:=by rw[<- AW4,I];simp
   have c:ops.toList=(pre++[o])++b:=by grind
   have hlen:(pre++[o]).length=pre.length+1:=by simp
   rw[AWD,AXp];simp only[Cs]at h;cases l:We E (BZ st.tmps) o with
    |none=>
     rw[l]at h;simp only at h;simp only[wpOps,d];obtain⟨V,n,e1,e2,B⟩:=Qt A h;rcases B with⟨W,hy⟩|⟨W,hn⟩
     rw[AWB W];left;obtain⟨v,j,C,_,X⟩:=E5 hE o.op _ _ _ _ _ _ _ _ hy;refine X w F m a o _ Q rfl rfl n.heap (fun x=>FM n.tmps x) fun u w' y z D Y => ?_;have f:=(n.go D).put Y o.dst;have:=U (pre++[o]) _ _ _ w' y z (a.put o.dst u) c C f fun t i J K L G=>H t i J K L (by have hx:=D.1;rw[e1,e2]at hx;refine hx.trans ?_;have B:=FH (V.app j) o.dst v;rw[B.1,B.2]at G;simp only[St.app,e1,e2]at G;exact G)
     grind;rw[AV9 (by simp[W])];have f:SI w F m (V.put o.dst CK) (a.put o.dst undef):=n.put Rk o.dst;have:=U (pre++[o]) _ _ _ w F m (a.put o.dst undef) c hn f fun t i J K L G=>H t i J K L (by have B:=FH V o.dst CK;grind)
     grind
    |some q=>
     rw[l]at h;have stop:∀ p j,M7 E o slot st p j->e = .panic [Cu p]->st'=st.app j->wpOps P ops Q (pre.length::List.range' (pre.length+1) b.length) a w:=by intro p j M he N;subst he;subst N;refine Ll d M.1 (qG T M A fun w' y z D => ?_);exact H a w' y z (A.go D) D.1
     cases q with
      |inl p=>
       simp only[AV3,AWI]at h;rcases Hq T (R:=Unit) (r:=()) (slot:=slot) (k:=fun _ _=>none) (kp:=fun p' e'=>some ()) (q:=.inl p) l rfl with⟨p',j,_,O,X⟩|⟨_,_,_,_,h0,_⟩
       have h4:=X (PV×Eff) (fun _ _=>none) fun p e=>some (p,e);simp only[AV3,AWI]at h4;obtain⟨rfl,rfl⟩:=h4;exact stop p {} O h.1.symm h.2.symm;grind
      |inr sa=>
       obtain⟨s,args⟩:=sa;simp only at h;rcases Hq T (q:=.inr (s,args)) l h with⟨p,j,C,O,_⟩|⟨s',Z,v,j,h0,D,C,O,_⟩
       simp only[AV3,AWI]at C;exact stop p j O C.1.symm C.2.symm;simp only[AWR,Bool.true_or]at C;obtain⟨v',e',c1,_,c3⟩:=E5 hE o.op (AV×Eff) o.type (BZ st.tmps) st.heap st.frz slot (fun v e=>some (v,e)) (v,j) (O _ _);simp only[AV3,AWI]at c1;obtain⟨rfl,rfl⟩:=c1;refine Ll d D (c3 w F m a o _ Q rfl rfl A.heap (fun x=>FM A.tmps x) fun u w' y z S Y => ?_);have f:=(A.go S).put Y o.dst;have:=U (pre++[o]) _ _ _ w' y z (a.put o.dst u) c C f fun t i J K L G=>H t i J K L (by refine S.1.trans ?_;have B:=FH (st.app e') o.dst v';rw[B.1,B.2]at G;exact G)
       grind
theorem AK1{o:Oper}{φ:List Nat}{st:St}{slot n:Nat}{e:Eff}(a:AK2 E o φ st=true)(b:(Ly φ||S2 (writer o.op||NA φ) φ slot n e)=true):Ly φ=true\/(Kn E st.heap (BZ st.tmps) o.op φ/\S2 (writer o.op||NA φ) φ slot n e=true):=by unfold AK2 at a;simp only[AXN,AV5]at a;rw[AXN]at b;rcases a with a|a;grind;rcases b with b|b;grind;refine .inr ⟨?_,b⟩;rcases a with a|a;exact .inl a;exact .inr ⟨a.2.1.1,a.2.1.2,a.2.2⟩
theorem AL5{o:Oper}{ρ:Operand->AV}{q:PV⊕(Lg×List AV)}(h:We E ρ o=some q):Wf E [o]=true:=by unfold We at h;unfold Wf;grind
theorem dc(I:∀ g,BW P g (E.spec g))(D:Gg P E){all:List Oper}{fp:List (List Nat)}{base:Nat}{e:Exit}{st':St}:∀ (b pre:List Oper) (d:List (List Nat)) (slot:Nat) (st:St),
  all=pre++b->d=fp.drop pre.length->slot=By all base pre.length->Cs P E (Exit×St) true all b d slot st (fun e s=>some (e,s))=some (e,st') ->
  (e = .normal/\IL P E all (fun i=>fp.getD i []) (By all base) (List.range' pre.length b.length) st st') \/
  ∃ n o p c a,all[pre.length+n]? = some o/\Wf E [o]=true/\IL P E all (fun i=>fp.getD i []) (By all base) (List.range' pre.length n) st a/\M7 E o (By all base (pre.length+n)) a p c/\e = .panic [Cu p]/\st'=Gl all (a.app c):=by
 intro b;induction b with
  |nil=>intro pre d slot st _ _ _ h;simp only[Cs,AV3,AWI]at h;exact .inl ⟨h.1.symm,h.2⟩
  |cons o b J=>
   intro pre d slot st F K w h;have j:(pre++[o]).length=pre.length+1:=by simp
   have x:d.headD []=fp.getD pre.length []:=by simp_all
   have y:d.tail=fp.drop (pre++[o]).length:=by simp_all
   have z:slot+slotsOf o.op=By all base (pre++[o]).length:=by
    rw[w,j];unfold By;have L:all.take (pre.length+1)=pre++[o]:=by grind
    have M:all.take pre.length=pre:=by grind
    rw[L,M,JP];simp[C6];omega
   have A:all[pre.length]? = some o:=by grind
   have go:∀ t,DQ P E all o (d.headD []) slot st t->Cs P E (Exit×St) true all b d.tail (slot+slotsOf o.op) t (fun e s=>some (e,s))=some (e,st') ->
     (e = .normal/\IL P E all (fun i=>fp.getD i []) (By all base) (List.range' pre.length (o::b).length) st st') \/
     ∃ n o p c a,all[pre.length+n]? = some o/\Wf E [o]=true/\IL P E all (fun i=>fp.getD i []) (By all base) (List.range' pre.length n) st a/\M7 E o (By all base (pre.length+n)) a p c/\e = .panic [Cu p]/\st'=Gl all (a.app c):=by
    intro t f l
    rw[x,w]at f
    rcases J (pre++[o]) _ _ t (by grind) y z l with⟨N,u⟩|⟨n,O,p,c,a,Q,S,G,T,U⟩
    ·rw[j]at u
     exact .inl ⟨N,by rw[AWD,AXp];exact⟨o,t,A,f,u⟩⟩
    ·rw[j]at Q G T
     refine .inr ⟨n+1,O,p,c,a,by grind,S,by rw[AXp];exact⟨o,t,A,f,G⟩,by grind,U⟩
   simp only[Cs]at h;cases m:We E (BZ st.tmps) o with
    |none=>rw[m]at h;simp only at h;obtain⟨t,f,l⟩:=ZB I h;exact go t f l
    |some q=>
     rw[m]at h
     have stop:∀ p c,M7 E o slot st p c->e = .panic [Cu p]->st'=Gl all (st.app c)->∃ n o p c a,all[pre.length+n]? = some o/\Wf E [o]=true/\IL P E all (fun i=>fp.getD i []) (By all base) (List.range' pre.length n) st a/\M7 E o (By all base (pre.length+n)) a p c/\e = .panic [Cu p]/\st'=Gl all (a.app c):=
      fun p c f l B=>⟨0,o,p,c,st,A,AL5 m,rfl,by grind,l,B⟩
     cases q with
      |inl p=>
       simp only[AV3,AWI]at h;rcases Hq D (R:=Unit) (r:=()) (slot:=slot) (k:=fun _ _=>none) (kp:=fun V Z=>some ()) (q:=.inl p) m rfl with⟨V,c,_,l,B⟩|⟨_,_,_,_,W,_⟩
       have H:=B (PV×Eff) (fun _ _=>none) fun p e=>some (p,e);simp only[AV3,AWI]at H;obtain⟨rfl,rfl⟩:=H;exact .inr (stop p {} l h.1.symm h.2.symm);grind
      |inr X=>
       obtain⟨s,args⟩:=X;simp only at h;rcases Hq D (q:=.inr (s,args)) m h with⟨p,c,f,l,_⟩|⟨s',C,v,c,W,Y,f,l,_⟩
       simp only[AV3,AWI]at f;exact .inr (stop p c l f.1.symm f.2.symm);split at f;rename_i u;simp only[AV6,AYo,AV5]at u;exact go _ (.inl ⟨by rw[Y];rfl,v,c,AK1 u.1 u.2,l,rfl⟩) f;grind
theorem AIc{all:List Oper}{fp:Nat->List Nat}{d:Nat->Nat}:∀ (l b:List Nat) (st a c:St),IL P E all fp d l st a->IL P E all fp d b a c->IL P E all fp d (l++b) st c:=by
 intro l;induction l with
  |nil=>intro b st a c h k;have h:st=a:=h;grind
  |cons i l e=>intro b st a c ⟨o,s,f,g,j⟩ k;exact⟨o,s,f,g,e b s a c j k⟩
theorem qE{all:List Oper}{fp:Nat->List Nat}{m:Nat->Nat}{y:Oper}:∀ (l:List Nat) (st a:St),(∀ j∈l,∀ x,all[j]? = some x->Dl x.op=true/\apart? all x y=true)->IL P E all fp m l st a ->
  a.heap=st.heap/\a.frz=st.frz/\(∀ z∈y.op.operands,BZ a.tmps z=BZ st.tmps z)/\∀ b,Gl all (a.app b)=Gl all (st.app b):=by
 intro l;induction l with
  |nil=>intro st a _ h;have h:st=a:=h;grind
  |cons j l n=>
   intro st a f ⟨x,s,g,o,p⟩;obtain⟨q,c⟩:=f j (by simp) x g;obtain⟨r,t,u,w⟩:=n s a (fun i hi=>f i (by simp[hi])) p;have d:∃ v,s=st.put x.dst v:=by
    rcases o with⟨_,v,e,_,A,rfl⟩|⟨_,rfl⟩
    have:=OA q _ _ _ _ _ A;subst this;exact⟨v,rfl⟩;grind
   obtain⟨v,rfl⟩:=d;refine⟨r.trans (FH ..).1,t.trans (FH ..).2,fun z k=>(u z k).trans (Ch c st v z k),fun b=>(w b).trans ?_⟩;rw[St.Ij];exact hQ all _ x v (AWA g)
theorem M7.congr{y:Oper}{slot:Nat}{st a:St}{p:PV}{c:Eff}(h:M7 E y slot a p c)(m:a.heap=st.heap)(n:a.frz=st.frz)(d:∀ z∈y.op.operands,BZ a.tmps z=BZ st.tmps z):M7 E y slot st p c:=by obtain⟨e,⟨x,b,g,i⟩|⟨f,args,j,s,b,l,o⟩⟩:=h;exact⟨e,.inl ⟨x,b,by rw[<- d x (by rw[b];simp[Op.operands])];exact g,i⟩⟩;refine⟨e,.inr ⟨f,args,j,s,b,l,fun R k kp => ?_⟩⟩;have:args.toList.map (BZ st.tmps)=args.toList.map (BZ a.tmps):=MC fun x g=>(d x (by rw[b];simp[Op.operands,Call.operands];grind)).symm;grind
theorem tt(hE:∀ g,BW P g (E.spec g))(hL:Eu E)(hP:Gg P E){ops:Array Oper}{fp:Nat->List Nat}{base:Nat}{Q:Exit->Act->World->Prop}{st':St}{p:Nat}{y:Oper}{pv:PV}{V:Eff}(hy:ops.toList[p]? = some y)
  (K:∀ i y,ops.toList[i]? = some y->(∀ e∈y.after.toList,Region.binds .any e=true->e.on<i) /\
   ∀ j x,j<i->ops.toList[j]? = some x->reach ops.toList 8 y j=true\/indep ops.toList x y (fp j) (fp i) (By ops.toList base j) (By ops.toList base i)=true)
  (hpre:∀ j x,j<p->ops.toList[j]? = some x->reach ops.toList 8 y j=true\/Dl x.op=true)
  (L:∀ j x,p<j->ops.toList[j]? = some x->reach ops.toList 8 x p=true\/(x.guard=none/\∃ z,x.op = .move z)) :
  ∀ (f:Nat) (b:Array Bool) (st c:St) (w:World) (F:Nat->Prop) (m:Mp) (a:Act),b.size=ops.size->Vv ops.toList (fun i=>b.getD i false)->(BQ ops.size b).length<=f->p∈BQ ops.size b->SI w F m st a ->
   IL P E ops.toList fp (By ops.toList base) ((BQ ops.size b).filter fun j=>decide (j<p)) st c->M7 E y (By ops.toList base p) c pv V->st'=Gl ops.toList (c.app V) ->
   (∀ A w' G H,SI w' G H st' A->Ext w F m st.heap st.frz w' G H st'.heap st'.frz->Q (.panic [Cu pv]) A w')->wpAny P .any ops Q f b a w:=by
 intro f;have n:∀ (b:Array Bool) (i:Nat),i∈Region.ready .any ops b↔i∈BQ ops.size b/\((ops[i]?).map (·.after.all fun e => !Region.binds .any e||b.getD e.on false)).getD false=true:=by intro b i;unfold Region.ready BQ;grind
 induction f with
  |zero=>grind
  |succ f ih=>
   intro b st c w F m a hsz W hl hp hs hc M o hq;have unl:∀ {j:Nat},j∈BQ ops.size b->b.getD j false=false:=by intro j t;unfold BQ at t;grind
   refine⟨fun hnil => ?_,fun i hi => ?_⟩;exfalso;cases hu:BQ ops.size b with
    |nil=>grind
    |cons i l=>
     have q:i∈BQ ops.size b:=by grind
     have N:i<ops.size:=by unfold BQ at q;grind
     have:i∈Region.ready .any ops b:=by
      refine(n b i).2 ⟨q,?_⟩;rw[AXb N];simp only[AX2,AW6];rw[<- AYr,AWU];intro e he;cases hb:Region.binds .any e with
       |false=>rfl
       |true=>
        have hlt:=(K i ops[i] (by simp)).1 e he hb;simp only[AV6,AYo];cases hg:b.getD e.on false with
         |true=>rfl
         |false=>
          exfalso;have hon:e.on<ops.size:=by omega
          have:e.on∈BQ ops.size b:=by unfold BQ;grind
          rw[hu]at this;have hpw:(BQ ops.size b).Pairwise (· < ·):=AXv _ AYm
          rw[hu,AWr]at hpw;grind
     grind
   obtain⟨q,O⟩:=(n b i).1 hi;have N:i<ops.size:=by grind
   obtain⟨l1,l2,r⟩:=AYJ q;have B:ops[i]? = some ops[i]:=AXb N;have d:ops.toList[i]? = some ops[i]:=by simp
   rw[B]at O;simp only[AX2,AW6]at O;rw[<- AYr,AWU]at O;have X:∀ e∈(ops[i]).after.toList,Region.binds .any e=true->(fun i=>b.getD i false) e.on=true:=by grind
   have Y:∀ j,j∈BQ ops.size b->reach ops.toList 8 ops[i] j=true->False:=by intro j t h;have h1:=Rz W 8 _ j X h;grind
   have hnext:=RU hsz l1 l2 r;have I:(BQ ops.size (b.setIfInBounds i true)).length<=f:=by grind
   have J:Vv ops.toList (fun k=>(b.setIfInBounds i true).getD k false):=by
    have Z:∀ k,(b.setIfInBounds i true).getD k false=true↔(k=i\/b.getD k false=true):=by
     intro k;have hil:i<b.size:=by omega
     rw[AWe,AWe,Array.getElem?_setIfInBounds];by_cases hki:i=k;grind;grind
    intro k z U hk e he hb;simp only[Z]at hk |-;right;rcases hk with rfl|hk;grind;exact W k z U hk e he hb
   have C:∀ j∈(BQ ops.size b).filter (fun j=>decide (j<p)),j∈BQ ops.size b/\j<p:=by simp
   rcases Nat.lt_trichotomy i p with u|u|u;-- one ahead of it
   have hub:(BQ ops.size b).filter (fun j=>decide (j<p))=l1.filter (fun j=>decide (j<p))++i::l2.filter (fun j=>decide (j<p)):=by grind
   rw[hub]at hc;obtain⟨z,s1,U,h1,h2⟩:=OS hL d _ _ st c (fun j t=>by have hj1:j∈l1:=(AWZ.1 t).1;have hji:=Mw r j hj1;grind) hc
   rw[d]at U;cases U;have S:p∈BQ ops.size (b.setIfInBounds i true):=by grind
   exact kA hE B h1 hs fun A w' G H T hx=>ih _ s1 c w' G H A (by grind) J I S T (by grind) M o fun A w2 F2 m2 q1 q2=>hq A w2 F2 m2 q1 (hx.trans q2);-- it
   subst u;rw[d]at hy;cases hy;obtain⟨k1,k2,k3,k4⟩:=qE (y:=ops[i]) _ st c (fun j t x hx=>by obtain⟨hj1,hj2⟩:=C j t;refine⟨?_,?_⟩;grind;rcases(K i _ d).2 j x hj2 hx with h|h;grind;exact(Nv h).1) hc
   have s:=M.congr k1 k2 k3;unfold wpOp;rw[B];simp only;rw[AWB (by simp[Region.wanted,s.1])];left;refine qG hP s hs fun w' G H hg => ?_;have t:=yy ops.toList (st.app V);rw[k4]at o;subst o;refine hq a w' G H ((hs.go hg).Gl _) ?_;rw[t.1,t.2];exact hg.1;-- a move that stands behind it
   obtain⟨hg0,z,D⟩:ops[i].guard=none/\∃ z,ops[i].op = .move z:=by rcases L i _ u d with h|h;grind;omega
   have hev:∃ v,∀ (R:Type) (k:AV->Eff->Option R),evalOp P E R ops[i].op ops[i].type (BZ c.tmps) c.heap c.frz (By ops.toList base i) k=k v {}:=by rw[D];simp only[evalOp];split;exact⟨_,fun _ _=>rfl⟩;exact⟨_,fun _ _=>rfl⟩
   obtain⟨v,hv⟩:=hev;have hs1:DQ P E ops.toList ops[i] (fp i) (By ops.toList base i) c (c.put ops[i].dst v):=by refine .inl ⟨by rw[hg0];rfl,v,{},.inr ⟨.inr ⟨?_,?_,?_⟩,?_⟩,hv,rfl⟩;rw[D];rfl;rw[D];rfl;rw[D];rfl;rfl
   have hc2:=AIc _ [i] st c (c.put ops[i].dst v) hc ⟨ops[i],_,d,hs1,rfl⟩;obtain⟨z',s1,hz',h1,h2⟩:=OS hL d _ [] st _ (fun j t=>by grind) hc2
   rw[d]at hz';cases hz';rw[AWk]at h2;have hub:(BQ ops.size (b.setIfInBounds i true)).filter (fun j=>decide (j<p))=(BQ ops.size b).filter (fun j=>decide (j<p)):=by grind
   have S:p∈BQ ops.size (b.setIfInBounds i true):=by grind
   have hap:apart? ops.toList ops[i] y=true:=by rcases(K i _ d).2 p y u hy with h|h;grind;exact Jv (Nv h).1
   have s:M7 E y (By ops.toList base p) (c.put ops[i].dst v) pv V:=M.congr (FH ..).1.symm (FH ..).2.symm fun z U=>(Ch hap c v z U).symm;have t:st'=Gl ops.toList ((c.put ops[i].dst v).app V):=by rw[o,St.Ij,hQ _ _ _ _ (AWA d)]
   exact kA hE B h1 hs fun A w' G H T hx=>ih _ s1 _ w' G H A (by grind) J I S T (by grind) s t fun A w2 F2 m2 q1 q2=>hq A w2 F2 m2 q1 (hx.trans q2)
theorem rJ{all:List Oper}{i:Nat}{o:Oper}(h:ACC E all i o=true)(b:Wf E [o]=true):(∀ j x,j<i->all[j]? = some x->reach all 8 o j=true\/Dl x.op=true) /\
  ∀ j x,i<j->all[j]? = some x->reach all 8 x i=true\/(x.guard=none/\∃ z,x.op = .move z):=by
 unfold ACC at h;rw[b]at h;simp only[AWU,AWS]at h;refine⟨fun j x c a => ?_,fun j x c a => ?_⟩;grind;have:=h j (AWH.1 a).1;rw[a]at this;have d:¬ j<i:=by omega
 have e:¬ j=i:=by omega
 simp only[d,e,AWg,AYo,AXN,AV5,Option.isNone_iff_eq_none]at this;grind
theorem da(u:∀ g,BW P g (E.spec g))(U:Eu E)(G:Gg P E){R:Type}{r:R}{id:Nat}{fp:List (List Nat)}{H:Bool}{ops:Array Oper}{st:St}{k:Exit->St->Option R}(h:JM P E R fp H ops.toList st k=some r):
  ∃ e st',k e st'=some r/\(∀ (I:Type) (J:Exit->St->Option I),JM P E I fp H ops.toList st J=J e st') /\
   ∀ (w:World) (F:Nat->Prop) (m:Mp) (a:Act) (Q:Exit->Act->World->Prop),SI w F m st a->(∀ l w' q t,SI w' q t st' l->Ext w F m st.heap st.frz w' q t st'.heap st'.frz->Q e l w')->(Code.region id ops H).wp P Q a w:=by
 unfold JM at h;rw[PX]at h;split at h
 ·rename_i c;obtain⟨e,st',K,V⟩:=qP u G _ _ _ _ _ h;refine⟨e,st',K,fun I J=>by unfold JM;rw[PX,c];grind,fun w F m a Q W L => ?_⟩;have X:=V (Exit×St) fun e s=>some (e,s);cases H with
   |false=>obtain⟨d,f⟩:=W.pad (C6 ops.toList);have:=qO u G ops.toList [] _ _ _ w F m a (by simp) X d fun l w' q t v A=>L l w' q t v (f.trans A);rw[AWK,AWP,<- AXu]at this;exact wp_region this
   |true=>
    simp only[AV6,AYo,AV5]at c;obtain⟨hm,c,Y⟩:=c;obtain⟨M,B⟩:=W.drew;obtain⟨d,f⟩:=M.pad (C6 ops.toList);have C:ops.toList=[]++ops.toList:=by simp
    refine wp_region_any hm ?_;have hu:BQ ops.size (Array.replicate ops.size false)=List.range' 0 ops.toList.length:=by
     unfold BQ;rw[AWP,<- AXu];rw[AXY];intro i hi;have:i<ops.size:=by grind
     simp[AWe,this]
    have D:Vv ops.toList (fun i=>(Array.replicate ops.size false).getD i false):=fun k z _ N=>by exfalso;have N:(Array.replicate ops.size false).getD k false=true:=N;rw[AWe,Array.getElem?_replicate]at N;grind
    have b:=fun i y hy=>R9 (all:=ops.toList) (fp:=fp) (base:=st.heap.length) ops.toList [] fp _ [] C rfl (by simp[By,C6]) (fun j x hj=>by grind) c i y (AXV _) hy;rcases dc u G (all:=ops.toList) (fp:=fp) (base:=st.heap.length) ops.toList [] fp st.heap.length _ C rfl (by simp[By,C6]) X with⟨rfl,hc⟩|⟨n,o,p,ef,O,S,g2,g3,Z,rfl,g6⟩
    exact iz (ops:=ops) u U (fp:=fun i=>fp.getD i []) (base:=st.heap.length) (st':=st') b ops.size _ _ w.drew F m a (by simp) D (by grind) d (by grind) fun l w' q t v A=>L l w' q t v (B.trans (f.trans A))
    ·simp only[AWK,AWs]at S g3 Z;have hn:n<ops.toList.length:=(AWH.1 S).1;have T:ACC E ops.toList n o=true:=by grind
     obtain⟨o1,o2⟩:=rJ T g2;refine tt u U G (ops:=ops) (fp:=fun i=>fp.getD i []) (base:=st.heap.length) S b o1 o2 ops.size _ _ O w.drew F m a (by simp) D (by grind) ?_ d ?_ Z g6 fun l w' q t v A=>L l w' q t v (B.trans (f.trans A));grind
     ·have:(List.range' 0 ops.toList.length).filter (fun j=>decide (j<n))=List.range' 0 n:=by
       have K:List.range' 0 ops.toList.length=List.range' 0 n++List.range' n (ops.toList.length-n):=by have V:=List.range'_append_1 (s:=0) (m:=n) (n:=ops.toList.length-n);grind
       rw[K,AXQ,AXY.2,List.filter_eq_nil_iff.2,AWk];all_goals grind
      grind
 grind
end
section
variable [DfI] {P:Program} {E:Env} {h:Hints}
theorem Z5(j:∀ g,BW P g (E.spec g)){R:Type}{r:R}{all:List Oper}:∀ (ops:List Oper) (slot:Nat) (st:St) (k:St->Option R),GD P E R all ops slot st k=some r ->
  ∃ st',k st'=some r/\∀ (c:Type) (d:St->Option c),GD P E c all ops slot st d=d st':=by
 intro ops;induction ops with
  |nil=>intro slot st k h;exact⟨st,h,fun _ _=>rfl⟩
  |cons o ops i=>
   intro slot st k h;simp only[GD]at h;obtain⟨l,b⟩:=N2 h;rcases b with⟨b,m⟩|⟨b,m⟩
   obtain⟨v,e,n,q,_⟩:=E5 j o.op _ _ _ _ _ _ _ r b;obtain⟨a,f,p⟩:=i _ _ _ n;exact⟨a,f,fun c d=>by simp only[GD];grind⟩;obtain⟨a,f,p⟩:=i _ _ _ b;exact⟨a,f,fun c d=>by simp only[GD];grind⟩
theorem qQ(d:∀ g,BW P g (E.spec g)){R:Type}{r:R}{all:List Oper}:∀ (ops:List Oper) (fp:List (List Nat)) (slot:Nat) (st:St) (k:St->Option R),KC P E R all ops fp slot st k=some r ->
  ∃ st',k st'=some r/\∀ (a:Type) (b:St->Option a),KC P E a all ops fp slot st b=b st':=by
 intro ops;induction ops with
  |nil=>intro fp slot st k h;exact⟨st,h,fun _ _=>rfl⟩
  |cons o ops e=>intro fp slot st k h;simp only[KC]at h;obtain⟨f,i,l⟩:=fa d h;obtain⟨c,j,m⟩:=e _ _ _ _ i;exact⟨c,j,fun a b=>by simp only[KC];grind⟩
def AVg(P:Program)(np:Nat)(c:Code)(st:St)(e:Exit)(st':St):Prop:=
 ∀ (w:World) (F:Nat->Prop) (m:Mp) (a:Act) (Q:Exit->Act->World->Prop),SI w F m st a ->
  (∀ b w' d f,SI w' d f st' b->Il np w F m st.heap st.frz w' d f st'.heap st'.frz->Q e b w')->c.wp P Q a w
def Jy(P:Program)(np:Nat)(c:Code)(go:(R:Type)->St->(Exit->St->Option R)->Option R):Prop:=
 ∀ (R:Type) (st:St) (k:Exit->St->Option R) (r:R),go R st k=some r->∃ e st',k e st'=some r/\(∀ (a:Type) (b:Exit->St->Option a),go a st b=b e st')/\AVg P np c st e st'
def Bx(P:Program)(np:Nat)(h:Hints):Code->Nat->Prop
 |.seq a b,n=>Bx P np h a n/\Bx P np h b (n+loops a)
 |.cond _ a b,n=>Bx P np h a n/\Bx P np h b (n+loops a)
 |.block _ c,n=>Bx P np h c n
 |.loop c,n=>Jy P np (.loop c) (h.loop n)
 |_,_=>True
theorem ACw{w:World}{F:Nat->Prop}{m:Mp}{st:St}{a:Act}(e:SI w F m st a){c:Operand}{x:Bool}(j:BZ st.tmps c = .data .bool x):
  a.eval c = .bool x/\SI w F m { st with tmps:=P7 st.tmps c x } a:=by
 have i:Rep w F m st.heap (BZ st.tmps c) (a.eval c):=FM e.tmps c;rw[j]at i;refine⟨?_,?_⟩;unfold Rep Ce at i;simp only[Ty.isAgg,AWM,AWN]at i;simpa [Dat]using i;cases c with
  |tmp t=>exact e.lit (d:=t) (b:=x) j
  |const v=>exact e
  |func f=>exact e
  |global g=>exact e
theorem DM(I:∀ g,BW P g (E.spec g))(hL:Eu E)(hP:Gg P E){np:Nat}:∀ (c:Code) (n:Nat),Bx P np h c n->Jy P np c (fun R=>Bl P E h R c n):=by
 intro c;induction c with
  |skip=>intro n _ R st k r d;simp only[Bl]at d;exact⟨_,_,d,fun _ _=>rfl,fun w F m a Q s f=>wp_skip (f a w F m s (Il.refl ..))⟩
  |region id ops J=>
   intro n _ R st k r d;have hk0:=d;simp only[Bl]at d;split at d;rename_i u;obtain⟨e,st',j,y,v⟩:=da I hL hP (id:=id) d;exact⟨e,st',j,fun o p=>by simp only[Bl,u];grind,fun w F m a Q s f=>v w F m a Q s fun q w' z A K L=>f q w' z A K (L.toN np)⟩;rename_i u;cases J with
    |false=>
     simp only[G1,PX]at d;obtain⟨st',j,y⟩:=Z5 I _ _ _ _ d;refine⟨.normal,st',j,fun o p=>by simp only[Bl,u,G1,PX];grind,fun w F m a Q s f => ?_⟩;have v:G1 P E St ops.toList st some=some st':=by simp only[G1,PX];grind
     refine kq I v s fun q w' W => ?_;obtain⟨i,z,A,X,M,Y⟩:=W;cases X;exact f q w' z A M (Y.toN np)
    |true=>
     simp only at d;have hk':=d;unfold FY at d;rw[PX]at d;split at d;rename_i N;obtain⟨st',j,y⟩:=qQ I _ _ _ _ _ d;refine⟨.normal,st',j,fun o p=>by simp only[Bl,u,FY,PX,N];grind,fun w F m a Q s f => ?_⟩;have v:FY P E St (h.fp id) ops.toList st some=some st':=by simp only[FY,PX,N];grind
     refine db I hL v s fun q w' W => ?_;obtain⟨i,z,A,X,M,Y⟩:=W;cases X;exact f q w' z A M (Y.toN np);grind
  |seq a b C D=>
   intro n B R st k r d;simp only[Bl]at d;obtain⟨e,i,j,G,v⟩:=C n B.1 R st _ r d;have y:∀ (o:Type) (p:Exit->St->Option o),Bl P E h o a n st p=p e i:=G;by_cases he:e = .normal;subst he;simp only at j;obtain⟨M,Z,k1,k2,k3⟩:=D _ B.2 R i _ r j;refine⟨M,Z,k1,fun o p => ?_,fun w F m t Q s f=>wp_seq ?_⟩;simp only[Bl];grind;refine v w F m t _ s fun q w' z A O S => ?_;exact k3 w' z A q Q O fun a2 w2 F2 m2 s2 x2=>f a2 w2 F2 m2 s2 (S.trans x2);have h1':k e i=some r:=by grind
   refine⟨e,i,h1',fun o p => ?_,fun w F m t Q s f=>wp_seq ?_⟩;simp only[Bl];grind;refine v w F m t _ s fun q w' z A O S => ?_;have:=f q w' z A O S;cases e<;>first|grind|exact this
  |cond c a b C D=>
   intro n B R st k r d;simp only[Bl]at d;split at d;rename_i x V;cases x with
    |true=>obtain⟨e,i,j,y,v⟩:=C _ B.1 R _ _ r d;refine⟨e,i,j,fun o p=>by simp only[Bl,V];grind,fun w F m t Q s f => ?_⟩;obtain⟨K,L⟩:=ACw s V;exact wp_cond_true K (v w F m t Q L f)
    |false=>obtain⟨e,i,j,y,v⟩:=D _ B.2 R _ _ r d;refine⟨e,i,j,fun o p=>by simp only[Bl,V];grind,fun w F m t Q s f => ?_⟩;obtain⟨K,L⟩:=ACw s V;exact wp_cond_false K (v w F m t Q L f)
   grind
  |block id c ih=>
   intro n B R st k r d;simp only[Bl]at d;obtain⟨e,i,j,G,v⟩:=ih n B R st _ r d;have y:∀ (o:Type) (p:Exit->St->Option o),Bl P E h o c n st p=p e i:=G;have key:∃ T,k T i=some r/\(∀ (o:Type) (p:Exit->St->Option o),Bl P E h o (.block id c) n st p=p T i)/\∀ (Q:Exit->Act->World->Prop) q w',Q T q w'->Exit.inBlock id Q e q w':=by
    cases e with
     |exit U=>simp only at j;by_cases H:U=id;subst H;simp only[AWG]at j;exact⟨.normal,j,fun o p=>by simp only[Bl];grind,fun Q q w' f=>by simp[Exit.inBlock,f]⟩;simp only[H,AWg]at j;exact⟨.exit U,j,fun o p=>by simp only[Bl];grind,fun Q q w' f=>by simp[Exit.inBlock,H,f]⟩
     |normal=>exact⟨_,j,fun o p=>by simp only[Bl];rw[y],fun Q q w' f=>f⟩
     |goto l=>exact⟨_,j,fun o p=>by simp only[Bl];rw[y],fun Q q w' f=>f⟩
     |ret=>exact⟨_,j,fun o p=>by simp only[Bl];rw[y],fun Q q w' f=>f⟩
     |panic l=>exact⟨_,j,fun o p=>by simp only[Bl];rw[y],fun Q q w' f=>f⟩
     |outgrown=>exact⟨_,j,fun o p=>by simp only[Bl];rw[y],fun Q q w' f=>f⟩
   obtain⟨T,k1,k2,k3⟩:=key;exact⟨T,i,k1,k2,fun w F m t Q s f=>wp_block (v w F m t _ s fun q w' z A O S=>k3 Q q w' (f q w' z A O S))⟩
  |loop c ih=>intro n B R st k r d;exact B R st k r d
  |exit id=>intro n _ R st k r d;simp only[Bl]at d;exact⟨_,_,d,fun _ _=>rfl,fun w F m a Q s f=>wp_exit (f a w F m s (Il.refl ..))⟩
  |ret=>intro n _ R st k r d;simp only[Bl]at d;exact⟨_,_,d,fun _ _=>rfl,fun w F m a Q s f=>wp_ret (f a w F m s (Il.refl ..))⟩
  |_=>intro n _ R st k r d;simp[Bl]at d
theorem iI{R:Type}{r:R}{c:Nat}{k:Exit->St->Option R}:∀ (os:BH) (x:dJ os),bc c k os x=some r->∃ e st',k e st'=some r/\∀ (b:Type) (a:Exit->St->Option b),bc c a os x=a e st':=by
 intro os;induction os with
  |nil=>intro x h;simp[bc]at h
  |cons o os f=>
   intro x h;cases x with
    |inl d=>exact⟨_,_,h,fun _ _=>rfl⟩
    |inr x=>obtain⟨e,st',g,i⟩:=f x h;exact⟨e,st',g,fun b a=>i b a⟩
theorem pj{e a:Exit}(h:ZV e a=true):e=a:=by cases e<;>cases a<;>simp_all [ZV]
theorem rH{np c:Nat}{e:Exit}{st:St}:∀ (os:BH) (x:dJ os),Wg np c e st os=some x->∃ a d,decode np c st a=some d/\∀ (f:Type) (b:Exit->St->Option f),bc c b os x=b e (encode c a d):=by
 intro os;induction os with
  |nil=>intro x h;simp[Wg]at h
  |cons o os g=>intro x h;simp only[Wg]at h;split at h;rename_i i;split at h;rename_i d hd;simp only[AV3]at h;subst h;exact⟨o.2,d,hd,fun f b=>by rw[pj i];rfl⟩;grind;split at h;rename_i y j;simp only[AV3]at h;subst h;obtain⟨a,d,k,l⟩:=g y j;exact⟨a,d,k,fun f b=>l f b⟩;grind
theorem AGc{C:Hints}(hE:∀ g,BW P g (E.spec g))(hL:Eu E)(hP:Gg P E){np i n:Nat}{b:Code}{f:A1}{os:BH}{stp:Be (leaves f)->Option (Be (leaves f)⊕dJ os)}
  (j:∀ v,stp v=roundOf P E C n np i b f os v) (hl:Bx P np C b n):Jy P np (.loop b) (ME np i f os stp):=by
 intro R st k r o;unfold ME at o;split at o;cases o;rename_i v V;split at o;cases o;rename_i x W;obtain⟨e,st',h1,h2⟩:=iI os x o;refine⟨e,st',h1,fun R' k'=>by simp only[ME,V,W];grind,?_⟩
 have D:∀ (c:Nat) (v:Be (leaves f)),BC stp c v=some x->∀ (w:World) (F:Nat->Prop) (m:Mp) (a:Act) (Q:Exit->Act->World->Prop),SI w F m (encode i f v) a ->
   (∀ p w' G H,SI w' G H st' p->Il np w F m (encode i f v).heap (encode i f v).frz w' G H st'.heap st'.frz->Q e p w')->Code.rounds P b Q c a w:=by
  intro c
  induction c with
  |zero=>intro v h;simp[BC]at h
  |succ c ih=>
   intro v h w F m a Q I B
   simp only[BC]at h
   rw[j v]at h
   cases J:roundOf P E C n np i b f os v with
   |none=>grind
   |some y=>
    rw[J]at h
    unfold roundOf at J
    obtain⟨K,L,q,_,g3⟩:=DM hE hL hP b n hl _ _ _ _ J
    show b.wp P (Exit.then (Code.rounds P b Q c) Q) a w
    refine g3 w F m a _ I fun p w' G H X Y => ?_
    by_cases he:K = .normal
    ·subst he
     simp only[p7]at q
     split at q
     ·rename_i d hd
      simp only[AV3]at q;subst q
      obtain⟨s,t,u,A⟩:=HE X hd
      show Code.rounds P b Q c p w'
      exact ih d h w' s t p Q u fun M N O S T U=>B M N O S T (Y.trans (A.trans U))
     grind
    ·have l:(match Wg np i K L os with
      |some x=>some (Sum.inr x)
      |none=>none)=some y:=by
      cases K<;>first|grind|exact q
     split at l
     ·rename_i z hz
      simp only[AV3]at l;subst l
      simp only[AV3]at h;subst h
      obtain⟨Z,d,o1,o2⟩:=rH os _ hz
      obtain⟨s,t,u,A⟩:=HE X o1
      have e3:=(h2 (Exit×St) fun e st=>some (e,st)).symm.trans (o2 (Exit×St) fun e st=>some (e,st))
      simp only[AV3,AWI]at e3
      obtain⟨rfl,rfl⟩:=e3
      have:=B p w' s t u (Y.trans A)
      cases e<;>first|grind|exact this
     grind
 intro w F m a Q I B;obtain⟨s,t,u,A⟩:=HE I V;exact wp_loop_rounds many (D many v (by rw[<- BR];exact W) w s t a Q u fun M N O S T U=>B M N O S T (A.trans U))
end
section
variable {w:World} {F F0:Nat->Prop} {m m2:Mp} {H H2:List Ob} {ids:List Nat}
theorem Dat.flat:∀ (t:Ty),t.flat=true->∀ {d:t.den} {cs:List Value} {c:World},Dat w F t d cs->Dat c F0 t d cs:=by
 intro t;induction t with
  |unit=>exact fun _ _ _ _ h=>h
  |bool=>exact fun _ _ _ _ h=>h
  |int k=>exact fun _ _ _ _ h=>h
  |slice e _=>intro h;simp[Ty.flat]at h
  |mapi j e _=>intro h;simp[Ty.flat]at h
  |nul e=>exact fun _ _ _ _ h=>h
  |prod a b f g=>intro h d cs c hd;simp only[Ty.flat,AV5]at h;obtain⟨o,c2,i,l,p⟩:=hd;exact⟨o,c2,i,f h.1 l,g h.2 p⟩
  |arr n e q=>intro h d cs c hd;obtain⟨i,l⟩:=hd;exact⟨i,B7 (fun x _ cs r=>q (by simpa [Ty.flat]using h) r) l⟩
theorem Ce.flat{t:Ty}(b:t.flat=true){d:t.den}{v:Value}{c:World}(h:Ce w F t d v):Ce c F0 t d v:=by unfold Ce at *;split;rename_i a;simp only[a,AWf]at h;obtain⟨vs,e,hd⟩:=h;exact⟨vs,e,hd.flat t b⟩;rename_i a;simp only[a]at h;exact Dat.flat t b h
theorem AHg{k v:Ty}(d:k.flat=true)(f:v.flat=true){g:World}:∀ {a:List (k.den×v.den)} {b:List MapEntry},J4 w F k v a b->J4 g F0 k v a b:=by
 intro a;induction a with
  |nil=>exact fun h=>h
  |cons e a i=>rintro b ⟨j,c,l,⟨n,o⟩,p⟩;exact⟨j,c,l,⟨n.flat d,o.flat f⟩,i p⟩
mutual
theorem Rep.flat:∀ (a:AV) {v:Value},Ke a=true->Rep w F m H a v->Rep w F0 m H a v
 |.C7,_,_,_=>by unfold Rep;trivial
 |.data t d,v,hf,h=>by unfold Rep at *;exact h.flat (by simpa [Ke]using hf)
 |.nils _,v,_,h=>by unfold Rep at *;exact h
 |.agg cs,v,hf,h=>by unfold Rep at *;obtain⟨vs,e,h,b⟩:=h;exact⟨vs,e,BF.flat cs (by simpa [Ke]using hf) h,b⟩
 |.own id,v,_,h=>by unfold Rep at *;exact h
 |.win id off n,v,_,h=>by unfold Rep at *;exact h
 |.ptr id off,v,_,h=>by unfold Rep at *;exact h
 |.eptr id i sub,v,_,h=>by unfold Rep at *;exact h
 |.dptr cs,v,hf,h=>by simp[Ke]at hf
 |.clo f caps,v,hf,h=>by unfold Rep at *;obtain⟨cs,e,h⟩:=h;exact⟨cs,e,BF.flat caps (by simpa [Ke]using hf) h⟩
 |.bnd f caps,v,hf,h=>by unfold Rep at *;obtain⟨cs,e,h⟩:=h;exact⟨cs,e,BF.flat caps (by simpa [Ke]using hf) h⟩
 |.str _,v,_,h=>by unfold Rep at *;exact h
 |.clip _ _,v,hf,h=>by simp[Ke]at hf
 |.mp id,v,_,h=>by unfold Rep at *;exact h
 |.rowp _ _ _,v,_,h=>by unfold Rep at *;exact h
 |.glob _,v,_,h=>by unfold Rep at *;exact h
 |.nilp,v,_,h=>by unfold Rep at *;exact h
 |.ifc _,v,_,h=>by unfold Rep at *;exact h
 |.aptr _ _,v,_,h=>by unfold Rep at *;exact h
 |.tup vs,v,hf,h=>by unfold Rep at *;obtain⟨us,e,h⟩:=h;exact⟨us,e,BF.flat vs (by simpa [Ke]using hf) h⟩
theorem BF.flat:∀ (cs:List AV) {vs:List Value},KQ cs=true->BF w F m H cs vs->BF w F0 m H cs vs
 |[],vs,_,h=>by unfold BF at *;exact h
 |c::cs,vs,hf,h=>by unfold BF at *;simp only[KQ,AV5]at hf;obtain⟨v,a,e,b,d⟩:=h;exact⟨v,a,e,Rep.flat c hf.1 b,BF.flat cs hf.2 d⟩
end
def uR(ids:List Nat)(H H2:List Ob)(m m2:Mp):Prop:=∀ j o,H[j]? = some o->H2[ids.getD j 0]? = some (ET ids o)/\m2 (ids.getD j 0)=m j
theorem Fp(f:uR ids H H2 m m2)(Q:Option Ob->Option (Nat×Nat)->Prop)(c:∀ l,¬ Q none l)(a:∀ cs l,Q (some (.box cs)) l->Q (some (.box (J0 ids cs))) l)(b:∀ T t t' d l,Q (some (.prs T t d)) l->Q (some (.prs T t' d)) l)(j:Nat)(h:Q H[j]? (m j)):Q H2[ids.getD j 0]? (m2 (ids.getD j 0)):=by
 cases e:H[j]? with
  |none=>grind
  |some o=>rw[e]at h;obtain⟨g,i⟩:=f j o e;rw[g,i];cases o<;>first|exact h|exact a _ _ h|exact b _ _ _ _ _ h
mutual
theorem Rep.ren(b:uR ids H H2 m m2):∀ (a:AV) {v:Value},Rep w F m H a v->Rep w F m2 H2 (Ec ids a) v
 |.C7,_,_=>by simp only[Ec];unfold Rep;trivial
 |.rowp _ _ _,_,_=>by simp only[Ec];unfold Rep;trivial
 |.glob g,v,h=>by simp only[Ec];unfold Rep at *;exact h
 |.nilp,v,h=>by simp only[Ec];unfold Rep at *;exact h
 |.ifc _,v,h=>by simp only[Ec];unfold Rep at *;exact h
 |.aptr id n,v,h=>by simp only[Ec];unfold Rep at *;exact Fp b (fun o l=>Ge o l n v) (fun l h=>h) (fun cs l h=>h) (fun _ _ _ _ l h=>h) id h
 |.data t d,v,h=>by simp only[Ec];unfold Rep at *;exact h
 |.nils _,v,h=>by simp only[Ec];unfold Rep at *;exact h
 |.agg cs,v,h=>by simp only[Ec];unfold Rep at *;obtain⟨vs,e,h,c⟩:=h;exact⟨vs,e,BF.ren b cs h,c⟩
 |.own id,v,h=>by simp only[Ec];unfold Rep at *;exact Fp b (fun o l=>Br o l v) (fun l h=>h) (fun cs l h=>h) (fun _ _ _ _ l h=>h) id h
 |.win id off n,v,h=>by simp only[Ec];unfold Rep at *;exact Fp b (fun o l=>II o l off n v) (fun l h=>h) (fun cs l h=>h) (fun _ _ _ _ l h=>h) id h
 |.ptr id off,v,h=>by simp only[Ec];unfold Rep at *;exact Fp b (fun o l=>HM o l off v) (fun l h=>h) (fun cs l h=>h) (fun _ _ _ _ l h=>h) id h
 |.eptr id i sub,v,h=>by simp only[Ec];unfold Rep at *;exact Fp b (fun o l=>Dq o l i sub v) (fun l h=>h) (fun cs l h=>h) (fun _ _ _ _ l h=>h) id h
 |.dptr cs,v,h=>by simp only[Ec];unfold Rep at *;obtain⟨ad,us,e,c,k,p,q⟩:=h;refine⟨ad,us,e,fun j=>c (by rintro rfl;exact j rfl),BF.ren b cs k,p,q⟩
 |.clo f caps,v,h=>by simp only[Ec];unfold Rep at *;obtain⟨cs,e,h⟩:=h;exact⟨cs,e,BF.ren b caps h⟩
 |.bnd f caps,v,h=>by simp only[Ec];unfold Rep at *;obtain⟨cs,e,h⟩:=h;exact⟨cs,e,BF.ren b caps h⟩
 |.str _,v,h=>by simp only[Ec];unfold Rep at *;exact h
 |.clip _ _,v,h=>by simp only[Ec];unfold Rep at *;exact h
 |.mp id,v,h=>by simp only[Ec];unfold Rep at *;exact Fp b (fun o l=>M6 o l v) (fun l h=>h) (fun cs l h=>h) (fun _ _ _ _ l h=>h) id h
 |.tup vs,v,h=>by simp only[Ec];unfold Rep at *;obtain⟨us,e,h⟩:=h;exact⟨us,e,BF.ren b vs h⟩
theorem BF.ren(b:uR ids H H2 m m2):∀ (cs:List AV) {vs:List Value},BF w F m H cs vs->BF w F m2 H2 (J0 ids cs) vs
 |[],vs,h=>by simp only[J0];unfold BF at *;exact h
 |c::cs,vs,h=>by simp only[J0];unfold BF at *;obtain⟨v,a,e,d,f⟩:=h;exact⟨v,a,e,Rep.ren b c d,BF.ren b cs f⟩
end
theorem AKj(a:Nat)(b:List Int):J0 ids (Gz a b)=Gz (ids.getD a 0) b:=by
 induction b with
  |nil=>rfl
  |cons x xs c=>have:J0 ids (Gz a (x::xs))=Ec ids (.eptr a x.toNat 0)::J0 ids (Gz a xs):=rfl;rw[this,c];rfl
theorem AHY(a:Nat)(b:List Int):KQ (Gz a b)=true:=by
 induction b with
  |nil=>rfl
  |cons x xs c=>have:KQ (Gz a (x::xs))=(Ke (.eptr a x.toNat 0)&&KQ (Gz a xs)):=rfl;rw[this,c];rfl
theorem yN{i j k:Nat}:∀ {ids:List Nat},JQ ids=true->ids[i]? = some k->ids[j]? = some k->i=j:=by
 intro ids h;have:ids.Nodup:=by
  induction ids with
   |nil=>simp
   |cons a ids d=>simp only[JQ,AV5,AXF,List.contains_eq_mem,AWY]at h;grind
 intro b c;exact(AYP (Ei b) this).1 (b.trans c.symm)
theorem pW{i:Nat}{o:Ob}:∀ (ids:List Nat) (os:List Ob) (H:List Ob) (j:Nat),JQ ids=true->ids[j]? = some i->os[j]? = some o->i<H.length->(Bs (ids.zip os) H)[i]? = some o:=by
 intro ids;induction ids with
  |nil=>simp
  |cons a ids g=>
   intro os H j b c d e;cases os with
    |nil=>grind
    |cons x os=>
     simp only[JQ,AV5,AXF,List.contains_eq_mem,AWY]at b;simp only[List.zip_cons_cons,Bs];cases j with
      |zero=>simp only[AWo,AV3]at c d;subst c;subst d;rw[CP _ _ fun p f => ?_,List.getElem?_set_self e];rintro rfl;exact b.1 (List.of_mem_zip f).1
      |succ j=>grind
def Kf:List Nat->Nat->Option Nat
 |[],_=>none
 |x::xs,i=>if x=i then some 0 else(Kf xs i).map (· + 1)
theorem Wu{i j:Nat}:∀ {ids:List Nat},Kf ids i=some j->ids[j]? = some i:=by
 intro ids;induction ids generalizing j with
  |nil=>intro h;simp[Kf]at h
  |cons a ids b=>intro h;simp only[Kf]at h;split at h;grind;rw[AWE]at h;grind
theorem sU{i:Nat}:∀ {ids:List Nat},Kf ids i=none->i∉ids:=by
 intro ids;induction ids with
  |nil=>simp
  |cons a ids c=>intro h;simp only[Kf]at h;split at h;cases h;rename_i b;rw[AYl]at h;grind
theorem AHc{i j:Nat}{ids:List Nat}(b:JQ ids=true)(h:ids[j]? = some i):Kf ids i=some j:=by
 cases a:Kf ids i with
  |none=>exact absurd (AWA h) (sU a)
  |some k=>rw[yN b h (Wu a)]
def mOf(ids:List Nat)(a m:Mp):Mp
 |.o i=>match Kf ids i with
  |some j=>a j
  |none=>m i
 |.r i k=>m (.r i k)
theorem iE{fz:List Bool}:∀ {ids:List Nat} {c:List Bnd},GN H fz ids c=true->∀ {j i:Nat},ids[j]? = some i->c[j]? = some (.whole i)\/((∀ id,c[j]?≠some (.whole id))/\Bd H fz i=true):=by
 intro ids;induction ids with
  |nil=>simp
  |cons a ids g=>
   intro c h j i d;simp only[GN,AV5]at h;obtain⟨e,k⟩:=h;cases j with
    |zero=>
     simp only[AWo,AV3]at d;subst d;split at e;grind;rename_i f;refine .inr ⟨fun id l => ?_,e⟩;cases c with
      |nil=>grind
      |cons b c=>simp_all
    |succ j=>grind
theorem AG7:∀ (n:Nat) (a:List Bnd) (slot:Nat),(DT n a slot).length=n:=by
 intro n;induction n with
  |zero=>intro a slot;cases a<;>rfl
  |succ n c=>
   intro a slot;cases a with
    |nil=>simp[DT,c]
    |cons b a=>cases b<;>simp[DT,c]
theorem CB(st:St)(v:AV)(l:Loc):(place st v l).heap.length=st.heap.length:=by
 cases l with
  |tmp t=>rfl
  |cell j c=>simp only[place];grind
  |cap t i=>rfl
  |obj j=>rfl
theorem ANo:∀ (b:A1) (d:Be (leaves b)) (st:St),(enc b d st).heap.length=st.heap.length+Di b:=by
 intro b;induction b with
  |nil=>intro d st;rfl
  |cons p r a=>
   intro d st;obtain⟨l,c⟩:=p;cases c with
    |dat t=>exact(a _ _).trans (by rw[CB];rfl)
    |own T e=>exact(a _ _).trans (by rw[CB];simp[Es,Di];omega)
    |box n=>exact(a _ _).trans (by rw[CB];simp[Es,Di];omega)
    |map k v=>exact(a _ _).trans (by rw[CB];simp[Es,Di];omega)
    |prs T j=>exact(a _ _).trans (by rw[CB];simp[Es,Di];omega)
    |rows T e t=>exact(a _ _).trans (by rw[CB];simp[Es,Di];omega)
    |mrows j e t=>exact(a _ _).trans (by rw[CB];simp[Es,Di];omega)
    |aptr T e n=>exact(a _ _).trans (by rw[CB];simp[Es,Di];omega)
    |aptr' j n=>exact(a _ _).trans (by rw[CB];rfl)
    |bndp f j=>exact(a _ _).trans (by rw[CB];rfl)
    |nilp=>exact(a _ _).trans (by rw[CB];rfl)
    |own' j=>exact(a _ _).trans (by rw[CB];rfl)
    |ptr' j o=>exact(a _ _).trans (by rw[CB];rfl)
    |map' j=>exact(a _ _).trans (by rw[CB];rfl)
    |win' j=>exact(a _ _).trans (by rw[CB];rfl)
    |sub' j=>exact(a _ _).trans (by rw[CB];rfl)
    |clo f g=>exact(a _ _).trans (by rw[CB];rfl)
    |bnd f j=>exact(a _ _).trans (by rw[CB];rfl)
    |nil e=>exact(a _ _).trans (by rw[CB];rfl)
end
theorem aE{H:List Ob}{fz:List Bool}{i:Nat}{o:Ob}(h:H[i]? = some o)(a:alive o)(b:fz.getD i false=false):owned H fz i:=by
 simp only[owned,Cn];rw[h];cases o with
  |free=>exact a.elim
  |dead=>exact a.elim
  |box cs=>trivial
  |arr T t xs=>exact b
  |map k v c=>trivial
  |prs T t d=>trivial
  |rows T e t xs ver out=>exact b
theorem uL{o:Ob}(h:alive o):o≠.free/\o≠.dead:=by constructor<;>rintro rfl<;>exact h
theorem L8{H:List Ob}{fz:List Bool}{ids:List Nat}{i:Ix}(h:owned H (BK ids fz) i):owned H fz i:=PW h
theorem dX{o a:Ob}{ids:List Nat}(h:sameShape o a):sameShape o (ET ids a):=by cases o<;>cases a<;>simp only[sameShape,ET]at *<;>exact h
theorem VD{i:Nat}:∀ {a:List Bnd},i∈given a↔∃ j:Nat,a[j]? = some (.whole i):=by
 intro a;induction a with
  |nil=>simp[given]
  |cons b a c=>
   have step:(∃ j:Nat,(b::a)[j]? = some (.whole i))↔b = .whole i\/∃ j:Nat,a[j]? = some (.whole i):=by constructor;grind;rintro (h|⟨j,d⟩);exact⟨0,by grind⟩;exact⟨j+1,by grind⟩
   rw[step];cases b with
    |whole id=>simp only[given,AWO,c,Bnd.whole.injEq];grind
    |none=>simp[given,c]
    |cut id=>simp[given,c]
theorem WS(a b:List (Nat×Ob)):∀ H,Bs (a++b) H=Bs b (Bs a H):=by
 induction a with
  |nil=>intro H;rfl
  |cons p a c=>intro H;obtain⟨i,o⟩:=p;simp only[AWa,Bs];grind
def D7(a:List Nat)(H:List Ob):List Ob:=Bs (a.map fun i=>(i,.dead)) H
theorem af{a:List Nat}{i:Nat}{H:List Ob}(h:i∉a):(D7 a H)[i]? = H[i]? :=
 CP _ _ fun p b=>by grind
theorem AGq:∀ {b:List Nat} {i:Nat} {H:List Ob},i∈b->i<H.length->(D7 b H)[i]? = some .dead:=by
 intro b;induction b with
  |nil=>simp
  |cons a b d=>intro i H h e;by_cases c:i∈b;exact d (H:=H.set a .dead) c (by grind);have:(D7 b (H.set a .dead))[i]? = (H.set a .dead)[i]? := af c;rcases AWO.1 h with rfl|h;show(D7 b (H.set i .dead))[i]? = _;grind;grind
theorem ah(a:List Nat)(H:List Ob):(D7 a H).length=H.length:=WQ ..
section
variable {w w':World} {F F2 F3 FR:Nat->Prop} {m m3:Mp} {H H1:List Ob} {fz fz1 fzR:List Bool} {bs:List Bnd} {ids fr:List Nat} {np:Nat}
theorem AIg(hiC:HI w F m H fz)(gA:BS w F m H fz w F2 m H (BK fr fz))
  (O:∀ (j id:Nat),bs[j]? = some (.whole id)->owned H (BK fr fz) id)
  (inj:∀ (i j id:Nat),bs[i]? = some (.whole id)->bs[j]? = some (.whole id)->i=j)
  (pin:∀ (j id:Nat),(bs.take np)[j]? = some (.whole id)->∃ o d,H[id]? = some o/\alive o/\H1[j]? = some d/\sameShape o d/\m3 j=m id)
  (blk:∀ (j b c:Nat),owned H1 fz1 j->m3 j=some (b,c)->(∃ id c':Nat,(bs.take np)[j]? = some (.whole id)/\m id=some (b,c'))\/(∃ k id c':Nat,np<=k/\bs[k]? = some (.whole id)/\m id=some (b,c'))\/w.heap.size<=b)
  (os:w'.os=w.os) (tape:w'.tape=w.tape) (output:w'.output=w.output) (size:w.heap.size<=w'.heap.size)
  (keep:∀ b,b<w.heap.size->(∀ (j id:Nat) (c:Nat),bs[j]? = some (.whole id)->m id≠some (b,c))->w'.heap[b]? = w.heap[b]?)
  (sub:∀ b,F2 b->F3 b) (bnd:∀ b,F3 b->F2 b\/(∃ (j id c:Nat),bs[j]? = some (.whole id)/\m id=some (b,c))\/w.heap.size<=b)
  (hi1:HI w' F3 m3 H1 fz1) (al1:∀ (j:Nat) (o:Ob),H1[j]? = some o->alive o) (pl1:∀ (j:Nat) (o:Ob),H1[j]? = some o->CA o=true) (fr1:∀ j,fz1.getD j false=false)
  (hlen:ids.length=H1.length) (hok:GN H fzR ids (bs.take np)=true) (hnd:JQ ids=true)
  (hR:(FR=F/\fzR=fz/\H1.all N5=true)\/(FR=F3/\fzR=BK fr fz)) :
  BS w F m H fz w' FR (mOf ids m3 m) (Bs (ids.zip (H1.map (ET ids))) (D7 (given (bs.drop np)) H)) fzR/\uR ids H1 (Bs (ids.zip (H1.map (ET ids))) (D7 (given (bs.drop np)) H)) m3 (mOf ids m3 m):=by
 have hiR:∃ FB,HI w FB m H fzR/\(∀ b,F b->FB b)/\(∀ b,FB b->FR b)/\(∀ b,FB b->F2 b):=by
  rcases hR with⟨G,W,_⟩|⟨G,W⟩
  exact⟨F,by grind,fun _ h=>h,fun _ h=>by grind,gA.1.sub⟩;exact⟨F2,by rw[W];exact gA.2,gA.1.sub,fun b h=>by grind,fun _ h=>h⟩
 obtain⟨FB,P,X,U,hB2⟩:=hiR;have ownR:∀ {i},owned H fzR i->owned H fz i:=by
  intro i h;rcases hR with⟨_,W,_⟩|⟨_,W⟩
  grind;rw[W]at h;exact L8 h
 have pinR:∀ {id},owned H (BK fr fz) id->owned H fzR id:=by
  intro id h;rcases hR with⟨_,W,_⟩|⟨_,W⟩
  rw[W];exact L8 h;grind
 have FR3:∀ b,FR b->F3 b:=by grind
 have tk:∀ {j id:Nat},(bs.take np)[j]? = some (.whole id)->j<np/\bs[j]? = some (.whole id):=by grind
 have tk':∀ {j id:Nat},j<np->bs[j]? = some (.whole id)->(bs.take np)[j]? = some (.whole id):=by grind
 have gvI:∀ {i:Nat},i∈given (bs.drop np)->∃ k,np<=k/\bs[k]? = some (.whole i):=by intro i h;obtain⟨j,f⟩:=VD.1 h;grind
 have gvO:∀ {i k:Nat},np<=k->bs[k]? = some (.whole i)->i∈given (bs.drop np):=by intro i k hk h;refine VD.2 ⟨k-np,?_⟩;grind
 have S:∀ {j i:Nat},ids[j]? = some i->(∃ o,H[i]? = some o)/\((bs.take np)[j]? = some (.whole i)\/((∀ (id:Nat),(bs.take np)[j]?≠some (.whole id))/\H[i]? = some .free/\fzR.getD i false=false)):=by
  intro j i f;rcases iE hok f with h|⟨M,N⟩
  grind;obtain⟨h3,h4⟩:=B8 N;grind
 have gvN:∀ {i:Nat},i∈ids->i∉given (bs.drop np):=by
  intro i hi g;obtain⟨j,f⟩:=AXw hi;obtain⟨k,hk,u⟩:=gvI g;rcases(S f).2 with h|⟨_,h,_⟩
  grind;obtain⟨o,M,N,_⟩:=Fm (O k i u);grind
 have hunf:∀ {j i:Nat},ids[j]? = some i->∀ {d:Ob},H1[j]? = some d->∀ {T:TypeId} {t:Ty} {xs:List t.den},d = .arr T t xs->fzR.getD i false=false:=by
  intro j i f d a T t xs V;rcases(S f).2 with h|⟨_,_,h⟩
  obtain⟨o,o2,n,_,Y,hs,_⟩:=pin j i h;rw[a]at Y;cases Y;subst V;have N:=pinR (O j i (tk h).2);simp only[owned,Cn]at N;rw[n]at N;cases o<;>simp only[sameShape]at hs;exact N;omega
 have hwhole:∀ {j id:Nat},(bs.take np)[j]? = some (.whole id)->ids[j]? = some id:=by
  intro j id u;obtain⟨o,d,_,_,a,_⟩:=pin j id u;have hl:=BU a;rw[<- hlen]at hl;have g:ids[j]? = some ids[j]:=AWC hl;rcases iE hok g with h|⟨h,_⟩
  all_goals grind
 have hgv:∀ {i:Nat},i∈given (bs.drop np)->(D7 (given (bs.drop np)) H)[i]? = some .dead:=by intro i hi;obtain⟨k,_,u⟩:=gvI hi;obtain⟨o,n,_⟩:=Fm (O k i u);exact AGq hi (BU n)
 have y:∀ {j i:Nat} {d:Ob},ids[j]? = some i->H1[j]? = some d->(Bs (ids.zip (H1.map (ET ids))) (D7 (given (bs.drop np)) H))[i]? = some (ET ids d):=by intro j i d f a;obtain⟨⟨o,n⟩,_⟩:=S f;exact pW ids _ _ j hnd f (by grind) (by rw[ah];grind)
 have Z:∀ {i:Nat},i∉ids->(Bs (ids.zip (H1.map (ET ids))) (D7 (given (bs.drop np)) H))[i]? = (D7 (given (bs.drop np)) H)[i]? := by intro i hi;exact CP _ _ fun p hp=>by rintro rfl;exact hi (List.of_mem_zip hp).1
 have q:∀ {i:Nat},i∉ids->i∉given (bs.drop np)->(Bs (ids.zip (H1.map (ET ids))) (D7 (given (bs.drop np)) H))[i]? = H[i]? := by intro i hi g;rw[Z hi,af g]
 have getGv:∀ {i:Nat},i∈given (bs.drop np)->(Bs (ids.zip (H1.map (ET ids))) (D7 (given (bs.drop np)) H))[i]? = some .dead:=by grind
 have mIn:∀ {j i:Nat},ids[j]? = some i->mOf ids m3 m i=m3 j:=by intro j i f;simp only[mOf];rw[AHc hnd f]
 have A:∀ {x:Ix},x.id∉ids->mOf ids m3 m x=m x:=by
  intro x hi;cases x with
   |r i k=>rfl
   |o i=>
    simp only[mOf];cases hf:Kf ids i with
     |none=>rfl
     |some j=>exact absurd (AWA (Wu hf)) hi
 have z:∀ i:Nat,(∃ j:Nat,ids[j]? = some i)\/i∈given (bs.drop np)\/(i∉ids/\i∉given (bs.drop np)):=by intro i;by_cases h:i∈ids;obtain⟨j,f⟩:=AXw h;grind;grind
 have notGv:∀ {i:Ix},i.id∈given (bs.drop np)->¬ owned (Bs (ids.zip (H1.map (ET ids))) (D7 (given (bs.drop np)) H)) fzR i:=by intro i g n;obtain⟨o,M,_,h3⟩:=D6 n;grind
 have I:∀ {j i:Nat},ids[j]? = some i->∃ d,H1[j]? = some d:=by grind
 have plR:∀ {d:Ob},CA d=true->CA (ET ids d)=true:=by intro d h;cases d<;>first|exact h|rfl
 have cls:∀ x:Ix,owned (Bs (ids.zip (H1.map (ET ids))) (D7 (given (bs.drop np)) H)) fzR x->(∃ i j:Nat,∃ d,x = .o i/\ids[j]? = some i/\H1[j]? = some d)\/(x.id∉ids/\x.id∉given (bs.drop np)):=by
  intro x hx;rcases z x.id with⟨j,f⟩|g|h;obtain⟨d,a⟩:=I f;cases x with
   |o i=>exact .inl ⟨i,j,d,rfl,f,a⟩
   |r i k=>exact absurd hx (Fk (y f a) (plR (pl1 j d a)))
  all_goals grind
 have J:∀ {j:Nat} {d:Ob},H1[j]? = some d->owned H1 fz1 j:=fun h=>aE h (al1 _ _ h) (fr1 _);have blkNe:∀ {i b c:Nat},i∉ids->i∉given (bs.drop np)->(∃ o,H[i]? = some o/\o≠.free/\o≠.dead)->m i=some (b,c)->∀ {j id c':Nat},bs[j]? = some (.whole id)->m id≠some (b,c'):=by
  intro i b c hi g ⟨o,n,M,N⟩ K j id c' u V;have hp:=O j id u;have hne:i≠id:=by grind
  exact gA.2.ne hp V n M N K hne rfl
 have Q:DJ H (Bs (ids.zip (H1.map (ET ids))) (D7 (given (bs.drop np)) H)) m (mOf ids m3 m):=by
  intro i o n hf;rcases z i with⟨j,f⟩|g|⟨hi,g⟩
  rcases(S f).2 with h|⟨_,h,_⟩
  obtain⟨o',d,ho',ha,a,hs,K⟩:=pin j i h;rw[n]at ho';cases ho';exact .inr ⟨(uL ha).2,_,y f a,dX hs,by grind,fun _ _ _=>rfl⟩;grind;grind;rcases DJ.refl H m i o n hf with h|⟨hd,o',M,N,_⟩
  grind;exact .inr ⟨hd,o',by grind,N,A (x:=.o i) hi,fun _ _ _=>rfl⟩
 have C:uR ids H1 (Bs (ids.zip (H1.map (ET ids))) (D7 (given (bs.drop np)) H)) m3 (mOf ids m3 m):=by intro j o n;grind
 have hkeepF:∀ b,FB b->w'.heap[b]? = w.heap[b]? := by intro b u;refine keep b (P.lt b u) fun j id c f V => ?_;exact gA.2.off id b c (O j id f) V (hB2 b u)
 have R:∀ k,F k->w'.heap[k]? = w.heap[k]? := fun k ha=>hkeepF _ (X _ ha);have D:∀ {i:Ix},i.id∉ids->i.id∉given (bs.drop np)->owned (Bs (ids.zip (H1.map (ET ids))) (D7 (given (bs.drop np)) H)) fzR i->owned H fzR i:=by intro i hi g h;exact(Db (q hi g)).1 h
 have blkNe':∀ {x:Ix} {b c:Nat},x.id∉ids->x.id∉given (bs.drop np)->owned H fzR x->m x=some (b,c)->∀ {j id c':Nat},bs[j]? = some (.whole id)->m id≠some (b,c'):=by
  intro x b c hi g n K j id c' u V;cases x with
   |o i=>exact blkNe hi g (Fm n) K u V
   |r i k=>exact gA.2.neX (O j id u) V n.there K (by simp) rfl
 have bOut:∀ {x:Ix} {b c:Nat},x.id∉ids->x.id∉given (bs.drop np)->owned H fzR x->m x=some (b,c)->∀ {j:Nat} {d:Ob} {c':Nat},H1[j]? = some d->m3 j≠some (b,c'):=by intro x b c hi g n K j d c' a V;rcases blk j b c' (J a) V with⟨id,c2,u,hm2⟩|⟨k,id,c2,_,u,hm2⟩|hge;grind;grind;have:=P.JS n K;omega
 refine⟨⟨⟨os,tape,output,size,fun b u hn=>keep b u fun j id c f V => ?_,fun b h=>U b (X b h),?_,?_,Q⟩,⟨?_,?_,?_,?_,?_,?_,?_,hiC.glo.mono R (fun b h=>U b (X b h)),?_⟩⟩,C⟩;grind
 ·-- what is frozen
  intro b u;rcases hR with⟨G,_,_⟩|⟨G,_⟩
  grind;·rw[G]at u;rcases bnd b u with h|⟨j,id,c,M,N⟩|h;exact gA.1.bnd b h;all_goals grind
 intro i b c n K;rcases cls i n with⟨i,j,d,rfl,f,a⟩|⟨hi,g⟩
 rw[mIn f]at K;rcases blk j b c (J a) K with⟨id,c',M,N⟩|⟨k,id,c',_,M,N⟩|h;grind;grind;omega;grind;-- objects
 intro i o n;rcases z i with⟨j,f⟩|g|⟨hi,g⟩
 obtain⟨d,a⟩:=I f;rw[y f a]at n;cases n;rw[mIn f];have L:=hi1.obj j d a;cases d with
  |free=>trivial
  |dead=>trivial
  |box cs=>
   obtain⟨b,c,vs,T,a1,a2,a3,a4⟩:=L;refine⟨b,c,vs,T,a1,a2,BF.ren C cs ?_,a4⟩;rcases hR with⟨G,_,E⟩|⟨G,_⟩
   rw[AWU]at E;exact BF.flat cs (by simpa [N5]using E _ (AWA a)) a3;grind
  |arr T t xs=>
   rcases hR with⟨G,_,E⟩|⟨G,_⟩
   rw[AWU]at E;have hft:t.flat=true:=by simpa [N5]using E _ (AWA a)
   obtain⟨h0,M⟩:=L;refine⟨h0,?_⟩;cases hm3:m3 j with
    |none=>grind
    |some p=>obtain⟨b,cap⟩:=p;rw[hm3]at M;obtain⟨vs,row,a1,a2,a3,a4,a5,a6⟩:=M;exact⟨vs,row,a1,a2,a3,a4,B7 (fun x _ cs hx=>hx.flat t hft) a5,a6⟩
   rw[G];exact L
  |map k v es=>
   obtain⟨b,c,ms,clock,a1,a2,a3,a4⟩:=L;refine⟨b,c,ms,clock,a1,a2,?_,a4⟩;rcases hR with⟨G,_,E⟩|⟨G,_⟩
   rw[AWU]at E;have hft:k.flat=true/\v.flat=true:=by simpa [N5]using E _ (AWA a)
   exact AHg hft.1 hft.2 a3;grind
  |prs T tgt is=>
   simp only[ET];cases hm3:m3 j with
    |none=>rw[hm3]at L;exact L
    |some p=>
     obtain⟨b,cap⟩:=p;rw[hm3]at L;obtain⟨vs,us,a1,a2,a3,a4,a5,a6,a7⟩:=L;refine⟨vs,us,a1,a2,a3,a4,?_,a6,a7⟩;rw[<- AKj];refine BF.ren C _ ?_;rcases hR with⟨G,_,E⟩|⟨G,_⟩
     exact BF.flat _ (AHY tgt is) a5;grind
  |rows T e t xs ver out=>exact absurd (pl1 j _ a) (by simp[CA])
 rw[getGv g]at n;cases n;trivial;rw[q hi g]at n;rw[A (x:=.o i) hi];refine ObI.mono R (fun b h=>U b (X b h)) Q (fun M N b c K hlt=>keep b hlt fun j id c' f=>blkNe hi g ⟨o,n,M,N⟩ K f) (hiC.obj i o n);-- rows
 intro i;rcases z i with⟨j,f⟩|g|⟨hi,g⟩
 obtain⟨d,a⟩:=I f;exact C0.plain (y f a) (plR (pl1 j d a));exact C0.plain (getGv g) rfl
 refine C0.mono R (fun b h=>U b (X b h)) Q (q hi g) (fun x hx=>A (by grind))
  (fun x hx hox b c K hlt=>keep b hlt fun j id c' f V => ?_) (hiC.row i)
 refine gA.2.neX (O j id f) V hox K ?_ rfl;grind;intro i T e t xs ver out B hf x hx ht b c K;rcases z i with⟨j,f⟩|g|⟨hi,g⟩
 obtain⟨d,a⟩:=I f;rw[y f a]at B;have:=plR (pl1 j d a);rw[Option.some.inj B]at this;cases this;grind;rw[A (x:=x) (by grind)]at K;have M:=q hi g;exact U b (P.rfz i T e t xs ver out (M▸B) hf x hx ((DZ (by grind)).1 ht) b c K);-- apart
 intro i j b c b' c' hoi hoj hij s hmj;rcases cls i hoi with⟨i,k,d,rfl,hk,a⟩|⟨hi,hgi⟩
 rw[mIn hk]at s;rcases cls j hoj with⟨j,l,o2,rfl,hl,Y⟩|⟨f,hgj⟩
 rw[mIn hl]at hmj;have hkl:k≠l:=by grind
 exact hi1.sep k l b c b' c' (J a) (J Y) (AQw hkl) s hmj;grind;rw[A hi]at s;rcases cls j hoj with⟨j,l,o2,rfl,hl,Y⟩|⟨f,hgj⟩
 grind;rw[A f]at hmj;exact P.sep i j b c b' c' (D hi hgi hoi) (D f hgj hoj) hij s hmj;-- none of them frozen
 intro i b c hoi s u;rcases cls i hoi with⟨i,k,d,rfl,hk,a⟩|⟨hi,g⟩
 rw[mIn hk]at s;exact hi1.off k b c (J a) s (FR3 b u);rw[A hi]at s;have n:=D hi g hoi;rcases hR with⟨G,W,_⟩|⟨G,W⟩
 rw[G]at u;exact hiC.off i b c (ownR n) s u;rw[G]at u;rcases bnd b u with h|⟨j,id,c',M,N⟩|h;rw[W]at n;exact gA.2.off i b c n s h;grind;have:=P.JS n s;omega;intro i T t xs b c B hf s;rcases z i with⟨k,hk⟩|g|⟨hi,g⟩
 obtain⟨d,a⟩:=I hk;rw[y hk a]at B;have:d = .arr T t xs:=by cases d<;>simp only[ET,AV3]at B<;>first|exact B|cases B
 grind;grind;rw[q hi g]at B;rw[A (x:=.o i) hi]at s;exact U b (P.froz i T t xs b c B hf s);intro b u;exact hi1.lt b (FR3 b u);rw[WQ,ah];exact P.len
end
end Go.Pev
end
