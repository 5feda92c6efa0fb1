/- A part of the proofs of this seat: PevOps9 PevOps10 PevKeep PevPrs PevRows2 PevOps12 PevMore PevKeys PevKeys2 PevIface PevOps11 PevCode PevLocal PevDraw PevDraw2 PevDec PevDec2 PevFlow PevPan PevFlow2 PevCall PevCall2. -/
import Derived.Test.YtbnaceonlbiheaaGreatDoorPbd272bac42
import Derived.IntWalk
import Derived.Laws.StructEq
import Derived.Laws.BytesArg
import Derived.LoopN
import Derived.Scope
set_option linter.unusedVariables false
set_option linter.unusedSimpArgs false
set_option linter.unusedSectionVars false
set_option maxRecDepth 100000
section
namespace Go.Pev
open Go.RowKit
section
variable {P:Program} {E:Env}
theorem BO.kill{w:World}{F:Nat->Prop}{m:Mp}{H:List Ob}{fz:List Bool}(hi:HI w F m H fz){j:Nat}(s:owned H fz j):BO w F m H fz w F m (H.set j .dead) fz:=by
 obtain⟨I,z,A,B⟩:=FI s;have u:=BS z;have n:(H.set j .dead)[j]? = some .dead:=Bl u;have d:C8 H (H.set j .dead) m m:=by
  intro i x g p;by_cases a:i=j;grind
  ·rcases C8.refl H m i x g p with h|⟨hd,J,K,L,_⟩
   all_goals grind
 have f:∀ i:Ix,owned (H.set j .dead) fz i->owned H fz i:=fun i q=>by by_cases a:i.id=j;obtain⟨o,M,_,hd⟩:=Dr q;grind;exact(DM (Be a)).1 q
 refine⟨⟨rfl,rfl,rfl,ARo _,fun _ _ _=>rfl,fun _ h=>h,fun _ h=>.inl h,fun i b c r v=>.inl ⟨i,c,f i r,v⟩,d⟩,⟨?_,?_,?_,?_,?_,?_,hi.lt,hi.glo,by simpa using hi.len⟩⟩;intro id x g;by_cases a:id=j;subst a;rw[n]at g;cases g;trivial;rw[Be a]at g;exact ObI.mono (fun _ _=>rfl) (fun _ h=>h) d (fun _ _ _ _ _ _=>rfl) (hi.obj id x g);intro i;by_cases a:i=j;subst a;exact Cq.plain n rfl;exact Cq.mono (fun _ _=>rfl) (fun _ h=>h) d (Be a) (fun _ _=>rfl) (fun _ _ _ _ _ _ _=>rfl) (hi.row i);intro i T e t xs ver out l p x C D b c G;by_cases a:i=j;grind;rw[Be a]at l;exact hi.rfz i T e t xs ver out l p x C ((DK (by grind)).1 D) b c G;exact fun i k b c b' c' r v=>hi.sep i k b c b' c' (f i r) (f k v);exact fun i b c r=>hi.off i b c (f i r);intro i T t xs b c l p y;by_cases a:i=j;grind;rw[Be a]at l;exact hi.froz i T t xs b c l p y
theorem LG{H:List Ob}{fz:List Bool}{slot j:Nat}{o:Ob}(h:Bb H fz slot=true)(a:slot≠j):Bb (H.set j o) fz slot=true:=by unfold Bb at *;grind
theorem Co{w w':World}{ρc:Operand->Value}{o:Oper}{T:TypeId}{s x:Operand}{v n u:Value}(b:o.op = .call { callee:=.builtin .append,args:=#[s,x],argTypes:=#[T,T] })(d:ρc s=v)(e:ρc x=n)
  (a:(Builtin.append_ #[T,T] o.type #[v,n]).run P w = .ok u w'):(execOp ρc o).run P w = .ok (.value u) w':=by simp[execOp,b,resolve,invoke,builtin,d,e,a]
theorem HK{w:World}{T e ty:TypeId}{i:TypeInfo}(b:P.underlying T=some (.slice e))(hi:P.info? e=some i)(a:Option Addr){n cap:Nat}(d:n<=cap)(A:Option Addr)(c:Nat):
  (Builtin.append_ #[T,T] ty #[.slice a n cap,.slice A 0 c]).run P w = .ok (.slice a n cap) w:=by
 have f:(Builtin.firstCells i.size 0 (.slice A 0 c)).run P w = .ok #[] w:=by
  cases A with
   |none=>simp[Builtin.firstCells]
   |some ad=>simp[Builtin.firstCells,Go.loadCells,loadCellsFrom]
 cases a with
  |none=>simp[Builtin.append_,run_underlying b,run_sizeOf hi,Builtin.lenOf,d,f]
  |some ad=>simp[Builtin.append_,run_underlying b,run_sizeOf hi,Builtin.lenOf,d,f,storeCells]
structure ARg(w:World)(a:Option Addr)(n cap:Nat)(e:TypeId)(sz:Nat)(m:Nat)(old news:List Value)(v:Value)(w':World):Prop where
 os:w'.os=w.os
 tape:w'.tape=w.tape
 output:w'.output=w.output
 size:w.heap.size<=w'.heap.size
 keep:∀ k,k<w.heap.size->(∀ b,a=some ⟨b,0,none⟩->k≠b)->w'.heap[k]? = w.heap[k]?
 res:(m=0/\v = .slice a n cap/\w'=w)\/(∃ g cap' vs,v = .slice (some ⟨g,0,none⟩) (n+m) cap'/\w'.heap[g]? = some (.cells vs e (0,0))/\n+m<=cap'/\cap'<=maxLen/\vs.size=cap'*sz /\
   vs.toList.take ((n+m)*sz)=old++news/\(w.heap.size<=g\/a=some ⟨g,0,none⟩))
theorem O'{w:World}{T e ty:TypeId}{i:TypeInfo}{z:Value}(F:P.underlying T=some (.slice e))(hi:P.info? e=some i)(H:i.zero=some z)(t:z.cells.size=i.size)(x:0<i.size)
  {b n cap:Nat} {vs:Array Value} (I:w.heap[b]? = some (.cells vs e (0,0))) (G:n<=cap) (f:cap<=maxLen) (y:vs.size=cap*i.size) {A:Option Addr} {m c:Nat} {news:List Value} (J:news.length=m*i.size)
  (X:0<m->A.isSome=true) (d:∀ ad,A=some ad->∀ j u,news[j]? = some u->w.cell? (ad.add j)=some u) (K:∀ u∈news,u.oneCell'=true) (l:n+m<=4294967296) (B:i.bytes<=1024) :
  ∃ v w',(Builtin.append_ #[T,T] ty #[.slice (some ⟨b,0,none⟩) n cap,.slice A m c]).run P w = .ok v w'/\ARg w (some ⟨b,0,none⟩) n cap e i.size m (vs.toList.take (n*i.size)) news v w':=by
 have a:(n+m)*i.bytes<=140737488355328:=ASz (ATo l B) (by omega);have o:w.ownsRow 0 e i.size (.slice (some ⟨b,0,none⟩) n cap) n (vs.toList.take (n*i.size)):=by refine⟨?_,.inr ⟨b,cap,vs,rfl,ATX _,I,G,f,y,rfl⟩⟩;simp_all
 cases A with
  |none=>
   have L:m=0:=by grind
   subst L;exact⟨_,w,HK F hi _ G none c,rfl,rfl,rfl,ARo _,fun _ _ _=>rfl,.inl ⟨rfl,rfl,rfl⟩⟩
  |some ad=>
   obtain⟨M,w',p,⟨N,q⟩,r,_,C⟩:=run_append_own_at (P:=P) w 0 T ty e i z i.size i.bytes F hi H rfl rfl t x _ n _ o ad m c news J (d ad rfl) K (by simp only[maxLen];omega) a (ATX _);refine⟨M,w',p,r.os,r.tape,r.output,r.size,fun k O Q=>r.block k O (by simp[Value.ownBlock];grind),.inr ?_⟩;rcases q with⟨rfl,Y⟩|⟨g,s,D,rfl,_,R,S,U,V,W⟩
   grind;refine⟨g,s,D,rfl,R,S,U,V,W,?_⟩;rcases C with h|h;simp only[Value.ownBlock,ARi]at h;grind;simp only[Value.ownBlock,ARi]at h;omega
theorem Jg{w:World}{T e ty:TypeId}{i:TypeInfo}{z:Value}(q:P.underlying T=some (.slice e))(hi:P.info? e=some i)(F:i.zero=some z)(r:z.cells.size=i.size)
  (a:Option Addr) {A:Option Addr} {m c:Nat} {news:List Value} (s:news.length=m*i.size)
  (G:0<m->A.isSome=true) (f:∀ ad,A=some ad->∀ j u,news[j]? = some u->w.cell? (ad.add j)=some u) (g:m<=4294967296) (t:i.bytes<=1024) :
  ∃ v w',(Builtin.append_ #[T,T] ty #[.slice a 0 0,.slice A m c]).run P w = .ok v w'/\w'.os=w.os/\w'.tape=w.tape/\w'.output=w.output/\w.heap.size<=w'.heap.size/\(∀ k,k<w.heap.size->w'.heap[k]? = w.heap[k]?) /\
   ((m=0/\v = .slice a 0 0)\/(∃ d vs,v = .slice (some ⟨w.heap.size,0,none⟩) m d/\w'.heap[w.heap.size]? = some (.cells vs e (0,0))/\m<=d/\d<=maxLen/\vs.size=d*i.size/\vs.toList.take (m*i.size)=news)):=by
 rcases ATG m with l|l;subst l;exact⟨_,w,HK q hi a (ARo _) A c,rfl,rfl,rfl,ARo _,fun _ _=>rfl,.inl ⟨rfl,rfl⟩⟩;obtain⟨ad,rfl⟩:=ASd.1 (G l);have x:m*i.bytes<=281474976710656:=ASz (ATo g t) (by omega);have n:=grownCap_ge w m 0 e;have o:=grownCap_le_maxLen w m 0 e (by simp only[maxLen];omega);have fin:∀ vs:Array Value,vs.toList=news++(Builtin.zeroCells z.cells (grownCap w m 0 e-m)).toList->vs.size=grownCap w m 0 e*i.size/\vs.toList.take (m*i.size)=news:=by intro vs y;refine⟨?_,?_⟩;rw[<- ARz,y,AR7,s,ARz,size_zeroCells,r,<- ASp];grind;grind
 cases a with
  |none=>have p:=run_append_nil (P:=P) w T ty e i z q hi F ad m c news s (f ad rfl) l (by omega) x;obtain⟨B,C⟩:=fin (news.toArray++Builtin.zeroCells z.cells (grownCap w m 0 e-m)) (by simp);exact⟨_,_,p,rfl,rfl,rfl,by simp,fun k D=>heap_alloc_old w.drew _ k D,.inr ⟨_,_,rfl,heap_alloc_new w.drew _,n,o,B,C⟩⟩
  |some b=>
   have p:=run_append_grow (P:=P) w T ty e i z q hi F b 0 0 [] (by simp) (fun j v h=>by simp at h) ad m c news s (f ad rfl) (by omega) (by omega) (by rw[ASP];have:Builtin.nextslicecap m 0=m:=nextslicecap_zero l;grind)
   simp only[ASP]at p;obtain⟨B,C⟩:=fin (([]:List Value).toArray++news.toArray++Builtin.zeroCells z.cells (grownCap w m 0 e-m)) (by simp);exact⟨_,_,p,rfl,rfl,rfl,by simp,fun k D=>heap_alloc_old w.drew _ k D,.inr ⟨_,_,rfl,heap_alloc_new w.drew _,n,o,B,C⟩⟩
end
section
variable {P:Program} {E:Env}
theorem gL{H:List Ob}{fz:List Bool}{slot id:Nat}{T:TypeId}{t:Ty}{xs:List t.den}(b:Bb H fz slot=true)(a:H[id]? = some (.arr T t xs)):slot≠id:=by rintro rfl;rw[(B7 b).1]at a;cases a
theorem Fq{w:World}{F:Nat->Prop}{m:Mp}{H:List Ob}{fz:List Bool}(hi:HI w F m H fz){slot:Nat}(s:Bb H fz slot=true){T e ty:TypeId}{t:Ty}{i:TypeInfo}{z:Value}(K:P.underlying T=some (.slice e))
  (p:P.info? e=some i) (L:i.zero=some z) (q:z.cells.size=i.size) (M:i.size=t.size) (d:0<t.size) (r:i.bytes<=1024) {ys:List t.den} (k:ys.length<=4294967296) (a:Option Addr)
  {A:Option Addr} {c:Nat} {news:List Value} (N:ys≠[]->A.isSome=true) (b:rows (Dat w F t) ys news) (g:∀ ad,A=some ad->∀ j u,news[j]? = some u->w.cell? (ad.add j)=some u) :
  ∃ v w' l,(Builtin.append_ #[T,T] ty #[.slice a 0 0,.slice A ys.length c]).run P w = .ok v w'/\BO w F m H fz w' F l (H.set slot (.arr e t ys)) fz/\Rep w' F l (H.set slot (.arr e t ys)) (.own slot) v:=by
 have O:=fun(x:t.den) cs (h:Dat w F t x cs)=>Dat.length t h;have X:=Bv O b;obtain⟨v,w',n,y,B,C,D,G,Q⟩:=Jg (P:=P) (w:=w) (ty:=ty) K p L q a (A:=A) (m:=ys.length) (c:=c) (news:=news) (by grind) (fun h=>N (by grind)) g k r;rcases Q with⟨R,rfl⟩|⟨I,vs,rfl,S,U,V,Y,Z⟩
 have W:ys=[]:=ASB R;subst W;have o:=BO.grow hi y B C D G;obtain⟨l,J,f⟩:=EP o.2 s e d a;exact⟨_,w',l,n,o.trans J,f⟩;obtain⟨l,J,f⟩:=Fc hi s d S y B C D G U V (by grind) b (by grind);grind
theorem oA{w:World}{F:Nat->Prop}{m:Mp}{H:List Ob}{fz:List Bool}(hi:HI w F m H fz){slot:Nat}(J:Bb H fz slot=true){T e ty:TypeId}{t:Ty}{i:TypeInfo}{z:Value}(K:P.underlying T=some (.slice e))
  (n:P.info? e=some i) (L:i.zero=some z) (o:z.cells.size=i.size) (p:i.size=t.size) (k:0<t.size) (q:i.bytes<=1024) {xs ys:List t.den} (r:xs.length+ys.length<=4294967296) (y:ys≠[])
  {s:Value} (M:Rep w F m H (.clip t xs) s) {A:Option Addr} {c:Nat} {news:List Value} (N:ys≠[]->A.isSome=true) (d:rows (Dat w F t) ys news) (f:∀ ad,A=some ad->∀ j u,news[j]? = some u->w.cell? (ad.add j)=some u) :
  ∃ v w' C,(Builtin.append_ #[T,T] ty #[s,.slice A ys.length c]).run P w = .ok v w'/\BO w F m H fz w' F C (H.set slot (.arr e t (xs++ys))) fz/\Rep w' F C (H.set slot (.arr e t (xs++ys))) (.own slot) v:=by
 have O:=fun(x:t.den) cs (h:Dat w F t x cs)=>Dat.length t h;unfold Rep at M;obtain⟨⟨a0,Q,R,_,X⟩,a,rfl⟩:=M;simp only[AR5,Value.slice.injEq,ATq]at R;obtain⟨rfl, -, -⟩:=R;by_cases S:xs=[]
 subst S;exact Fq hi J K n L o p k q (by omega) a N d f;obtain⟨ad,l,rfl,hF,B,D⟩:=X S;obtain⟨U,rfl⟩:=ASd.1 (N y);have Y:=Bv O d;have G:=Bv O B;have Z:0<ys.length:=ATu.2 y;have g:(xs.length+ys.length)*i.bytes<=140737488355328:=ASz (ATo r q) (by omega);have hr:=run_append_grow (P:=P) w T ty e i z K n L ad xs.length xs.length l (by grind) D U ys.length c news (by grind) (f U rfl) (by omega) (by omega) (growslice_fits (by omega) g);have hge:=grownCap_ge w (xs.length+ys.length) xs.length e;have I:=grownCap_le_maxLen w (xs.length+ys.length) xs.length e (by simp only[maxLen];omega);have V:(l++news).length=(xs.length+ys.length)*t.size:=by grind
 obtain⟨C,hg,W⟩:=Fc hi J (w':=w.drew.alloc (.cells (l.toArray++news.toArray++Builtin.zeroCells z.cells (grownCap w (xs.length+ys.length) xs.length e-(xs.length+ys.length))) e)) k (xs:=xs++ys) (heap_alloc_new w.drew _) rfl rfl rfl (by simp) (fun b hb=>heap_alloc_old w.drew _ b hb)
  (cap:=grownCap w (xs.length+ys.length) xs.length e) (by grind) I (by
   rw[Array.size_append,Array.size_append,ASl,ASl,size_zeroCells,o,p,G,Y,<- ASp,<- ASp];grind) (IV B d) (by
   grind)
 grind
theorem TP{w:World}{F:Nat->Prop}{m:Mp}{H:List Ob}{fz:List Bool}(hi:HI w F m H fz){slot:Nat}(V:Bb H fz slot=true){T e ty:TypeId}{t:Ty}{i:TypeInfo}{z:Value}(K:P.underlying T=some (.slice e))
  (L:P.info? e=some i) (hz:i.zero=some z) (M:z.cells.size=i.size) (N:i.size=t.size) (s:0<t.size) (O:i.bytes<=1024) {id:Nat} {xs:List t.den} (Q:H[id]? = some (.arr e t xs)) (y:BG fz id=true)
  {b cap:Nat} (hm:m id=some (b,cap)) {n:Nat} (hn:n<=xs.length) {ys:List t.den} (B:n+ys.length<=4294967296)
  {A:Option Addr} {c:Nat} {news:List Value} (hA:ys≠[]->A.isSome=true) (f:rows (Dat w F t) ys news) (o:∀ ad,A=some ad->∀ j u,news[j]? = some u->w.cell? (ad.add j)=some u) :
  ∃ v w' r,(Builtin.append_ #[T,T] ty #[.slice (some ⟨b,0,none⟩) n cap,.slice A ys.length c]).run P w = .ok v w' /\
   BO w F m H fz w' F r ((H.set id .dead).set slot (.arr e t (xs.take n++ys))) fz/\Rep w' F r ((H.set id .dead).set slot (.arr e t (xs.take n++ys))) (.own slot) v:=by
 have C:=fun(x:t.den) cs (h:Dat w F t x cs)=>Dat.length t h;have hl:=Bv C f;obtain⟨_,D⟩:=hi.obj id _ Q;rw[hm]at D;obtain⟨vs,p,W,e2,X,e4,Y,e6⟩:=D;have R:=Bv C Y;have G:vs.toList.take (n*i.size)=p.take (n*t.size):=by rw[<- e6,AT7,N,AS7 (by rw[R];exact ASS _ hn)]
 obtain⟨v,w',Z,d⟩:=O' (P:=P) (w:=w) (ty:=ty) K L hz M (by omega) W (n:=n) (by omega) X (by grind) (A:=A) (m:=ys.length) (c:=c) (news:=news) (by grind) (fun h=>hA (by grind)) o
  (fun u K=>Ph (fun x cs (h:Dat w F t x cs)=>Dat.Hc t h) f u K) B O
 rw[G]at d;have I:(xs.take n++ys).length=n+ys.length:=by grind
 have S:=IV (Ea C n Y) f;have q:∀ k,F k->w'.heap[k]? = w.heap[k]? := fun k ha=>by
  have h1:k≠b:=by rintro h;exact hi.off id b cap (C7 Q y) hm (h▸ha)
  exact d.keep _ (hi.lt _ ha) (fun b' h=>by grind)
 have hlts:=BS (B7 V).1;have U:((H.set id .dead).set slot (.arr e t (xs.take n++ys)))[slot]? = some (.arr e t (xs.take n++ys)):=Bl (by grind)
 have J:∀ (g a:Nat) (l:Array Value),(w.heap.size<=g\/g=b)->w'.heap[g]? = some (.cells l e (0,0))->n+ys.length<=a->a<=maxLen->l.size=a*t.size->l.toList.take ((n+ys.length)*t.size)=p.take (n*t.size)++news ->
   ∃ r,BO w F m H fz w' F r ((H.set id .dead).set slot (.arr e t (xs.take n++ys))) fz/\Rep w' F r ((H.set id .dead).set slot (.arr e t (xs.take n++ys))) (.own slot) (.slice (some ⟨g,0,none⟩) (n+ys.length) a):=by
  intro g a l hg q1 q2 q3 q4 q5
  have:=BO.move (w':=w') hi (C7 Q y) hm V (ob:=.arr e t (xs.take n++ys)) trivial (b':=g) (c':=a) hg.symm d.os d.tape d.output d.size (fun k C hne=>d.keep k C (fun b' h=>by grind))
   (fun _=>⟨s,l,p.take (n*t.size)++news,q1,by omega,q3,q4,B6 (fun x _ cs hx=>hx.mono q (fun _ h=>h) t) S,by
    grind⟩)
  refine⟨_,this,?_⟩
  unfold Rep
  rw[U,BW,<- I]
  rfl
 rcases d.res with⟨h0,rfl,rfl⟩|⟨g,a,l,rfl,q1,q2,q3,q4,q5,q6⟩
 have hy:ys=[]:=ASB h0;subst hy;obtain⟨r,hg,hrep⟩:=J b cap vs (.inr rfl) W (by omega) X e4 (by simp_all)
 grind;grind
theorem gT{w w':World}{ρc:Operand->Value}{o:Oper}{T d:TypeId}{s x:Operand}{v n u:Value}(b:o.op = .call { callee:=.builtin .append,args:=#[s,x],argTypes:=#[T,d] })(e:ρc s=v)(f:ρc x=n)
  (a:(Builtin.append_ #[T,d] o.type #[v,n]).run P w = .ok u w'):(execOp ρc o).run P w = .ok (.value u) w':=by simp[execOp,b,resolve,invoke,builtin,e,f,a]
theorem n8{w:World}{F:Nat->Prop}{m:Mp}{H:List Ob}{fz:List Bool}(hi:HI w F m H fz){slot:Nat}(J:Bb H fz slot=true){T r e ty:TypeId}{t:Ty}{i:TypeInfo}{z:Value}(K:P.underlying T=some (.slice e))
  (d:P.info? e=some i) (Q:i.zero=some z) (s:Ck (zeroCells t) z.cells.toList=true) (R:i.size=t.size) (c:0<t.size) (u:i.bytes<=1024) {S kx:IntKind} (L:P.underlying r=some (.int S)) {n:Nat} (f:n<=4294967296) :
  ∃ v w' g,(Builtin.append_ #[T,r] ty #[.slice none 0 0,.int kx n]).run P w = .ok v w'/\BO w F m H fz w' F g (H.set slot (.arr e t (List.replicate n t.zero))) fz/\Rep w' F g (H.set slot (.arr e t (List.replicate n t.zero))) (.own slot) v:=by
 have j:=CN (w:=w) (F:=F) t _ s;have y:z.cells.size=t.size:=by rw[<- ARz];exact Dat.length t j
 have M:IntKind.i64.wrap (n:Int)=n:=IntWalk.i64_in _ (by omega);have U:(n:Int)*(i.bytes:Int)<=281474976710656:=by have:n*i.bytes<=4294967296*1024:=ATo f u;omega
 rcases ATG n with A|A;subst A;obtain⟨g,V,l⟩:=EP (w:=w) hi J e c none;refine⟨.slice none 0 0,w,g,?_,by grind,by grind⟩;have B:IntKind.i64.wrap 0=0:=M;simp[Builtin.append_,run_underlying K,run_underlying L,sizeOf,typeInfo,d,asInt,asIntOf,B];have W:=grownCap_ge w n 0 e;have C:=grownCap_le_maxLen w n 0 e (by simp only[maxLen];omega);have a:=FU (w:=w) (F:=F) j n;have D:=Bv (fun x cs (h:Dat w F t x cs)=>Dat.length t h) a;rw[ASw]at D;have q:∀ k,(Builtin.zeroCells z.cells k).toList=(List.replicate k z.cells.toList).flatten:=Df z.cells;have N:(Builtin.append_ #[T,r] ty #[.slice none 0 0,.int kx n]).run P w = .ok (.slice (some ⟨w.heap.size,0,none⟩) n (grownCap w n 0 e)) (w.drew.alloc (.cells (Builtin.zeroCells z.cells n++Builtin.zeroCells z.cells (grownCap w n 0 e-n)) e)):=by
  have X:n≠0:=by omega
  have G:¬ ((n:Int)<0):=by omega
  have I:¬ (281474976710656<(n:Int)*(i.bytes:Int)):=by omega
  have o:¬ (9223372036854775807<(n:Int)):=by omega
  have p:¬ (281474976710656<Builtin.nextslicecap n 0*i.bytes):=by rw[nextslicecap_zero A];omega
  have O:¬ (i.size=0):=by omega
  simp[Builtin.append_,run_underlying K,run_underlying L,sizeOf,typeInfo,zeroValue,d,Q,asInt,asIntOf,M,X,G,I,o,p,Question.forced,run_firstCells_none,newRow,grownCap];grind
 obtain⟨g,V,l⟩:=Fc hi J (w':=w.drew.alloc (.cells (Builtin.zeroCells z.cells n++Builtin.zeroCells z.cells (grownCap w n 0 e-n)) e)) c (xs:=List.replicate n t.zero) (heap_alloc_new w.drew _) rfl rfl rfl (by simp) (fun b Y=>heap_alloc_old w.drew _ b Y)
  (cap:=grownCap w n 0 e) (by grind) C (by
   rw[Array.size_append,size_zeroCells,size_zeroCells,y,<- ASp];grind) a (by
   grind)
 grind
end
section
variable {P:Program}
theorem Nw{H:List Ob}{fz:List Bool}{ids:List Nat}{i:Ix}(h:owned H (BF ids fz) i):owned H fz i:=by
 cases i with
  |r i k=>simp only[owned]at *;split at h;rw[Bd]at h;grind;omega
  |o i=>
   simp only[owned,Cd]at *;cases a:H[i]? with
    |none=>grind
    |some o=>
     rw[a]at h;cases o with
      |free=>omega
      |dead=>omega
      |box cs=>trivial
      |map k v b=>trivial
      |prs T t c=>trivial
      |rows T e t xs ver out=>simp only at h |-;rw[Bd]at h;grind
      |arr T t xs=>simp only at h |-;rw[Bd]at h;grind
theorem cI{w w':World}{F:Nat->Prop}{m:Mp}{H:List Ob}{fz:List Bool}(hi:HI w F m H fz){id:Nat}{e:TypeId}{t:Ty}{xs:List t.den}(z:H[id]? = some (.arr e t xs))(A:BG fz id=true)
  (os:w'.os=w.os) (tape:w'.tape=w.tape) (output:w'.output=w.output) (size:w.heap.size<=w'.heap.size) (G:Nat->Prop)
  (M:∀ k,G k->k<w'.heap.size/\((∃ c,m id=some (k,c))\/w.heap.size<=k)) (X:∀ b c,m id=some (b,c)->G b)
  (d:∀ k,k<w.heap.size->(∀ c,m id≠some (k,c))->w'.heap[k]? = w.heap[k]?)
  (N:ObI w' (fun k=>F k\/G k) m H (.arr e t xs) (m id)):BO w F m H fz w' (fun k=>F k\/G k) m H (BF [id] fz):=by
 have g:=C7 z A;have a:∀ i:Ix,owned H (BF [id] fz) i->owned H fz i/\i≠.o id:=by
  intro i h;refine⟨Nw h,?_⟩;rintro rfl;simp only[owned,Cd]at h;rw[z]at h;simp only at h;rw[Bd]at h;have y:id<fz.length:=by rw[<- hi.len];grind
  grind
 have f:∀ k,F k->w'.heap[k]? = w.heap[k]? := fun k K=>d _ (hi.lt _ K) (fun c B=>hi.off id _ c g B K);refine⟨⟨os,tape,output,size,fun b C l=>d b C (fun c B=>l id c g B),fun _ h=>.inl h,?_,fun i b c q r=>.inl ⟨i,c,(a i q).1,r⟩,C8.refl H m⟩,⟨?_,?_,?_,?_,?_,?_,?_,hi.glo.mono f (fun _ h=>.inl h),by rw[Dq];exact hi.len⟩⟩;grind;intro j o L;by_cases D:j=id;grind;exact ObI.mono f (fun _ h=>.inl h) (C8.refl H m) (fun p hd b c y s=>d b s (fun c' n=>hi.ne g n L p hd y D rfl)) (hi.obj j o L);intro i;by_cases l:i=id;subst l;exact Cq.plain z rfl;exact Cq.mono f (fun _ h=>.inl h) (C8.refl H m) rfl (fun _ _=>rfl) (fun x E I b c y s=>d b s (fun c' n=>hi.neX g n I y (by rintro rfl;exact l E.symm) rfl)) (hi.row i);intro i O Q t' u ver out v p x E R b c S;have l:i≠id:=by grind
 rw[Bd]at p;simp only[ASY,ARl,ARm,AS2]at p;rcases p with p|⟨p,_⟩
 exact .inl (hi.rfz i O Q t' u ver out v p x E R b c S);omega;exact fun i j b c b' c' q r=>hi.sep i j b c b' c' (a i q).1 (a j r).1;rintro i b c q r (U|V);exact hi.off i b c (a i q).1 r U;rcases(M b V).2 with⟨c',n⟩|h;exact hi.sep i id b c b c' (a i q).1 g (a i q).2 r n rfl;have:=hi.Ie (a i q).1 r;omega;intro i T t' u b c v p J;by_cases W:i=id;grind;refine .inl (hi.froz i T t' u b c v ?_ J);rw[Bd]at p;grind;rintro b (h|h);exact ASm (hi.lt b h) size;grind
theorem AIn{w':World}{f:Nat->Prop}{m:Mp}{H:List Ob}{g cap:Nat}{vs:Array Value}{e:TypeId}{t:Ty}{c:List t.den}{a:List Value}(h:w'.heap[g]? = some (.cells vs e (0,0)))(l:vs.toList.take a.length=a)
  (b:rows (Dat w' f t) c a) (hle:c.length<=cap) (i:f g) {n:Nat} (k:n=c.length):Rep w' f m H (.data (.slice t) c) (.slice (some ⟨g,0,none⟩) n cap):=by
 subst k;unfold Rep;show Dat w' f (.slice t) c [_];refine⟨some ⟨g,0,none⟩,cap,rfl,hle,fun _=>⟨⟨g,0,none⟩,a,rfl,i,b,fun j u o => ?_⟩⟩;rw[Addr.add_lit,ASP];have d:vs.toList[j]? = some u:=by grind
 rw[ASa]at d;simp[World.cell?,h,d]
theorem n9{w:World}{F:Nat->Prop}{m:Mp}{H:List Ob}{fz:List Bool}(hi:HI w F m H fz){T e ty:TypeId}{t:Ty}{i:TypeInfo}{z:Value}(O:P.underlying T=some (.slice e))
  (E:P.info? e=some i) (hz:i.zero=some z) (hzs:z.cells.size=i.size) (hsz:i.size=t.size) (I:0<t.size) (Q:i.bytes<=1024) {id:Nat} {xs:List t.den} (R:H[id]? = some (.arr e t xs)) (K:BG fz id=true)
  {ys:List t.den} (S:xs.length+ys.length<=4294967296)
  {A:Option Addr} {c:Nat} {news:List Value} (hA:ys≠[]->A.isSome=true) (l:rows (Dat w F t) ys news) (o:∀ ad,A=some ad->∀ j u,news[j]? = some u->w.cell? (ad.add j)=some u)
  {s:Value} (L:Rep w F m H (.own id) s) :
  ∃ v w' F',(Builtin.append_ #[T,T] ty #[s,.slice A ys.length c]).run P w = .ok v w'/\BO w F m H fz w' F' m H (BF [id] fz)/\Rep w' F' m H (.data (.slice t) (xs++ys)) v:=by
 have y:=fun(x:t.den) cs (h:Dat w F t x cs)=>Dat.length t h;have hl:=Bv y l;have hid:=C7 R K;unfold Rep at L;rw[R]at L;have hob:=hi.obj id _ R;obtain⟨_,n⟩:=hob;cases U:m id with
  |none=>
   rw[U]at L n;obtain⟨a,rfl⟩:=L;simp only at n;subst n;obtain⟨v,w',V,h1,h2,h3,h4,W,h6⟩:=Jg (P:=P) (w:=w) (ty:=ty) O E hz hzs a (A:=A) (m:=ys.length) (c:=c) (news:=news) (by grind) (fun h=>hA (by grind)) o (by omega) Q;have hg:=cI (w':=w') hi R K h1 h2 h3 h4 (fun k=>k=w.heap.size/\k<w'.heap.size) (fun k y=>⟨y.2,.inr (ATZ y.1.symm)⟩) (fun b c h=>by grind) (fun k y _=>W k y) (by rw[U];exact⟨I,rfl⟩)
   refine⟨v,w',_,V,hg,?_⟩;rw[ASO];rcases h6 with⟨h0,rfl⟩|⟨r,vs,rfl,q1,q2,q3,q4,q5⟩
   have hy:ys=[]:=ASB h0;subst hy;unfold Rep;exact⟨a,0,rfl,ARo _,fun h=>absurd rfl h⟩;have d:∀ k,F k->w'.heap[k]? = w.heap[k]? := fun k ha=>W _ (hi.lt _ ha);exact AIn q1 (by grind) (B6 (fun x _ cs X=>X.mono d (fun _ h=>.inl h) t) l) q2 (.inr ⟨rfl,CF q1⟩) rfl
  |some p=>
   obtain⟨b,cap⟩:=p;rw[U]at L n;simp only[Bq]at L;obtain⟨vs,f,J,e2,e3,e4,e5,e6⟩:=n;subst L;have hrl:=Bv y e5;have Y:b<w.heap.size:=CF J;have hG:∀ (w':World),w.heap.size<=w'.heap.size->∀ k,(k=b\/(k=w.heap.size/\k<w'.heap.size))->k<w'.heap.size/\((∃ c,m id=some (k,c))\/w.heap.size<=k):=by grind
   have B:∀ (w':World) (C:Array Value),w'.os=w.os->w'.tape=w.tape->w'.output=w.output->w.heap.size<=w'.heap.size->(∀ k,k<w.heap.size->k≠b->w'.heap[k]? = w.heap[k]?)->w'.heap[b]? = some (.cells C e (0,0))->C.size=cap*t.size->C.toList.take f.length=f ->
     (∀ k,F k->w'.heap[k]? = w.heap[k]?)/\BO w F m H fz w' (fun k=>F k\/(k=b\/(k=w.heap.size/\k<w'.heap.size))) m H (BF [id] fz):=by
    intro w' C h1 h2 h3 h4 W h6 h7 h8
    have d:∀ k,F k->w'.heap[k]? = w.heap[k]? := fun k ha=>W _ (hi.lt _ ha) (by rintro h;exact hi.off id b cap hid U (h▸ha))
    refine⟨d,cI hi R K h1 h2 h3 h4 _ (hG w' h4) (fun b' c' h=>by grind) (fun k y hne=>W k y (by grind)) ?_⟩
    rw[U]
    exact⟨I,C,f,h6,e2,e3,h7,B6 (fun x _ cs X=>X.mono d (fun _ h=>.inl h) t) e5,h8⟩
   have hrr:=IV e5 l;have hlen:(f++news).length=(xs.length+ys.length)*t.size:=by grind
   have fin:∀ (w':World) (g r:Nat) (M:Array Value),(∀ k,F k->w'.heap[k]? = w.heap[k]?)->(g=b\/(g=w.heap.size/\g<w'.heap.size))->w'.heap[g]? = some (.cells M e (0,0))->xs.length+ys.length<=r->M.toList.take (f++news).length=f++news ->
     Rep w' (fun k=>F k\/(k=b\/(k=w.heap.size/\k<w'.heap.size))) m H (.data (.slice t) (xs++ys)) (.slice (some ⟨g,0,none⟩) (xs.length+ys.length) r):=by
    intro w' g r M d hg hgv hle htk
    exact AIn hgv htk (B6 (fun x _ cs X=>X.mono d (fun _ h=>.inl h) t) hrr) (by grind) (.inr hg) (by simp)
   cases A with
    |none=>
     have hy:ys=[]:=by grind
     subst hy;obtain⟨Z,D⟩:=B w vs rfl rfl rfl (ARo _) (fun _ _ _=>rfl) J e4 e6;have hn0:news=[]:=ASB (by grind);subst hn0;exact⟨_,w,_,HK O E _ e2 none c,D,fin w b cap vs Z (.inl rfl) J (by omega) (by grind)⟩
    |some ad=>
     have hone:∀ u∈news,u.oneCell'=true:=fun u O=>Ph (fun x cs (h:Dat w F t x cs)=>Dat.Hc t h) l u O;by_cases q:xs.length+ys.length<=cap;have hnl:news.length=ys.length*i.size:=by grind
     have hsum:xs.length*i.size+news.length<=vs.size:=by rw[hnl,e4,hsz,<- ASp];exact ASS _ q
     have hr:=run_append_room (P:=P) w T ty e i O E b xs.length cap vs J ad ys.length c news hnl (o ad rfl) hone q hsum;have hrow:vs.toList.take (xs.length*i.size)=f:=by grind
     rw[hrow]at hr;obtain⟨Z,D⟩:=B (w.setRow b (f++news++vs.toList.drop (xs.length*i.size+news.length)).toArray) (f++news++vs.toList.drop (xs.length*i.size+news.length)).toArray rfl rfl rfl (by simp) (fun k _ y=>setRow_other w b k _ y) (setRow_heap w b vs (f++news++vs.toList.drop (xs.length*i.size+news.length)).toArray e _ J) (by grind) (by simp)
     exact⟨_,_,_,hr,D,fin _ b cap _ Z (.inl rfl) (setRow_heap w b vs _ e _ J) q (by grind)⟩;have G:(xs.length+ys.length)*i.bytes<=140737488355328:=ASz (ATo S Q) (by omega);have N:∀ j u,f[j]? = some u->w.cell? ((⟨b,0,none⟩:Addr).add j)=some u:=fun j u hj=>by
      rw[Addr.add_lit,ASP];have hj':vs.toList[j]? = some u:=by grind
      rw[ASa]at hj';simp[World.cell?,J,hj']
     have hr:=run_append_grow (P:=P) w T ty e i z O E hz ⟨b,0,none⟩ xs.length cap f (by grind) N ad ys.length c news (by grind) (o ad rfl) (by omega) (by omega) (growslice_fits (by omega) G);obtain⟨Z,D⟩:=B (w.drew.alloc (.cells (f.toArray++news.toArray++Builtin.zeroCells z.cells (grownCap w (xs.length+ys.length) cap e-(xs.length+ys.length))) e)) vs rfl rfl rfl (by simp) (fun k y _=>heap_alloc_old w.drew _ k y) ((heap_alloc_old w.drew _ b Y).trans J) e4 e6;have hge:=grownCap_ge w (xs.length+ys.length) cap e;exact⟨_,_,_,hr,D,fin _ w.heap.size _ _ Z (.inr ⟨rfl,CF (heap_alloc_new w.drew _)⟩) (heap_alloc_new w.drew _) hge (by grind)⟩
end
section
variable {P:Program}
theorem AOC{w:World}{F:Nat->Prop}{m:Mp}{H:List Ob}{fz:List Bool}(hi:HI w F m H fz){id:Nat}{T:TypeId}{f:Nat}{g:List Int}(i:H[id]? = some (.prs T f g)){v:Value}(e:Rep w F m H (.own id) v):
  ∃ A c,v = .slice A g.length c/\(g≠[]->A.isSome=true)/\∃ us,BA w F m H (GD f g) us/\(∀ u∈us,u.oneCell'=true)/\∀ ad,A=some ad->∀ j u,us[j]? = some u->w.cell? (ad.add j)=some u:=by
 have d:=hi.obj id _ i;unfold Rep at e;rw[i]at e;cases k:m id with
  |none=>rw[k]at e d;obtain⟨a,rfl⟩:=e;have d:g=[]:=d;subst d;exact⟨a,0,rfl,fun h=>absurd rfl h,[],by show BA w F m H [] [];unfold BA;rfl,(by simp),fun _ _ j u h=>by simp at h⟩
  |some p=>obtain⟨b,cap⟩:=p;rw[k]at e d;simp only[Bq]at e;obtain⟨vs,us,l,q,r,s,n,o,t⟩:=d;refine⟨some ⟨b,0,none⟩,cap,e,fun _=>rfl,us,n,o,fun ad h j u x => ?_⟩;cases h;rw[Cx,Dw l];grind
theorem Ke{w:World}{F:Nat->Prop}{m:Mp}{H:List Ob}{fz:List Bool}(hi:HI w F m H fz){slot:Nat}(r:Bb H fz slot=true){T e ty:TypeId}{i:TypeInfo}{z:Value}(G:P.underlying T=some (.slice e))
  (p:P.info? e=some i) (I:i.zero=some z) (J:z.cells.size=1) (K:i.size=1) (q:i.bytes<=1024) {b:Nat} {ys:List Int} (g:ys.length<=4294967296) (a:Option Addr)
  {A:Option Addr} {c:Nat} {news:List Value} (L:ys≠[]->A.isSome=true) (s:BA w F m H (GD b ys) news) (k:∀ u∈news,u.oneCell'=true) (f:∀ ad,A=some ad->∀ j u,news[j]? = some u->w.cell? (ad.add j)=some u) :
  ∃ v w' l,(Builtin.append_ #[T,T] ty #[.slice a 0 0,.slice A ys.length c]).run P w = .ok v w'/\BO w F m H fz w' F l (H.set slot (.prs e b ys)) fz/\Rep w' F l (H.set slot (.prs e b ys)) (.own slot) v:=by
 have U:news.length=ys.length:=by rw[BY s,Xi]
 obtain⟨v,w',n,t,x,y,B,C,M⟩:=Jg (P:=P) (w:=w) (ty:=ty) G p I (by omega) a (A:=A) (m:=ys.length) (c:=c) (news:=news) (by grind) (fun h=>L (by grind)) f g q;rcases M with⟨N,rfl⟩|⟨D,vs,rfl,O,Q,R,V,W⟩
 have S:ys=[]:=ASB N;subst S;have o:=BO.grow hi t x y B C;obtain⟨l,E,d⟩:=aE o.2 r e b a;exact⟨_,w',l,n,o.trans E,d⟩;obtain⟨l,E,d⟩:=Qa hi r O t x y B C Q R (by grind) s k (by grind);grind
theorem T4{w:World}{F:Nat->Prop}{m:Mp}{H:List Ob}{fz:List Bool}(hi:HI w F m H fz){slot:Nat}(L:Bb H fz slot=true){T e ty:TypeId}{i:TypeInfo}{z:Value}(M:P.underlying T=some (.slice e))
  (D:P.info? e=some i) (Y:i.zero=some z) (Z:z.cells.size=1) (hsz:i.size=1) (E:i.bytes<=1024) {d id:Nat} {xs:List Int} (N:H[id]? = some (.prs e d xs))
  {b cap:Nat} (hm:m id=some (b,cap)) {ys:List Int} (s:xs.length+ys.length<=4294967296)
  {A:Option Addr} {c:Nat} {news:List Value} (hA:ys≠[]->A.isSome=true) (O:BA w F m H (GD d ys) news) (t:∀ u∈news,u.oneCell'=true) (o:∀ ad,A=some ad->∀ j u,news[j]? = some u->w.cell? (ad.add j)=some u) :
  ∃ v w' r,(Builtin.append_ #[T,T] ty #[.slice (some ⟨b,0,none⟩) xs.length cap,.slice A ys.length c]).run P w = .ok v w' /\
   BO w F m H fz w' F r ((H.set id .dead).set slot (.prs e d (xs++ys))) fz/\Rep w' F r ((H.set id .dead).set slot (.prs e d (xs++ys))) (.own slot) v:=by
 have hl:news.length=ys.length:=by rw[BY O,Xi]
 have x:=hi.obj id _ N;rw[hm]at x;obtain⟨vs,us,e1,e2,e3,e4,Q,e6,e7⟩:=x;have hul:us.length=xs.length:=by rw[BY Q,Xi]
 have y:vs.toList.take (xs.length*i.size)=us:=by grind
 obtain⟨v,w',R,f⟩:=O' (P:=P) (w:=w) (ty:=ty) M D Y (by omega) (by omega) e1 (n:=xs.length) e2 e3 (by grind) (A:=A) (m:=ys.length) (c:=c) (news:=news) (by grind) (fun h=>hA (by grind)) o
  t s E
 rw[y]at f;have B:(xs++ys).length=xs.length+ys.length:=AR7 ..;have G:BA w F m H (GD d (xs++ys)) (us++news):=by rw[AFg];exact HC Q O
 have p:∀ u∈us++news,u.oneCell'=true:=fun u M=>by grind
 have S:=BS (B7 L).1;have I:((H.set id .dead).set slot (.prs e d (xs++ys)))[slot]? = some (.prs e d (xs++ys)):=Bl (by grind);have hnl:(us++news).length=xs.length+ys.length:=by grind
 have C:∀ (g a:Nat) (l:Array Value),(w.heap.size<=g\/g=b)->w'.heap[g]? = some (.cells l e (0,0))->xs.length+ys.length<=a->a<=maxLen->l.size=a->l.toList.take (xs.length+ys.length)=us++news ->
   ∃ r,BO w F m H fz w' F r ((H.set id .dead).set slot (.prs e d (xs++ys))) fz/\Rep w' F r ((H.set id .dead).set slot (.prs e d (xs++ys))) (.own slot) (.slice (some ⟨g,0,none⟩) (xs.length+ys.length) a):=by
  intro g a l U J V K W q5
  have:=BO.move (w':=w') hi (cA N) hm L (ob:=.prs e d (xs++ys)) trivial (b':=g) (c':=a) U.symm f.os f.tape f.output f.size (fun k hk hne=>f.keep k hk (fun b' h=>by grind))
   (fun q=>⟨l,us++news,J,by omega,K,W,oG q G,p,by grind⟩)
  refine⟨_,this,?_⟩
  unfold Rep
  rw[I,BW,<- B]
  rfl
 rcases f.res with⟨h0,rfl,rfl⟩|⟨g,a,l,rfl,J,V,K,W,q5,q6⟩
 grind;obtain⟨r,U,X⟩:=C g a l (by grind) J V K (by grind) (by grind);grind
end
section
variable {P:Program}
theorem uo{w:World}{F:Nat->Prop}{m:Mp}{H:List Ob}{fz:List Bool}(hi:HI w F m H fz){T e ty:TypeId}{t:Ty}{i:TypeInfo}{z:Value}(hu:P.underlying T=some (.slice e))
  (V:P.info? e=some i) (hz:i.zero=some z) (W:z.cells.size=i.size) (hsz:i.size=t.size) (B:0<t.size) (X:i.bytes<=1024) {id k ver:Nat} {o:RK} {xs:List (List t.den)} (Y:H[id]? = some (.rows o e t xs ver none)) (Z:fz.getD id false=false)
  {v:Value} (hv:Rep w F m H (.rowp id k ver) v) {ys:List t.den} (N:(A5 xs k []).length+ys.length<=4294967296)
  {A:Option Addr} {c:Nat} {news:List Value} (hA:ys≠[]->A.isSome=true) (q:rows (Dat w F t) ys news) (G:∀ ad,A=some ad->∀ j u,news[j]? = some u->w.cell? (ad.add j)=some u) :
  ∃ O w' J,(Builtin.append_ #[T,T] ty #[v,.slice A ys.length c]).run P w = .ok O w'/\BO w F m H fz w' F J (H.set id (.rows o e t (o.put xs k (Bk (A5 xs k []) ys)) (ver+1) (some k))) fz /\
   Rep w' F J (H.set id (.rows o e t (o.put xs k (Bk (A5 xs k []) ys)) (ver+1) (some k))) (.rowp id k (ver+1)) O:=by
 have hk:=fun(x:t.den) cs (h:Dat w F t x cs)=>Dat.length t h
 have hl:=Bv hk q
 unfold Rep at hv
 rw[Y]at hv
 obtain⟨_,_,h7⟩:=hv
 obtain⟨s,Q,hzz,hnx,C,K,S,hle⟩:∃ (s:List t.den) (Q:Option (Nat×Nat)),A5 xs k []=s/\(xs[k]? = some s\/(o.JS=false/\k=xs.length))/\Bq (some (.arr 0 t s)) Q v/\ObI w F m H (.arr e t s) Q /\
   (∀ b c,Q=some (b,c)->owned H fz (.r id k)/\m (.r id k)=some (b,c))/\k<=xs.length:=by
  rcases h7 rfl with⟨s,E,R⟩|⟨h0,E,R⟩
  ·exact⟨s,m (.r id k),by unfold A5;grind,.inl E,R,(hi.row id o e t xs ver none Y k s E).1,fun b c h=>⟨Ri Y Z (IB E),h⟩,Nat.le_of_lt (IB E)⟩
  ·refine⟨[],none,?_,.inr ⟨h0,E⟩,⟨_,R⟩,⟨B,rfl⟩,(fun b c h=>by cases h),ATZ E⟩
   unfold A5
   grind
 rw[hzz]at N |-
 have hput:∀ y:List t.den,(o.put xs k y)[k]? = some y/\(∀ L,L≠k->(o.put xs k y)[L]? = xs[L]?)/\(o.JS=true->xs.length=(o.put xs k y).length)/\(xs.length=(o.put xs k y).length\/(o.JS=false/\k=xs.length/\(o.put xs k y).length=xs.length+1)):=by
  intro y
  have hlt:k<xs.length->((xs.set k y)[k]? = some y/\(∀ L,L≠k->(xs.set k y)[L]? = xs[L]?)/\(o.JS=true->xs.length=(xs.set k y).length)/\(xs.length=(xs.set k y).length\/(o.JS=false/\k=xs.length/\(xs.set k y).length=xs.length+1))):=fun h=>
   ⟨ATl h,fun L hk'=>ATL (ATY hk'),fun _=>List.length_set.symm,.inl List.length_set.symm⟩
  cases o with
  |arr T=>exact hlt (by rcases hnx with h|⟨h,_⟩;exact IB h;cases h)
  |map j ks=>
   simp only[RK.put,SH]
   grind
 have fin:∀ (w':World) (l:Option (Nat×Nat)) (O:Value),(∀ b c,l=some (b,c)->(∃ c0,Q=some (b,c0))\/w.heap.size<=b)->w'.os=w.os->w'.tape=w.tape->w'.output=w.output->w.heap.size<=w'.heap.size ->
   (∀ b,b<w.heap.size->(∀ c,Q≠some (b,c))->w'.heap[b]? = w.heap[b]?)->((∀ {d:t.den} {cs:List Value},Dat w F t d cs->Dat w' F t d cs)->ObI w' F m H (.arr e t (s++ys)) l)->Bq (some (.arr e t (s++ys))) l O ->
   ∃ J,BO w F m H fz w' F J (H.set id (.rows o e t (o.put xs k (Bk s ys)) (ver+1) (some k))) fz/\Rep w' F J (H.set id (.rows o e t (o.put xs k (Bk s ys)) (ver+1) (some k))) (.rowp id k (ver+1)) O:=by
  intro w' l O hl' E R h3 h4 h5 h6 h8
  obtain⟨p1,p2,p3,p4⟩:=hput (Bk s ys)
  have hg:=BO.ARW hi Y Z l p1 p2 p3 (fun b cap _ h=>by
    rcases p4 with p4|⟨p4,p5,p6⟩
    ·rw[<- p4];exact h.out (by grind)
    ·cases o with
     |arr T=>cases p4
     |map j ks=>
      obtain⟨ms,U,e1,e2,e3,e4,_⟩:=h
      have e4:=e4.resolve_right fun h=>by cases h.1
      exact⟨ms,U,e1,e2,e3,.inr ⟨by grind,by omega⟩,fun L h=>by grind⟩)
   (fun ha hx=>ASB (by grind))
   (fun b c h=>(hl' b c h).imp (fun ⟨c0,h⟩=>⟨c0,S b c0 h⟩) (fun h=>h)) E R h3 h4 (fun b hb hn=>h5 b hb fun c hc=>(hn c (S b c hc).1 (S b c hc).2)) h6
  refine⟨_,hg,?_⟩
  unfold Rep
  rw[Bl (BS Y),Ho]
  exact⟨h8.one,ARo _,fun _=>.inl ⟨s++ys,p1,h8⟩⟩
 cases hm:Q with
 |none=>
  rw[hm]at K C
  obtain⟨a,rfl⟩:=C
  obtain⟨_,hzn⟩:=K
  simp only at hzn
  subst hzn
  obtain⟨O,w',hrun,E,R,h3,h4,h5,h6⟩:=Jg (P:=P) (w:=w) (ty:=ty) hu V hz W a (A:=A) (m:=ys.length) (c:=c) (news:=news) (by grind) (fun h=>hA (by grind)) G (by omega) X
  rcases h6 with⟨h0,rfl⟩|⟨D,vs,rfl,q1,q2,q3,q4,q5⟩
  ·have hy:ys=[]:=ASB h0
   subst hy
   obtain⟨J,hg,hr⟩:=fin w' none _ (fun b c h=>by cases h) E R h3 h4 (fun b hb _=>h5 b hb) (fun _=>⟨B,rfl⟩) ⟨a,rfl⟩
   grind
  ·obtain⟨J,hg,hr⟩:=fin w' (some (w.heap.size,D)) _ (fun b c h=>by grind) E R h3 h4 (fun b hb _=>h5 b hb)
    (fun hd=>⟨B,vs,news,q1,q2,q3,by grind,B6 (fun x _ cs hx=>hd hx) q,by grind⟩) rfl
   grind
 |some p=>
  obtain⟨b,cap⟩:=p
  rw[hm]at K C
  obtain⟨_,vs,M,e1,e2,e3,e4,e5,e6⟩:=K
  simp only[Bq]at C
  subst C
  have hrl:=Bv hk e5
  obtain⟨O,w',hrun,f⟩:=O' (P:=P) (w:=w) (ty:=ty) hu V hz W (by omega) e1 (n:=s.length) e2 e3 (by grind) (A:=A) (m:=ys.length) (c:=c) (news:=news) (by grind) (fun h=>hA (by grind)) G
   (fun u hu=>Ph (fun x cs (h:Dat w F t x cs)=>Dat.Hc t h) q u hu) N X
  have hold:vs.toList.take (s.length*i.size)=M:=by grind
  rw[hold]at f
  have hr0:=IV e5 q
  have hlen:(M++news).length=(s.length+ys.length)*t.size:=by grind
  have I:∀ b',b'<w.heap.size->(∀ c,Q≠some (b',c))->w'.heap[b']? = w.heap[b']? := fun b' hb' hn=>f.keep b' hb' fun b0 h=>by
   grind
  rcases f.res with⟨h0,rfl,rfl⟩|⟨g,D,vs',rfl,q1,q2,q3,q4,q5,q6⟩
  ·have hy:ys=[]:=ASB h0
   subst hy
   obtain⟨J,hg,hr⟩:=fin w' (some (b,cap)) _ (fun b c h=>by grind) f.os f.tape f.output f.size I
    (fun _=>⟨B,vs,M,e1,by grind,e3,e4,by grind,e6⟩) (by rw[ASu];rfl)
   grind
  ·obtain⟨J,hg,hr⟩:=fin w' (some (g,D)) (.slice (some ⟨g,0,none⟩) (s.length+ys.length) D) (fun b' c h=>by
     grind) f.os f.tape f.output f.size I
    (fun hd=>⟨B,vs',M++news,q1,by grind,q3,by grind,B6 (fun x _ cs hx=>hd hx) hr0,by grind⟩) (by simp only[Bq,AR7])
   grind
end
section
variable {P:Program} {E:Env}
theorem iB(args:Array Operand)(ts:Array TypeId):Claim P E (.call { callee:=.builtin .append,args:=args,argTypes:=ts }):=by
 intro R ty ρ H fz slot k r h;simp only[evalOp,Dh]at h;split at h;rename_i s x T T' ha hts;obtain rfl:=ANa ha;obtain rfl:=ANa hts;split at h;rename_i e t M hTT;simp only[ARm]at hTT;subst hTT;split at h;rename_i ys fr zz Q hz S;obtain⟨hu,hty0,D⟩:=Ch M;obtain⟨t',cs'⟩:=zz;obtain⟨hty',hcs',i,z,J,K,hok,I,hza⟩:=CV hz;subst hcs';have:t'=t:=by grind
 subst this;have U:z.cells.size=i.size:=by have hzd:=CN (w:=default) (F:=fun _=>False) t' _ hok;rw[I,<- ARz];exact Dat.length t' hzd
 have G:i.bytes<=1024:=by grind
 split at h;rename_i et V;split at h;rename_i f;split at h;rename_i N;refine⟨_,_,h,fun R' k'=>by simp only[evalOp,Dh,M,ARx,Q,hz,S,V,f,N],Bm fun w F m ρc o y hty hi O => ?_⟩;have d:=O s;rw[V]at d;unfold Rep at d;obtain⟨A,c,q1,q2,q3,news,q4,q5⟩:=EU hi Q (O x);obtain⟨v,w',X,l,Y,g⟩:=Fq (P:=P) (ty:=o.type) hi N hu J K U I D G (by have:(ys.length:Int)<=4294967296:=(Fg _).1 f;omega) none (c:=c) q3 q4 q5;exact⟨v,w',F,X,Co y d q1 l,Y,g⟩;grind;grind;rename_i t2 xs V;split at h;rename_i xs' hc hne;split at h;rename_i f;split at h;rename_i N;refine⟨_,_,h,fun R' k'=>by simp only[evalOp,Dh,M,ARx,Q,hz,S,V,hc,hne,f,N],Bm fun w F m ρc o y hty hi O => ?_⟩;obtain⟨et,Z⟩:=DB hc;subst et;simp only at Z;subst Z;have d:=O s;rw[V]at d;obtain⟨A,c,q1,q2,q3,news,q4,q5⟩:=EU hi Q (O x);have q:xs.length+ys.length<=4294967296:=by have:((xs.length:Int)+(ys.length:Int))<=4294967296:=(Fg _).1 f;omega
 obtain⟨v,w',X,l,Y,g⟩:=oA (P:=P) (ty:=o.type) hi N hu J K U I D G q (by grind) d (c:=c) q3 q4 q5;exact⟨v,w',F,X,Co y rfl q1 l,Y,g⟩;grind;grind;grind;rename_i id V;split at h;rename_i e' t2 xs W;split at h;rename_i C;split at h;rename_i xs' hc;split at h;rename_i f;split at h;rename_i hkp;refine⟨_,_,h,fun R' k'=>by simp only[evalOp,Dh,M,ARx,Q,hz,S,V,W,C,hc,f,hkp],Bm fun w F m ρc o y hty hi O => ?_⟩;simp only[ARl,ARm]at C;obtain⟨hun,rfl⟩:=C;obtain⟨et,Z⟩:=DB hc;subst et;simp only at Z;subst Z;have d:=O s;rw[V]at d;obtain⟨A,c,q1,q2,q3,news,q4,q5⟩:=EU hi Q (O x);have q:xs.length+ys.length<=4294967296:=by have:((xs.length:Int)+(ys.length:Int))<=4294967296:=(Fg _).1 f;omega
 obtain⟨v,w',F',l,Y,g⟩:=n9 (P:=P) (ty:=o.type) hi hu J K U I D G W hun q (c:=c) q3 q4 q5 d;exact⟨v,w',F',m,Co y rfl q1 l,Y,g⟩;rename_i hkp;split at h;rename_i N;refine⟨_,_,h,fun R' k'=>by simp only[evalOp,Dh,M,ARx,Q,hz,S,V,W,C,hc,f,hkp,N],Bm fun w F m ρc o y hty hi O => ?_⟩;simp only[ARl,ARm]at C;obtain⟨hun,rfl⟩:=C;obtain⟨et,Z⟩:=DB hc;subst et;simp only at Z;subst Z;have d:=O s;rw[V]at d;unfold Rep at d;rw[W]at d;obtain⟨A,c,q1,q2,q3,news,q4,q5⟩:=EU hi Q (O x);have q:xs.length+ys.length<=4294967296:=by have:((xs.length:Int)+(ys.length:Int))<=4294967296:=(Fg _).1 f;omega
 have hsn:=gL N W;cases hm:m id with
  |none=>obtain⟨_,L⟩:=hi.obj id _ W;rw[hm]at d L;obtain⟨a,e1⟩:=d;simp only at L;subst L;have B:=BO.kill hi (C7 W hun);obtain⟨v,w',X,l,Y,g⟩:=Fq (P:=P) (ty:=o.type) B.2 (LG N hsn) hu J K U I D G (by omega) a (c:=c) q3 q4 q5;exact⟨v,w',F,X,Co y e1 q1 l,B.trans Y,g⟩
  |some p=>obtain⟨b,cap⟩:=p;rw[hm]at d;simp only[Bq]at d;obtain⟨v,w',X,l,Y,g⟩:=TP (P:=P) (ty:=o.type) hi N hu J K U I D G W hun hm (ARo _) q (c:=c) q3 q4 q5;rw[ATa]at Y g;exact⟨v,w',F,X,Co y d q1 l,Y,g⟩
 grind;grind;grind;grind;grind;rename_i id kx ver V;split at h;rename_i T0 e' t2 xs ver' W;split at h;rename_i C;split at h;rename_i xs' hc;split at h;rename_i f;refine⟨_,_,h,fun R' k'=>by simp only[evalOp,Dh,M,ARx,Q,hz,S,V,W,C,hc,f],Bm fun w F m ρc o y hty hi O => ?_⟩;simp only[ARl,ARm]at C;obtain⟨hun,rfl,rfl⟩:=C;obtain⟨et,Z⟩:=DB hc;cases et;simp only at Z;subst Z;have hun':fz.getD id false=false:=by unfold BG at hun;grind
 have d:=O s;rw[V]at d;obtain⟨A,c,q1,q2,q3,news,q4,q5⟩:=EU hi Q (O x);have q:(A5 xs kx []).length+ys.length<=4294967296:=by have:(((A5 xs kx []).length:Int)+(ys.length:Int))<=4294967296:=(Fg _).1 f;omega
 obtain⟨v,w',X,l,Y,g⟩:=uo (P:=P) (ty:=o.type) hi hu J K U I D G W hun' d q (c:=c) q3 q4 q5;exact⟨v,w',F,X,Co y rfl q1 l,Y,g⟩;grind;grind;grind;grind;rename_i id n V;split at h;rename_i e' t2 xs W;split at h;rename_i C;split at h;rename_i xs' hc;split at h;rename_i f;split at h;rename_i N;refine⟨_,_,h,fun R' k'=>by simp only[evalOp,Dh,M,ARx,Q,hz,S,V,W,C,hc,f,N],Bm fun w F m ρc o y hty hi O => ?_⟩;simp only[ARl,ARm]at C;obtain⟨hun,rfl⟩:=C;obtain⟨et,Z⟩:=DB hc;subst et;simp only at Z;subst Z;have d:=O s;rw[V]at d;unfold Rep at d;rw[W]at d;obtain⟨hle,d⟩:=d;obtain⟨A,c,q1,q2,q3,news,q4,q5⟩:=EU hi Q (O x);have q:n+ys.length<=4294967296:=by have:((n:Int)+(ys.length:Int))<=4294967296:=(Fg _).1 f;omega
 have hsn:=gL N W;obtain⟨_,L⟩:=hi.obj id _ W
 have zero:∀ a,n=0->ρc s = .slice a 0 0->∃ u w' F' X,(execOp ρc o).run P w = .ok (.value u) w'/\BO w F m H fz w' F' X ((H.set id .dead).set slot (.arr e _ (Bk (C1 n xs) ys))) fz /\
   Rep w' F' X ((H.set id .dead).set slot (.arr e _ (Bk (C1 n xs) ys))) (.own slot) u:=by
  intro a h0 e1
  subst h0
  have B:=BO.kill hi (C7 W hun)
  obtain⟨v,w',X,l,Y,g⟩:=Fq (P:=P) (ty:=o.type) B.2 (LG N hsn) hu J K U I D G (by omega) a (c:=c) q3 q4 q5
  exact⟨v,w',F,X,Co y e1 q1 l,B.trans Y,g⟩
 cases hm:m id with
  |none=>
   rw[hm]at d L;obtain⟨a,e1⟩:=d;simp only at L;subst L;have hn:n=0:=by grind
   exact zero a hn (by grind)
  |some p=>obtain⟨b,cap⟩:=p;rw[hm]at d L;obtain⟨a,e1,e2⟩:=d;obtain⟨vs,row,o1,o2,_⟩:=L;rcases ATG cap with hcap|hcap;exact zero a (by omega) (by grind);have ha:=e2 hcap;rw[ATn]at ha;subst ha;obtain⟨v,w',X,l,Y,g⟩:=TP (P:=P) (ty:=o.type) hi N hu J K U I D G W hun hm (n:=n) (by omega) q (c:=c) q3 q4 q5;exact⟨v,w',F,X,Co y e1 q1 l,Y,g⟩
 grind;grind;grind;grind;grind;grind;grind;rename_i e t M hTT;split at h;rename_i et j n zz kk V Z hz hk S;split at h;rename_i f;split at h;rename_i N;refine⟨_,_,h,fun R' k'=>by simp only[evalOp,Dh,M,hTT,V,Z,hz,hk,S,f,N],Bm fun w F m ρc o y hty hi O => ?_⟩;obtain⟨hu,hty0,D⟩:=Ch M;obtain⟨t',cs'⟩:=zz;obtain⟨hty',hcs',i,z,J,K,hok,I,hza⟩:=CV hz;subst hcs';have:t'=t:=by grind
 subst this;rw[Ei]at f;obtain⟨n',rfl⟩:=ARq f.1;have d:=O s;rw[V]at d;unfold Rep at d;have e2:=Bo (Z▸O x);have G:i.bytes<=1024:=by grind
 obtain⟨v,w',X,l,Y,g⟩:=n8 (P:=P) (ty:=o.type) hi N hu J K hok I D G (G4 hk) (kx:=j) (n:=n') (by omega);exact⟨v,w',F,X,gT y d e2 l,Y,g⟩;grind;grind;grind;rename_i M hTT;simp only[ARm]at hTT;subst hTT;split at h;rename_i e ix hce Z;split at h;rename_i e1 tgt ys hox;split at h;rename_i he;simp only[ARm]at he;subst he;obtain⟨hu,ii,z,J,K,I,U,S⟩:=TM hce;split at h;rename_i et V;split at h;rename_i f;split at h;rename_i N;refine⟨_,_,h,fun R' k'=>by simp only[evalOp,Dh,M,ARx,hce,Z,hox,V,f,N],Bm fun w F m ρc o y hty hi O => ?_⟩;have d:=O s;rw[V]at d;unfold Rep at d;obtain⟨A,c,q1,q2,news,q3,q4,q5⟩:=AOC hi hox (Z▸O x);obtain⟨v,w',X,l,Y,g⟩:=Ke (P:=P) (ty:=o.type) hi N hu J K U I S (by have:(ys.length:Int)<=4294967296:=(Fg _).1 f;omega) none (c:=c) q2 q3 q4 q5;exact⟨v,w',F,X,Co y d q1 l,Y,g⟩;grind;grind;rename_i id V;split at h;rename_i e2 tgt2 xs W;split at h;rename_i C;split at h;rename_i f;split at h;rename_i N;refine⟨_,_,h,fun R' k'=>by simp only[evalOp,Dh,M,ARx,hce,Z,hox,V,W,C,f,N],Bm fun w F m ρc o y hty hi O => ?_⟩;simp only[ARl,ARm]at C;obtain⟨rfl,rfl⟩:=C;have d:=O s;rw[V]at d;unfold Rep at d;rw[W]at d;obtain⟨A,c,q1,q2,news,q3,q4,q5⟩:=AOC hi hox (Z▸O x);have q:xs.length+ys.length<=4294967296:=by have:((xs.length:Int)+(ys.length:Int))<=4294967296:=(Fg _).1 f;omega
 have hsn:=mr N W;cases hm:m id with
  |none=>have L:=hi.obj id _ W;rw[hm]at d L;obtain⟨a,e1⟩:=d;have L:xs=[]:=L;subst L;have B:=BO.kill hi (cA W);obtain⟨v,w',X,l,Y,g⟩:=Ke (P:=P) (ty:=o.type) B.2 (LG N hsn) hu J K U I S (by omega) a (c:=c) q2 (B.1.ARY hi q3) q4 q5;exact⟨v,w',F,X,Co y e1 q1 l,B.trans Y,g⟩
  |some p=>obtain⟨b,cap⟩:=p;rw[hm]at d;simp only[Bq]at d;obtain⟨v,w',X,l,Y,g⟩:=T4 (P:=P) (ty:=o.type) hi N hu J K U I S W hm q (c:=c) q2 q3 q4 q5;exact⟨v,w',F,X,Co y d q1 l,Y,g⟩
 grind;grind;grind;grind;grind;grind;grind;grind;grind;grind
end
section
variable {P:Program} {E:Env}
theorem AC7(args:Array Operand)(i:Array TypeId):Claim P E (.call { callee:=.builtin .cap,args:=args,argTypes:=i }):=by intro R ty ρ H fz slot k r h;simp only[evalOp,xF]at h;split at h;rename_i x T j b;obtain rfl:=ADU j;obtain rfl:=ADU b;split at h;rename_i e p f g;refine⟨_,_,h,fun q s=>by simp only[evalOp,xF,f,g],A_ fun w F m ρc o d l hi n=>⟨.int .i64 0,?_,Bc _ _⟩⟩;have a:=n x;rw[g]at a;unfold Rep at a;simp[execOp,d,resolve,invoke,builtin,a,Builtin.cap_,run_underlying f,goInt];grind;grind
theorem AC4(args:Array Operand)(i:Array TypeId):Claim P E (.call { callee:=.builtin .min,args:=args,argTypes:=i }):=by intro R ty ρ H fz slot k r h;simp only[evalOp,xD]at h;split at h;rename_i x y l;obtain rfl:=ANa l;split at h;rename_i j a s b e f;refine⟨_,_,h,fun t u=>by simp only[evalOp,xD,e,f],A_ fun w F m ρc o d n hi g=>⟨.int j (Cn a b),?_,Bc _ _⟩⟩;have p:=Bo (e▸g x);have q:=Bo (f▸g y);simp[execOp,d,resolve,invoke,builtin,p,q,run_min_int2,Cn];grind;grind
theorem Zn{w:World}(a:Array TypeId)(t:TypeId)(k b:IntKind)(x y:Int):(Builtin.max_ a t #[.int k x,.int b y]).run P w = .ok (.int k (if y > x then y else x)) w:=by simp[Builtin.max_,Builtin.max2]
theorem AC5(args:Array Operand)(i:Array TypeId):Claim P E (.call { callee:=.builtin .max,args:=args,argTypes:=i }):=by intro R ty ρ H fz slot k r h;simp only[evalOp,xE]at h;split at h;rename_i x y l;obtain rfl:=ANa l;split at h;rename_i j a s b e f;refine⟨_,_,h,fun t u=>by simp only[evalOp,xE,e,f],A_ fun w F m ρc o d n hi g=>⟨.int j (imax a b),?_,Bc _ _⟩⟩;have p:=Bo (e▸g x);have q:=Bo (f▸g y);simp[execOp,d,resolve,invoke,builtin,p,q,Zn,imax];grind;grind
theorem L7{H:List Ob}{i:Nat}{o:Ob}(h:H[i]? = some o):H.set i o=H:=by apply AS5;grind
theorem Yl{α:Type}{off n:Nat}{z:α}{xs:List α}(h:off+n<=xs.length):(DX off n z xs).length=xs.length:=by simp only[DX,AR7,ATC,ASw,ATb];omega
theorem nP{α:Type}(off:Nat)(z:α)(xs:List α):DX off 0 z xs=xs:=by simp[DX]
theorem dB{w:World}{F:Nat->Prop}{m:Mp}{H:List Ob}{fz:List Bool}(hi:HI w F m H fz){id:Nat}{T:TypeId}{t:Ty}{xs:List t.den}(i:H[id]? = some (.arr T t xs))(s:BG fz id=true)
  {b cap:Nat} (hm:m id=some (b,cap)) {off n:Nat} (hle:off+n<=xs.length) {z:List Value} (G:Dat w F t t.zero z) (I:∀ u∈z,u.oneCell'=true) {d:Array Value} (l:d.toList=(List.replicate n z).flatten) :
  ∃ w',(storeCells ⟨b,off*t.size,none⟩ d.toList).run P w = .ok () w'/\BO w F m H fz w' F m (H.set id (.arr T t (DX off n t.zero xs))) fz:=by
 have c:=hi.obj id _ i;obtain⟨J,c⟩:=c;rw[hm]at c;obtain⟨vs,a,v,y,K,W,o,A⟩:=c;have j:=fun(x:t.den) cs (h:Dat w F t x cs)=>Dat.length t h;have B:=Bv j o;have p:=FU (w:=w) (F:=F) G n;have f:=Bv j p;rw[ASw,<- l]at f;have C:off*t.size+n*t.size<=xs.length*t.size:=by have:=ASS t.size hle;grind
 have D:xs.length*t.size<=cap*t.size:=ASS _ y;have L:vs.toList.length=cap*t.size:=by omega
 have g:=run_storeCells_at P b (off*t.size) T d.toList 0 vs w v (by omega) (by simp_all)
 simp only[AS0,f]at g;obtain⟨M,N,O,Q,S⟩:=G1 (w:=w) (b:=b) (cs:=(vs.toList.take (off*t.size)++d.toList++vs.toList.drop (off*t.size+n*t.size)).toArray);refine⟨_,g,?_⟩;refine BO.set hi (C7 i s) hm i ⟨rfl,(Yl hle).symm⟩ M N O Q S fun q => ?_;refine⟨J,?_⟩;rw[hm];refine⟨_,a.take (off*t.size)++(d.toList++a.drop (off*t.size+n*t.size)),setRow_heap w b vs _ T _ v,by rw[Yl hle];exact y,K,?_,?_,?_⟩;grind
 have e:∀ k,F k->(w.setRow b (vs.toList.take (off*t.size)++d.toList++vs.toList.drop (off*t.size+n*t.size)).toArray).heap[k]? = w.heap[k]? := fun k U=>
  G1.2.2.2.2 k (by rintro rfl;exact hi.off id _ cap (C7 i s) hm U)
 refine B6 (R:=Dat w F t) (fun x _ cs V=>V.mono e (fun _ h=>h) t) ?_;have:=H5 j (off+n) o;rw[ASp]at this;exact IV (Ea j off o) (IV (by grind) this)
 ·have r:(a.take (off*t.size)++(d.toList++a.drop (off*t.size+n*t.size))).length=a.length:=by grind
  rw[r];show List.take a.length (vs.toList.take (off*t.size)++d.toList++vs.toList.drop (off*t.size+n*t.size))=_;have I:a.take (off*t.size)=vs.toList.take (off*t.size):=by rw[<- A,AT7,AS7 (by omega)]
  have X:a.drop (off*t.size+n*t.size)=(vs.toList.drop (off*t.size+n*t.size)).take (a.length-(off*t.size+n*t.size)):=by
   conv=>lhs;rw[<- A]
   rw[List.drop_take]
  grind
theorem It{w w':World}{ρc:Operand->Value}{o:Oper}{T:TypeId}{x:Operand}{v:Value}(b:o.op = .call { callee:=.builtin .clear,args:=#[x],argTypes:=#[T] })(d:ρc x=v)
  (a:(Builtin.clear_ #[T] o.type #[v]).run P w = .ok (.tuple #[]) w'):(execOp ρc o).run P w = .ok (.value (.tuple #[])) w':=by simp[execOp,b,resolve,invoke,builtin,d,a]
theorem IS{w:World}{T e ty:TypeId}(b:P.underlying T=some (.slice e))(a:Option Addr)(c:Nat):(Builtin.clear_ #[T] ty #[.slice a 0 c]).run P w = .ok (.tuple #[]) w:=by cases a<;>simp[Builtin.clear_,run_underlying b]
theorem MB{w w':World}{T e ty:TypeId}(d:P.underlying T=some (.slice e)){i:TypeInfo}{z:Value}(b:P.info? e=some i)(f:i.zero=some z)(a:Addr){n:Nat}(g:0<n)(c:Nat)
  (h:(storeCells a (Builtin.zeroCells z.cells n).toList).run P w = .ok () w'):(Builtin.clear_ #[T] ty #[.slice (some a) n c]).run P w = .ok (.tuple #[]) w':=by
 obtain⟨m,rfl⟩:∃ m,n=m+1:=⟨n-1,by omega⟩
 simp[Builtin.clear_,run_underlying d,B9 b f,h]
theorem xS{w:World}{F:Nat->Prop}{t:Ty}{d:t.den}{z:List Value}(h:Dat w F t d z):∀ u∈z,u.oneCell'=true:=fun u a=>Dat.Hc t h u a
theorem nk(args:Array Operand)(ts:Array TypeId):Claim P E (.call { callee:=.builtin .clear,args:=args,argTypes:=ts }):=by
 intro R ty ρ H fz slot k r h;simp only[evalOp,Hh]at h;split at h;rename_i x T X Y;obtain rfl:=ADU X;obtain rfl:=ADU Y;split at h;rename_i e t s;split at h;rename_i zz W;obtain⟨J,hty0,hpos⟩:=Ch s;obtain⟨t',cs'⟩:=zz;obtain⟨hty',K,i,z,L,M,N,hsz,hza⟩:=CV W;subst K;have:t'=t:=by grind
 subst this;have j:∀ k,(Builtin.zeroCells z.cells k).toList=(List.replicate k z.cells.toList).flatten:=Df z.cells;split at h;rename_i et B;refine⟨_,_,h,fun R' k'=>by simp only[evalOp,Hh,s,W,B],Bm fun w F m ρc o g O hi Q => ?_⟩;have d:=Q x;rw[B]at d;unfold Rep at d;exact⟨_,w,F,m,It g d (IS J _ _),BO.refl hi,by unfold Rep;trivial⟩;rename_i id B;split at h;rename_i v t2 xs l;split at h;rename_i f;refine⟨_,_,h,fun R' k'=>by simp only[evalOp,Hh,s,W,B,l,f],Bm fun w F m ρc o g O hi Q => ?_⟩;simp only[ARl,ARm]at f;obtain⟨f,Z⟩:=f;subst Z;have q:=CN (w:=w) (F:=F) t' _ N;have d:=Q x;rw[B]at d;unfold Rep at d;rw[l]at d;obtain⟨_,y⟩:=hi.obj id _ l
 have C:xs=[]->∀ a c,ρc x = .slice a 0 c->∃ u w' S U,(execOp ρc o).run P w = .ok (.value u) w'/\BO w F m H fz w' S U (Cp { objs:=[(id,.arr v t' (DX 0 xs.length t'.zero xs))] } H) (Eo { objs:=[(id,.arr v t' (DX 0 xs.length t'.zero xs))] } fz) /\
   Rep w' S U (Cp { objs:=[(id,.arr v t' (DX 0 xs.length t'.zero xs))] } H) .Cv u:=by
  intro D a c G
  refine⟨_,w,F,m,It g G (IS J _ _),?_,by unfold Rep;trivial⟩
  have:DX 0 xs.length t'.zero xs=xs:=by rw[D];rfl
  rw[this]
  have hs:Cp { objs:=[(id,.arr v t' xs)] } H=H:=L7 l
  rw[hs]
  exact BO.refl hi
 cases I:m id with
  |none=>rw[I]at d y;obtain⟨a,G⟩:=d;grind
  |some p=>obtain⟨b,cap⟩:=p;rw[I]at d;simp only[Bq]at d;rcases ATG xs.length with V|V;grind;obtain⟨w',A,hg⟩:=dB (P:=P) hi l f I (off:=0) (n:=xs.length) (by omega) q (xS q) (j xs.length);rw[ATn]at A;exact⟨_,w',F,m,It g d (MB J L M _ V _ A),hg,by unfold Rep;trivial⟩
 grind;grind;rename_i id off n B;split at h;rename_i v t2 xs l;split at h;rename_i f;refine⟨_,_,h,fun R' k'=>by simp only[evalOp,Hh,s,W,B,l,f],Bm fun w F m ρc o g O hi Q => ?_⟩;simp only[ARl,ARm]at f;obtain⟨f,Z⟩:=f;subst Z;have q:=CN (w:=w) (F:=F) t' _ N;have d:=Q x;rw[B]at d;unfold Rep at d;rw[l]at d;obtain⟨hle,d⟩:=d;obtain⟨_,y⟩:=hi.obj id _ l
 have C:n=0->∀ a c,ρc x = .slice a n c->∃ u w' S U,(execOp ρc o).run P w = .ok (.value u) w'/\BO w F m H fz w' S U (Cp { objs:=[(id,.arr v t' (DX off n t'.zero xs))] } H) (Eo { objs:=[(id,.arr v t' (DX off n t'.zero xs))] } fz) /\
   Rep w' S U (Cp { objs:=[(id,.arr v t' (DX off n t'.zero xs))] } H) .Cv u:=by
  intro D a c G
  subst D
  refine⟨_,w,F,m,It g G (IS J _ _),?_,by unfold Rep;trivial⟩
  rw[nP]
  have hs:Cp { objs:=[(id,.arr v t' xs)] } H=H:=L7 l
  rw[hs]
  exact BO.refl hi
 cases I:m id with
  |none=>grind
  |some p=>obtain⟨b,cap⟩:=p;rw[I]at d y;obtain⟨vs,row,o1,o2,_⟩:=y;obtain⟨a,G,e2⟩:=d;rcases ATG n with V|V;grind;have X:=e2 (by omega);subst X;obtain⟨w',A,hg⟩:=dB (P:=P) hi l f I (off:=off) (n:=n) hle q (xS q) (j n);exact⟨_,w',F,m,It g G (MB J L M _ V _ A),hg,by unfold Rep;trivial⟩
 grind;grind;grind;grind;grind;grind
end
section
variable {P:Program}
def Dg:(t:Ty)->t.den->List Value
 |.unit,_=>[]
 |.bool,b=>[.bool b]
 |.int k,n=>[.int k n]
 |.prod a b,d=>Dg a d.1++Dg b d.2
 |.slice _,_=>[]
 |.arr _ _,_=>[]
 |.nul _,_=>[]
 |.mapi _ _,_=>[]
def C0(t:Ty)(d:t.den):Value:=match t,d with
 |.int k,n=>.int k n
 |t,d=>.agg (Dg t d).toArray
structure ADa(P:Program)(kt:TypeId)(t:Ty):Prop where
 rep:∀ (w:World) (F:Nat->Prop) (d:t.den) (v:Value),CX w F t d v↔v=C0 t d
 check:∀ (w:World) (b:Bool) (d:t.den),(Instr.checkKey b 10000 kt (C0 t d)).run P w = .ok () w
 stays:∀ (w:World) (d:t.den),(Instr.keyThatStays (C0 t d) (C0 t d)).run P w = .ok (C0 t d) w
 find:∀ (w:World) (F:Nat->Prop) (b:Ty) (key:t.den) (es:List (t.den×b.den)) (ms:List MapEntry),I' w F t b es ms ->
  (@HL _ _ (decDen t) es key=none/\@A9 _ _ (decDen t) es key=none/\(Instr.findKey kt (C0 t key) ms).run P w = .ok none w) \/
  (∃ x n me,@HL _ _ (decDen t) es key=some n/\@A9 _ _ (decDen t) es key=some x/\(Instr.findKey kt (C0 t key) ms).run P w = .ok (some (n,me.val)) w/\ms[n]? = some me/\CX w F b x me.val/\me.key=C0 t key)
theorem ADa.store{s:TypeId}{t:Ty}(m:ADa P s t){w:World}{F:Nat->Prop}{b:Ty}(key:t.den)(val:b.den)(v:Value)(o:CX w F b val v):∀ {d:List (t.den×b.den)} {f:List MapEntry},I' w F t b d f ->
  (∀ c,@HL _ _ (decDen t) d key=none->I' w F t b (@BI _ _ (decDen t) d key val) (f++[{ key:=C0 t key,val:=v,born:=c }])) /\
  (∀ n,@HL _ _ (decDen t) d key=some n->I' w F t b (@BI _ _ (decDen t) d key val) (f.modify n fun e=>{ e with key:=C0 t key,val:=v })):=by
 haveI:=decDen t;intro d;induction d with
  |nil=>rintro f rfl;exact⟨fun c _=>⟨_,[],rfl,⟨(m.rep w F key _).2 rfl,o⟩,rfl⟩,fun n h=>by simp[HL]at h⟩
  |cons e d u=>rintro f ⟨g,j,rfl,⟨p,q⟩,r⟩;obtain⟨a,x⟩:=e;obtain⟨k,l⟩:=u r;by_cases i:a=key;subst i;refine⟨fun c h=>by simp[HL]at h,fun n h => ?_⟩;simp only[HL,ASR,ARi]at h;subst h;simp only[BI,ASR,List.modify_zero_cons];exact⟨_,j,rfl,⟨(m.rep w F a _).2 rfl,o⟩,r⟩;simp only[BI,i,AR3,HL];refine⟨fun c h => ?_,fun n h => ?_⟩;rw[Option.map_eq_none_iff]at h;exact⟨g,_,rfl,⟨p,q⟩,k c h⟩;rw[ARr]at h;obtain⟨y,z,rfl⟩:=h;rw[List.modify_succ_cons];exact⟨g,_,rfl,⟨p,q⟩,l y z⟩
theorem P_{z:TypeId}{j:IntKind}(G:P.underlying z=some (.int j)):ADa P z (.int j):=by
 have o:∀ (w:World) (F:Nat->Prop) (d:Int) (v:Value),CX w F (.int j) d v↔v = .int j d:=by intro w F d v;show Dat w F (.int j) d [v]↔_;simp[Dat]
 refine⟨o,fun w b d => ?_,fun w d => ?_,fun w F b c k l h => ?_⟩;have f:∀ n,(Instr.checkKey b (n+1) z (.int j d)).run P w = .ok () w:=fun n=>by simp[Instr.checkKey,run_underlying G]
 exact f 9999;have f:∀ n,Instr.sameBits n (.int j d) (.int j d)=true:=fun n=>by cases n<;>simp[Instr.sameBits]
 show(Instr.keyThatStays (.int j d) (.int j d)).run P w=_;simp[Instr.keyThatStays,f];rfl;have u:∀ r,Instr.findNow (.int j) (.int j c) l 0=some r->(Instr.findKey z (.int j c) l).run P w = .ok r w:=by intro r A;simp[Instr.findKey,run_underlying G,A]
 have f:∀ (k:List (Int×b.den)) (l:List MapEntry) (i:Nat),I' w F (.int j) b k l ->
   (HL (α:=Int) k c=none/\A9 (α:=Int) k c=none/\Instr.findNow (.int j) (.int j c) l i=some none) \/
   (∃ x n m,HL (α:=Int) k c=some n/\A9 (α:=Int) k c=some x/\Instr.findNow (.int j) (.int j c) l i=some (some (i+n,m.val))/\l[n]? = some m/\CX w F b x m.val/\m.key = .int j c):=by
  intro k
  induction k with
  |nil=>rintro l i rfl;exact .inl ⟨rfl,rfl,rfl⟩
  |cons e k J=>
   rintro l i ⟨m,p,rfl,⟨K,H⟩,L⟩
   obtain⟨a,x⟩:=e
   have B:=(o w F a _).1 K
   simp only at H
   by_cases g:a=c
   ·subst g
    refine .inr ⟨x,0,m,by simp[HL],by simp[A9],?_,rfl,H,B⟩
    simp[Instr.findNow,Instr.sameNow,B]
   ·have M:Instr.findNow (.int j) (.int j c) (m::p) i=Instr.findNow (.int j) (.int j c) p (i+1):=by
     have:(c==a)=false:=by grind
     simp[Instr.findNow,Instr.sameNow,B,this]
    rcases J p (i+1) L with⟨q,s,t⟩|⟨y,n,C,q,s,t,I,D,E⟩
    ·exact .inl ⟨by simp[HL,g,q],by simp[A9,g,s],by grind⟩
    ·exact .inr ⟨y,n+1,C,by simp[HL,g,q],by simp[A9,g,s],by grind,by grind,D,E⟩
 rcases f k l 0 h with⟨q,s,t⟩|⟨x,n,m,q,s,t,I,D,E⟩
 exact .inl ⟨q,s,u _ t⟩;rw[ASP]at t;exact .inr ⟨x,n,m,q,s,u _ t,I,D,E⟩
theorem Qq{w:World}{F:Nat->Prop}:∀ (t:Ty) {n:List Bool},kinds? t=some n->∀ (d:t.den) (cs:List Value),Dat w F t d cs↔cs=Dg t d
 |.unit,_,_,d,cs=>Iff.rfl
 |.prod (.int k) r,n,h,d,cs=>by simp only[kinds?,ARr]at h;obtain⟨f,b,rfl⟩:=h;constructor;rintro⟨c,c2,rfl,a,e⟩;rw[(Qq r b d.2 c2).1 e];have a:c=[.int k d.1]:=a;rw[a];rfl;rintro rfl;exact⟨[.int k d.1],Dg r d.2,rfl,rfl,(Qq r b d.2 _).2 rfl⟩
 |.prod .bool r,n,h,d,cs=>by simp only[kinds?,ARr]at h;obtain⟨f,b,rfl⟩:=h;constructor;rintro⟨c,c2,rfl,a,e⟩;rw[(Qq r b d.2 c2).1 e];have a:c=[.bool d.1]:=a;rw[a];rfl;rintro rfl;exact⟨[.bool d.1],Dg r d.2,rfl,rfl,(Qq r b d.2 _).2 rfl⟩
 |.prod .unit _,_,h,_,_=>by simp[kinds?]at h
 |.prod (.slice _) _,_,h,_,_=>by simp[kinds?]at h
 |.prod (.prod _ _) _,_,h,_,_=>by simp[kinds?]at h
 |.prod (.arr _ _) _,_,h,_,_=>by simp[kinds?]at h
 |.bool,_,h,_,_=>by simp[kinds?]at h
 |.int _,_,h,_,_=>by simp[kinds?]at h
 |.slice _,_,h,_,_=>by simp[kinds?]at h
 |.arr _ _,_,h,_,_=>by simp[kinds?]at h
theorem SD:∀ (t:Ty) {n:List Bool},kinds? t=some n->∀ (d c:t.den),B2 n (CB t d) (CB t c)=some (@decide (d=c) (decDen t d c))
 |.unit,n,h,d,c=>by simp only[kinds?,ARi]at h;subst h;cases d;cases c;simp[CB,B2]
 |.prod (.int k) r,n,h,d,c=>by simp only[kinds?,ARr]at h;obtain⟨f,e,rfl⟩:=h;obtain⟨a,x⟩:=d;obtain⟨b,y⟩:=c;have:=SD r e x y;simp only[CB,ATQ,B2,ARx,this,CU];congr 1;grind
 |.prod .bool r,n,h,d,c=>by simp only[kinds?,ARr]at h;obtain⟨f,e,rfl⟩:=h;obtain⟨a,x⟩:=d;obtain⟨b,y⟩:=c;have:=SD r e x y;simp only[CB,ATQ,B2,this];congr 1;grind
 |.prod .unit _,_,h,_,_=>by simp[kinds?]at h
 |.prod (.slice _) _,_,h,_,_=>by simp[kinds?]at h
 |.prod (.prod _ _) _,_,h,_,_=>by simp[kinds?]at h
 |.prod (.arr _ _) _,_,h,_,_=>by simp[kinds?]at h
 |.bool,_,h,_,_=>by simp[kinds?]at h
 |.int _,_,h,_,_=>by simp[kinds?]at h
 |.slice _,_,h,_,_=>by simp[kinds?]at h
 |.arr _ _,_,h,_,_=>by simp[kinds?]at h
theorem Oi:∀ (t:Ty) {n:List Bool},kinds? t=some n->∀ (d:t.den),∀ v∈Dg t d,(∃ k i,v = .int k i)\/∃ b,v = .bool b
 |.unit,_,_,d,v,a=>by simp[Dg]at a
 |.prod (.int k) r,n,h,d,v,a=>by simp only[kinds?,ARr]at h;obtain⟨e,c,rfl⟩:=h;simp only[Dg,ATQ,AR4]at a;rcases a with rfl|a;simp;exact Oi r c d.2 v a
 |.prod .bool r,n,h,d,v,a=>by simp only[kinds?,ARr]at h;obtain⟨e,c,rfl⟩:=h;simp only[Dg,ATQ,AR4]at a;rcases a with rfl|a;simp;exact Oi r c d.2 v a
 |.prod .unit _,_,h,_,_,_=>by simp[kinds?]at h
 |.prod (.slice _) _,_,h,_,_,_=>by simp[kinds?]at h
 |.prod (.prod _ _) _,_,h,_,_,_=>by simp[kinds?]at h
 |.prod (.arr _ _) _,_,h,_,_,_=>by simp[kinds?]at h
 |.bool,_,h,_,_,_=>by simp[kinds?]at h
 |.int _,_,h,_,_,_=>by simp[kinds?]at h
 |.slice _,_,h,_,_,_=>by simp[kinds?]at h
 |.arr _ _,_,h,_,_,_=>by simp[kinds?]at h
theorem KO{t:Ty}{n:List Bool}(h:kinds? t=some n)(d:t.den):C0 t d = .agg (Dg t d).toArray/\t.isAgg=true:=by cases t<;>first|exact⟨rfl,rfl⟩|(simp[kinds?]at h)
end
section
variable {P:Program}
theorem Oj:∀ (t:Ty) {n:List Bool},kinds? t=some n->∀ (d:t.den),(Dg t d).length=n.length
 |.unit,n,h,d=>by simp only[kinds?,ARi]at h;subst h;rfl
 |.prod (.int k) r,n,h,d=>by simp only[kinds?,ARr]at h;obtain⟨b,a,rfl⟩:=h;simp[Dg,Oj r a d.2]
 |.prod .bool r,n,h,d=>by simp only[kinds?,ARr]at h;obtain⟨b,a,rfl⟩:=h;simp[Dg,Oj r a d.2]
 |.prod .unit _,_,h,_=>by simp[kinds?]at h
 |.prod (.slice _) _,_,h,_=>by simp[kinds?]at h
 |.prod (.prod _ _) _,_,h,_=>by simp[kinds?]at h
 |.prod (.arr _ _) _,_,h,_=>by simp[kinds?]at h
 |.bool,_,h,_=>by simp[kinds?]at h
 |.int _,_,h,_=>by simp[kinds?]at h
 |.slice _,_,h,_=>by simp[kinds?]at h
 |.arr _ _,_,h,_=>by simp[kinds?]at h
theorem iD{w:World}{T:TypeId}(h:L9 P T=true)(b:Bool)(n:Nat){v:Value}:(Instr.checkKey b (n+1) T v).run P w = .ok () w:=by
 rcases Cl h with⟨k,a,_⟩|⟨a,_⟩
 simp[Instr.checkKey,run_underlying a];simp[Instr.checkKey,run_underlying a]
theorem iE{w:World}(b:Bool)(d:Nat)(xs:Array Value):∀ (fs:List Field) (i:Nat),ET P fs i=true->i+fs.length<=xs.size ->
  (forIn fs PUnit.unit fun (f : Field) (_ : PUnit) => ((if f.name ≠ "_" then (part f.type xs f.offset >>= fun v => Instr.checkKey b (d + 1) f.type v >>= fun _ => pure (ForInStep.yield PUnit.unit)) else pure (ForInStep.yield PUnit.unit)) : Sem (ForInStep PUnit))).run P w = .ok PUnit.unit w := by
 intro fs;induction fs with
  |nil=>simp
  |cons f fs ih=>
   intro i hok hl;simp only[ET,ARl,bne_iff_ne,ARm]at hok;obtain⟨hn,ho,hsc,hok⟩:=hok;rw[ARy]at hl;have hag:Ew P f.type=some false:=by rcases Cl hsc with⟨k,hk,_⟩|⟨hk,_⟩<;>simp[Ew,hk]
   have hlt:i<xs.size:=by omega
   have p1:(part f.type xs f.offset).run P w = .ok xs[i] w:=by rw[ho];simp[part,DI hag,hlt]
   have h3:=ih (i+1) hok (by omega);simp only[List.forIn_cons,Sem.run_bind,hn,ne_eq,not_false_eq_true,ASR,p1,Result.andThen_ok,iD hsc,Sem.run_pure];exact h3
theorem sm{g:TypeId}{t:Ty}{n:List Bool}(V:structEq P g=some n)(o:kinds? t=some n):ADa P g t:=by
 obtain⟨G,H,hgt,J,C,S⟩:=Zk V;have K:P.fieldsOf g=G:=by simp[Program.fieldsOf,H]
 have s:∀ (w:World) (F:Nat->Prop) (d:t.den) (v:Value),CX w F t d v↔v=C0 t d:=by intro w F d v;obtain⟨W,X⟩:=KO o d;unfold CX;rw[ARt X,W];constructor;rintro⟨vs,rfl,h⟩;have:=(Qq t o d _).1 h;rw[<- this];rintro rfl;exact⟨_,rfl,(Qq t o d _).2 (by simp)⟩
 have T:∀ d:t.den,(Dg t d).length=G.size:=by intro d;rw[Oj t o d,S,ASZ,ARz]
 refine⟨s,fun w b d => ?_,fun w d => ?_,fun w F b c q j h => ?_⟩;rw[(KO o d).1];have:=fun m=>iE (P:=P) (w:=w) b m (Dg t d).toArray G.toList 0 C (by grind);have D:∀ m,(Instr.checkKey b (m+1+1) g (.agg (Dg t d).toArray)).run P w = .ok () w:=by intro m;rw[Instr.checkKey];simp only[Sem.run_bind,run_underlying H,Result.andThen_ok];simp_all
 grind;rw[(KO o d).1];have D:∀ m,Instr.sameBits (m+1) (.agg (Dg t d).toArray) (.agg (Dg t d).toArray)=true:=by
  intro m;have Y:∀ l:List Value,(∀ v∈l,(∃ k i,v = .int k i)\/∃ b,v = .bool b)->((l.zip l).all fun p=>Instr.sameBits m p.1 p.2)=true:=by
   intro l;induction l with
    |nil=>simp
    |cons v l L=>
     intro h;rw[List.zip_cons_cons,List.all_cons,L (fun x Z=>h x (by simp[Z]))];rcases h v (by simp)with⟨k,i,rfl⟩|⟨b,rfl⟩
     cases m<;>simp[Instr.sameBits];cases m<;>simp[Instr.sameBits]
  simp only[Instr.sameBits,beq_self_eq_true,Bool.true_and];exact Y _ (Oi t o d)
 unfold Instr.keyThatStays;simp_all;have M:∀ d u:t.den,(Op.equal g (C0 t d) (C0 t u)).run P w = .ok (@decide (d=u) (decDen t d u)) w:=by intro d u;rw[(KO o d).1,(KO o u).1];unfold Op.equal Op.maxDepth;rw[run_equalIn_agg w 9999 g _ _ (by grind) J,K];have r:∀ x:t.den,BA w F (fun _=>none) [] (CB t x) ((Dg t x).toArray.toList.drop 0):=fun x=>Is t ((Qq t o x _).2 (by simp));exact Qj 9998 _ _ G.toList 0 (CB t d) (CB t u) _ C (r d) (r u) (by rw[<- S];exact SD t o d u)
 have D:∀ (q:List (t.den×b.den)) (j:List MapEntry) (i:Nat),I' w F t b q j ->
   (HL q c=none/\A9 q c=none/\(Instr.findAsking g (C0 t c) j i).run P w = .ok none w) \/
   (∃ x n z,HL q c=some n/\A9 q c=some x/\(Instr.findAsking g (C0 t c) j i).run P w = .ok (some (i+n,z.val)) w/\j[n]? = some z/\CX w F b x z.val/\z.key=C0 t c):=by
  intro q
  induction q with
  |nil=>rintro j i rfl;exact .inl ⟨rfl,rfl,by simp[Instr.findAsking]⟩
  |cons e q L=>
   rintro j i ⟨z,A,rfl,⟨h1,U⟩,h3⟩
   obtain⟨a,x⟩:=e
   have B:=(s w F a _).1 h1
   simp only at U
   have I:=M c a
   by_cases f:a=c
   ·subst f
    rw[ARk rfl]at I
    refine .inr ⟨x,0,z,by simp[HL],by simp[A9],?_,rfl,U,B⟩
    simp[Instr.findAsking,B,I]
   ·rw[ARj (fun h=>f h.symm)]at I
    have hfn:(Instr.findAsking g (C0 t c) (z::A) i).run P w=(Instr.findAsking g (C0 t c) A (i+1)).run P w:=by
     simp[Instr.findAsking,B,I]
    rcases L A (i+1) h3 with⟨N,O,q2⟩|⟨y,n,Q,N,O,q2,q3,q4,q5⟩
    ·exact .inl ⟨by simp[HL,f,N],by simp[A9,f,O],by grind⟩
    ·exact .inr ⟨y,n+1,Q,by simp[HL,f,N],by simp[A9,f,O],by grind,by grind,q4,q5⟩
 have hfk:∀ r,(Instr.findAsking g (C0 t c) j).run P w = .ok r w->(j=[]->r=none)->(Instr.findKey g (C0 t c) j).run P w = .ok r w:=by
  intro r R E;cases j with
   |nil=>simp[Instr.findKey,run_underlying H,Instr.findNow,E rfl]
   |cons z j=>simp only[Instr.findKey,Sem.run_bind,run_underlying H,Result.andThen_ok,Instr.findNow,Instr.sameNow];exact R
 grind
theorem Zy{T:TypeId}{t:Ty}(h:Pt P T=some t):∃ e k,P.underlying T=some (.array 2 e)/\P.underlying e=some (.int k)/\CD P e=some 1/\t = .prod (.int k) (.prod (.int k) .unit):=by unfold Pt at h;grind
theorem AHJ{l:TypeId}{t:Ty}(W:Pt P l=some t):ADa P l t:=by
 obtain⟨e,j,H,K,X,rfl⟩:=Zy W;obtain⟨i0,L,M⟩:=Bs X;have N:kinds? (.prod (.int j) (.prod (.int j) .unit))=some [true,true]:=rfl;have O:Ew P e=some false:=by simp[Ew,K]
 have C:∀ w,(sizeOf e).run P w = .ok 1 w:=fun w=>by rw[run_sizeOf L,M]
 have p:∀ d:(Ty.prod (.int j) (.prod (.int j) .unit)).den,C0 (.prod (.int j) (.prod (.int j) .unit)) d = .agg #[.int j d.1,.int j d.2.1]:=fun d=>rfl;have u:∀ (w:World) (F:Nat->Prop) (d:(Ty.prod (.int j) (.prod (.int j) .unit)).den) (v:Value),CX w F (.prod (.int j) (.prod (.int j) .unit)) d v↔v=C0 (.prod (.int j) (.prod (.int j) .unit)) d:=by intro w F d v;obtain⟨Y,Z⟩:=KO N d;unfold CX;rw[ARt Z,Y];constructor;rintro⟨vs,rfl,h⟩;have:=(Qq _ N d _).1 h;rw[<- this];rintro rfl;exact⟨_,rfl,(Qq _ N d _).2 (by simp)⟩
 have f:∀ (w:World) (a b:Value),(part e #[a,b] 0).run P w = .ok a w/\(part e #[a,b] 1).run P w = .ok b w:=fun w a b=>by constructor<;>simp[part,DI O]
 have D:∀ (w:World) (b:Bool) (n:Nat) (d:Int),(Instr.checkKey b (n+1) e (.int j d)).run P w = .ok () w:=fun w b n d=>by simp[Instr.checkKey,run_underlying K]
 refine⟨u,fun w b d => ?_,fun w d => ?_,fun w F b c q k h => ?_⟩;rw[p];have s:∀ m,(Instr.checkKey b (m+1+1) l (.agg #[.int j d.1,.int j d.2.1])).run P w = .ok () w:=by intro m;rw[Instr.checkKey];simp only[Sem.run_bind,run_underlying H,Result.andThen_ok];simp[Std.Legacy.Range.forIn_eq_forIn_range',Std.Legacy.Range.size,List.range',C,(f w _ _).1,(f w _ _).2,D]
 grind;rw[p];have s:∀ m,Instr.sameBits (m+1) (.agg #[.int j d.1,.int j d.2.1]) (.agg #[.int j d.1,.int j d.2.1])=true:=by intro m;cases m<;>simp[Instr.sameBits]
 unfold Instr.keyThatStays;simp_all;have Q:∀ d o:(Ty.prod (.int j) (.prod (.int j) .unit)).den,(Op.equal l (C0 (.prod (.int j) (.prod (.int j) .unit)) d) (C0 (.prod (.int j) (.prod (.int j) .unit)) o)).run P w = .ok (@decide (d=o) (decDen (.prod (.int j) (.prod (.int j) .unit)) d o)) w:=by
  intro d o;rw[p,p];have E:∀ (n:Nat) (a b:Int),(Op.equalIn (n+1) e (.int j a) (.int j b)).run P w = .ok (a==b) w:=fun n a b=>by simp[Op.equalIn,run_underlying K]
  have s:∀ n,(Op.equalIn (n+1+1) l (.agg #[.int j d.1,.int j d.2.1]) (.agg #[.int j o.1,.int j o.2.1])).run P w = .ok ((d.1==o.1)&&(d.2.1==o.2.1)) w:=by intro n;rw[Op.equalIn];simp only[Sem.run_bind,run_underlying H,Result.andThen_ok,C];simp only[Std.Legacy.Range.forIn_eq_forIn_range',Std.Legacy.Range.size,List.range',ATn,ATk];by_cases R:d.1=o.1;by_cases I:d.2.1=o.2.1<;>simp[E,(f w _ _).1,(f w _ _).2,R,I];simp_all
  unfold Op.equal;have:=s 9998;rw[show Op.maxDepth=9998+1+1 from rfl,this];congr 1;grind
 have s:∀ (q:List ((Ty.prod (.int j) (.prod (.int j) .unit)).den×b.den)) (k:List MapEntry) (i:Nat),I' w F (.prod (.int j) (.prod (.int j) .unit)) b q k ->
   (@HL _ _ (decDen _) q c=none/\@A9 _ _ (decDen _) q c=none/\(Instr.findAsking l (C0 (.prod (.int j) (.prod (.int j) .unit)) c) k i).run P w = .ok none w) \/
   (∃ x n z,@HL _ _ (decDen _) q c=some n/\@A9 _ _ (decDen _) q c=some x/\(Instr.findAsking l (C0 (.prod (.int j) (.prod (.int j) .unit)) c) k i).run P w = .ok (some (i+n,z.val)) w/\k[n]? = some z/\CX w F b x z.val/\z.key=C0 (.prod (.int j) (.prod (.int j) .unit)) c):=by
  intro q
  induction q with
  |nil=>rintro k i rfl;exact .inl ⟨rfl,rfl,by simp[Instr.findAsking]⟩
  |cons e' q ih=>
   rintro k i ⟨z,A,rfl,⟨R,I⟩,h3⟩
   obtain⟨a,x⟩:=e'
   have B:=(u w F a _).1 R
   simp only at I
   have J:=Q c a
   by_cases g:a=c
   ·subst g
    rw[ARk rfl]at J
    refine .inr ⟨x,0,z,by simp[HL],by simp[A9],?_,rfl,I,B⟩
    simp[Instr.findAsking,B,J]
   ·rw[ARj (fun h=>g h.symm)]at J
    have hfn:(Instr.findAsking l (C0 (.prod (.int j) (.prod (.int j) .unit)) c) (z::A) i).run P w=(Instr.findAsking l (C0 (.prod (.int j) (.prod (.int j) .unit)) c) A (i+1)).run P w:=by
     simp[Instr.findAsking,B,J]
    rcases ih A (i+1) h3 with⟨S,T,q2⟩|⟨y,n,U,S,T,q2,q3,q4,q5⟩
    ·exact .inl ⟨by simp[HL,g,S],by simp[A9,g,T],by grind⟩
    ·exact .inr ⟨y,n+1,U,by simp[HL,g,S],by simp[A9,g,T],by grind,by grind,q4,q5⟩
 have hfk:∀ r,(Instr.findAsking l (C0 (.prod (.int j) (.prod (.int j) .unit)) c) k).run P w = .ok r w->(k=[]->r=none)->(Instr.findKey l (C0 (.prod (.int j) (.prod (.int j) .unit)) c) k).run P w = .ok r w:=by
  intro r V G;cases k with
   |nil=>simp[Instr.findKey,run_underlying H,Instr.findNow,G rfl]
   |cons z k=>simp only[Instr.findKey,Sem.run_bind,run_underlying H,Result.andThen_ok,Instr.findNow,Instr.sameNow];exact V
 grind
theorem QA{a:TypeId}{t:Ty}(h:YB P a=some t):ADa P a t:=by unfold YB at h;split at h;rename_i t' hi;cases h;unfold AHT at hi;split at hi;rename_i k b;cases hi;exact P_ b;grind;split at h;rename_i n t' c d;split at h;rename_i hd;cases h;exact sm c (ATT hd);grind;exact AHJ h
end
section
variable {P:Program} {E:Env}
theorem AHR{w:World}{F:Nat->Prop}{m:Mp}{H:List Ob}:∀ {cs:List AV} {l:List (IntKind×Int)} {us:List Value},mY cs=some l->BA w F m H cs us->us=l.map fun p=>Value.int p.1 p.2:=by
 intro cs;induction cs with
  |nil=>intro l us h a;simp only[mY,ARi]at h;subst h;unfold BA at a;exact a
  |cons c cs b=>intro l us h a;unfold mY at h;split at h;grind;rename_i k n r d;cases d;simp only[ARr]at h;obtain⟨j,e,rfl⟩:=h;unfold BA at a;obtain⟨u,f,rfl,g,i⟩:=a;rw[Bo g,b e i];rfl;grind
theorem AHP{w:World}{F:Nat->Prop}{m:Mp}{H:List Ob}:∀ (l:List (IntKind×Int)),BA w F m H (l.map fun p=>AV.data (.int p.1) p.2) (l.map fun p=>Value.int p.1 p.2):=by
 intro l;induction l with
  |nil=>unfold BA;rfl
  |cons p l a=>simp only[ASE];unfold BA;exact⟨_,_,rfl,Bc _ _,a⟩
theorem Ns(T:TypeId)(x:Operand):Claim P E (.makeInterface T x):=by
 intro R ty ρ H fz slot k r h;simp only[evalOp,Ez]at h;split at h;rename_i t l f a d;refine⟨_,_,h,fun u v=>by simp only[evalOp,Ez,f,a,d],A_ fun w F m ρc o e n hi g => ?_⟩;cases i:cells? (ρ x)with
  |none=>grind
  |some cs=>
   rw[i]at d;simp only[ASN]at d;obtain⟨vs,j⟩:=Kd a (g x);have b:=cells?_ok i (g x);rw[j]at b;have q:=AHR d b;simp only[Value.cells]at q;refine⟨Jq (some (T,l)),?_,by unfold Rep;rfl⟩;have s:vs=(l.map fun p=>Value.int p.1 p.2).toArray:=by grind
   simp[execOp,e,j,Instr.makeInterface,run_underlying f,Jq,s]
 grind
theorem SU(x:Operand)(S T:TypeId)(ok:Bool):Claim P E (.typeAssert x S T ok):=by
 intro R ty ρ H fz slot k r h;simp only[evalOp,Ek]at h;split at h;rename_i W t cs q e G I;split at h;rename_i f;have g:=f;rw[ARl]at g;obtain⟨rfl,J⟩:=g;obtain⟨L,M,i,z,v,y,A,U,B⟩:=CV G;have C:∀ (w:World) (F:Nat->Prop) (m:Mp),Rep w F m H (.agg cs) z:=by
  intro w F m;rw[J]at B;cases z with
   |agg V=>unfold Rep;exact⟨V,rfl,HX _ _ A,Kh _ _ A⟩
   |_=>simp[Ol]at B
 have j:∀ (w:World) (F:Nat->Prop) (m:Mp) (a:AV) (u:Value) (b:Bool),Rep w F m H a u->Rep w F m H (.tup [a,.data .bool b]) (.tuple #[u,.bool b]):=by intro w F m a u b h;unfold Rep;refine⟨_,rfl,?_⟩;unfold BA;exact⟨u,_,rfl,h,M4 (B0 _)⟩
 have K:∀ {w:World} {F:Nat->Prop} {m:Mp} {ρc:Operand->Value},(∀ x,Rep w F m H (ρ x) (ρc x))->ρc x=Jq q:=by intro w F m ρc n;have N:=I▸n x;unfold Rep at N;exact N
 split at h;refine⟨_,_,h,fun O Q=>by simp only[evalOp,Ek,e,G,I,f],A_ fun w F m ρc o d D hi n=>⟨_,?_,j w F m _ z false (C w F m)⟩⟩;simp[execOp,d,K n,Jq,Instr.typeAssert,run_underlying e,B9 v y];rename_i X l;split at h;rename_i s;refine⟨_,_,h,fun O Q=>by simp only[evalOp,Ek,e,G,I,f,s],A_ fun w F m ρc o d D hi n=>⟨_,?_,j w F m _ (.agg (l.map fun p=>Value.int p.1 p.2).toArray) true ?_⟩⟩;simp only[ARm]at s;simp[execOp,d,K n,Jq,Instr.typeAssert,run_underlying e,s];unfold Rep;refine⟨_,rfl,by simpa using AHP l,fun u e => ?_⟩;simp only[ASC]at e;obtain⟨p,_,rfl⟩:=e;rfl;rename_i s;refine⟨_,_,h,fun O Q=>by simp only[evalOp,Ek,e,G,I,f,s],A_ fun w F m ρc o d D hi n=>⟨_,?_,j w F m _ z false (C w F m)⟩⟩;simp only[ASf]at s;simp[execOp,d,K n,Jq,Instr.typeAssert,run_underlying e,B9 v y,s];grind;grind
end
section
variable {P:Program} {E:Env}
theorem ue(G:∀ g,BQ P g (E.spec g))(f:Operand)(args:Array Operand)(I:Array TypeId):Claim P E (.call { callee:=.value f,args:=args,argTypes:=I }):=by
 intro R ty ρ H fz slot k r h;simp only[evalOp,Jw]at h;split at h
 ·rename_i g l q;obtain⟨v,e,t,J,x,y⟩:=G g R _ H fz slot k r h;refine⟨v,e,t,fun K L=>by simp only[evalOp,Jw,q];grind,?_⟩;intro w F m a o next Q p z hi A M
  have d:=A f;rw[q]at d;unfold Rep at d;obtain⟨cs,B,C⟩:=d;have j:BA w F m H (args.toList.map ρ++l) ((args.map a.eval++cs).toList):=by rw[Array.toList_append,AS1];exact HC (Dy (by simp) fun i c v N O=>by grind) C
  have b:=y w F m _ hi j;rw[ATV]at b;unfold Oper.wp;have n:(execOp a.eval o).run P w = .ok (.enter g (args.map a.eval++cs)) w:=by simp[execOp,p,resolve,B,Deferred.ofValue,invoke,x _ w]
  rw[n];exact b.mono fun S w' ⟨u,D,T,U,V,s⟩=>by grind
 ·rename_i g l q;obtain⟨v,e,t,J,x,y⟩:=G g R _ H fz slot k r h;refine⟨v,e,t,fun K L=>by simp only[evalOp,Jw,q];grind,?_⟩;intro w F m a o next Q p z hi A M
  have d:=A f;rw[q]at d;unfold Rep at d;obtain⟨cs,B,C⟩:=d;have j:BA w F m H (l++args.toList.map ρ) ((cs++args.map a.eval).toList):=by rw[Array.toList_append,AS1];exact HC C (Dy (by simp) fun i c v N O=>by grind)
  have b:=y w F m _ hi j;rw[ATV]at b;unfold Oper.wp;have n:(execOp a.eval o).run P w = .ok (.enter g (cs++args.map a.eval)) w:=by simp[execOp,p,resolve,B,Deferred.ofValue,invoke,x _ w]
  rw[n];exact b.mono fun S w' ⟨u,D,T,U,V,s⟩=>by grind
 grind
theorem pg{T:TypeId}(h:vT P T=true):P.underlying T=some .string:=by unfold vT at h;grind
theorem iF{T:TypeId}(h:VG P T=true):∃ e,P.underlying T=some (.slice e)/\P.underlying e=some (.int .u8):=by unfold VG at h;grind
theorem qZ{w:World}{F:Nat->Prop}:∀ {xs:List Int} {a:List Value},rows (Dat w F (.int .u8)) xs a->a=xs.map (Value.int .u8):=by
 intro xs;induction xs with
  |nil=>rintro a rfl;rfl
  |cons x xs c=>
   rintro a ⟨d,c2,rfl,b,e⟩;rw[c e];have b:d=[.int .u8 x]:=by simpa [Dat]using b
   grind
theorem qm:∀ (xs:List Int) (s:ByteArray),bytesOf (xs.foldl (fun r n=>r.push (UInt8.ofNat n.toNat)) s)=bytesOf s++Mt xs:=by
 intro xs;induction xs with
  |nil=>intro s;simp[Mt]
  |cons x xs a=>intro s;rw[ASg,a];simp[bytesOf,Mt,ByteArray.push]
theorem AIw{S T:TypeId}{x:Operand}{w:World}{F:Nat->Prop}{m:Mp}{H:List Ob}{fz:List Bool}{v:AV}{xs:List Int}{p:List Nat}{ρc:Operand->Value}{o:Oper}(f:o.op = .convert S T x)
  (q:VG P S=true) (hd:vT P T=true) (hi:HI w F m H fz) (s:FP H (.slice (.int .u8)) v=some (xs,p)) (t:Rep w F m H v (ρc x)) :
  ∃ u,(execOp ρc o).run P w = .ok (.value u) w/\Rep w F m H (.str (Mt xs)) u:=by
 obtain⟨e,h,i⟩:=iF q;have k:=pg hd;obtain⟨a,cap,l,y,z,news,b,d⟩:=EU hi s t;cases a with
  |none=>
   have g:xs=[]:=by grind
   subst g;refine⟨.string ByteArray.empty,?_,?_⟩;simp[execOp,f,l,run_convert_bytes_string w S T e none _ _ h i k,Conv.bytesToString];unfold Rep;exact⟨_,rfl,rfl⟩
  |some ad=>
   have A:=qZ b;subst A;have B:(Go.loadCells ad xs.length).run P w = .ok (xs.map (Value.int .u8)).toArray w:=by have:=run_loadCells_list (P:=P) w ad (xs.map (Value.int .u8)) (fun j v C=>d ad rfl j v C);grind
   refine⟨.string (xs.foldl (fun r n=>r.push (UInt8.ofNat n.toNat)) ByteArray.empty),?_,?_⟩;simp[execOp,f,l,run_convert_bytes_string w S T e (some ad) _ _ h i k,run_bytesToString w ad _ cap xs B];unfold Rep;exact⟨_,rfl,(qm _ _).trans (ASO _)⟩
theorem aS(S T:TypeId)(x:Operand):Claim P E (.convert S T x):=by intro R ty ρ H fz slot k r h;simp only[evalOp,GU]at h;split at h;rename_i t n j b e i;refine⟨_,_,h,fun l p=>by simp only[evalOp,GU,b,e,i],A_ fun w F m ρc o a f hi g=>⟨.int j (j.wrap n),?_,Bc _ _⟩⟩;have q:=Bo (b▸g x);obtain⟨d,hd⟩:=ASd.1 e;simp[execOp,a,q,convert,run_underlying hd,run_underlying (G4 i),Conv.intToInt];rename_i v u y s;split at h;rename_i e hd;split at h;rename_i xs z b;refine⟨_,_,h,fun l p => ?_,A_ fun w F m ρc o a f hi g=>AIw a e hd hi b (g x)⟩;simp only[evalOp,GU];grind;grind;grind
theorem Pn{w:World}{F:Nat->Prop}{k:IntKind}{n:Int}{v:Value}(h:CX w F (.int k) n v):v = .int k n:=by unfold CX at h;have h:Dat w F (.int k) n [v]:=h;simpa [Dat]using h
theorem CT{w:World}{r:Nat}{b:Array MapEntry}{a:Nat}(h:w.heap[r]? = some (.map b a)):(getObj r).run P w = .ok (.map b a) w:=by simp[getObj,Sem.run,h]
theorem Jb{b:TypeId}{j:IntKind}(d:P.underlying b=some (.int j)){a:Int}{c:List MapEntry}{w:World}{r:Option (Nat×Value)}(h:Instr.findNow (.int j) (.int j a) c 0=some r):(Instr.findKey b (.int j a) c).run P w = .ok r w:=by simp[Instr.findKey,run_underlying d,h]
theorem cb{g:TypeId}{j:IntKind}(o:P.underlying g=some (.int j)){w:World}(b:Int){c:List Int}{d:Array MapEntry}(h:d.toList.map (·.key)=c.map (Value.int j)):
  (I_ c b=c.length/\(Instr.findKey g (.int j b) d.toList).run P w = .ok none w) \/
  (∃ e,I_ c b<c.length/\d.toList[I_ c b]? = some e/\e.key = .int j b/\c[I_ c b]? = some b/\(Instr.findKey g (.int j b) d.toList).run P w = .ok (some (I_ c b,e.val)) w):=by
 have k:∀ (c:List Int) (d:List MapEntry) (i:Nat),d.map (·.key)=c.map (Value.int j) ->
   (I_ c b=c.length/\Instr.findNow (.int j) (.int j b) d i=some none) \/
   (∃ e,I_ c b<c.length/\d[I_ c b]? = some e/\e.key = .int j b/\c[I_ c b]? = some b/\Instr.findNow (.int j) (.int j b) d i=some (some (i+I_ c b,e.val))):=by
  intro c
  induction c with
  |nil=>
   intro d i h
   have:d=[]:=by simp_all
   subst this
   exact .inl ⟨rfl,rfl⟩
  |cons a c t=>
   intro d i h
   cases d with
   |nil=>simp at h
   |cons e d=>
    simp only[ASE,AR5]at h
    obtain⟨l,h⟩:=h
    by_cases f:a=b
    ·subst f
     refine .inr ⟨e,by simp[I_],by simp[I_],l,by simp[I_],?_⟩
     simp[Instr.findNow,Instr.sameNow,l,I_]
    ·have q:Instr.findNow (.int j) (.int j b) (e::d) i=Instr.findNow (.int j) (.int j b) d (i+1):=by
      have:(b==a)=false:=by grind
      simp[Instr.findNow,Instr.sameNow,l,this]
     have u:I_ (a::c) b=I_ c b+1:=by simp[I_,f]
     grind
 rcases k c d.toList 0 h with⟨m,n⟩|⟨e,m,r,n,s,p⟩
 exact .inl ⟨m,Jb o n⟩;rw[ASP]at p;exact .inr ⟨e,m,r,n,s,Jb o p⟩
theorem ACC{q:TypeId}{j:IntKind}(u:P.underlying q=some (.int j)){w:World}(b:Int){β:Type}{V:β->Value->Prop}{c:List (Int×β)}{g:List MapEntry}(h:Yc (fun d v=>v = .int j d) V c g):
  (A9 c b=none/\(Instr.findKey q (.int j b) g).run P w = .ok none w) \/
  (∃ (x:β) (n:Nat) (f:MapEntry),A9 c b=some x/\(Instr.findKey q (.int j b) g).run P w = .ok (some (n,f.val)) w/\V x f.val):=by
 have r:∀ (c:List (Int×β)) (g:List MapEntry) (i:Nat),Yc (fun d v=>v = .int j d) V c g ->
   (A9 c b=none/\Instr.findNow (.int j) (.int j b) g i=some none) \/
   (∃ (x:β) (n:Nat) (f:MapEntry),A9 c b=some x/\Instr.findNow (.int j) (.int j b) g i=some (some (n,f.val))/\V x f.val):=by
  intro c
  induction c with
  |nil=>rintro g i rfl;exact .inl ⟨rfl,rfl⟩
  |cons e c z=>
   rintro g i ⟨f,k,rfl,p,A,B⟩
   obtain⟨a,x⟩:=e
   have p:f.key = .int j a:=p
   by_cases l:a=b
   ·subst l
    refine .inr ⟨x,i,f,by simp[A9],?_,A⟩
    simp[Instr.findNow,Instr.sameNow,p]
   ·have C:Instr.findNow (.int j) (.int j b) (f::k) i=Instr.findNow (.int j) (.int j b) k (i+1):=by
     have:(b==a)=false:=by grind
     simp[Instr.findNow,Instr.sameNow,p,this]
    rcases z k (i+1) B with⟨m,o⟩|⟨y,n,s,m,o,t⟩
    ·exact .inl ⟨by simp[A9,l,m],by grind⟩
    ·exact .inr ⟨y,n,s,by simp[A9,l,m],by grind,t⟩
 rcases r c g 0 h with⟨m,o⟩|⟨x,n,f,m,o,t⟩
 exact .inl ⟨m,Jb u o⟩;exact .inr ⟨x,n,f,m,Jb u o,t⟩
theorem hU(T:TypeId)(mm x:Operand)(ok:Bool):Claim P E (.lookup T mm x ok):=by
 intro R ty ρ H fz slot k r h;simp only[evalOp,ES]at h;split at h;rename_i kt vt id B S;split at h;rename_i ka b es N;split at h;rename_i b' cs' hkt A;split at h;rename_i a fr X O;simp only[ARm]at X;subst X;have Y:=hkt;simp only[ARm]at Y;have hK:=QA Y;obtain⟨l,p,i,z,D,G,I,hsz,J⟩:=CV A;subst p
 have q:∀ (w:World) (F:Nat->Prop) (m:Mp) (ρc:Operand->Value) (o:Oper),o.op = .lookup T mm x ok->HI w F m H fz->(∀ x,Rep w F m H (ρ x) (ρc x)) ->
   ∃ u,(execOp ρc o).run P w = .ok (.value (if ok then .tuple #[u,.bool (A9 (α:=ka.den) es a).isSome]else u)) w/\CX w F b' ((A9 (α:=ka.den) es a).getD b'.zero) u:=by
  intro w F m ρc o d hi v
  have f:=v mm
  rw[S]at f
  unfold Rep at f
  rw[N]at f
  obtain⟨bb,c,e1,U⟩:=f
  obtain⟨b2,c',Z,K,e3,V,e5,_⟩:=hi.obj id _ N
  rw[e1]at e3;cases e3
  have s:ρc x=C0 ka a:=(hK.rep _ _ _ _).1 (Dx hi O (v x))
  have g:=hK.check w Z.isEmpty a
  rcases hK.find w F _ a es Z.toList e5 with⟨_,C,L⟩|⟨y,n,me,_,C,L,q3,q4,_⟩
  ·refine⟨z,?_,by rw[C];exact M_ I J⟩
   rw[C]
   simp only[execOp,d,U,s,Instr.lookup,Sem.run_bind,run_underlying B,Result.andThen_ok,CT V,g,L,B9 D G,Sem.run_pure]
   simp
  ·refine⟨me.val,?_,by grind⟩
   rw[C]
   simp only[execOp,d,U,s,Instr.lookup,Sem.run_bind,run_underlying B,Result.andThen_ok,CT V,g,L,Sem.run_pure]
   simp
 split at h;refine⟨_,_,h,fun R' k'=>by simp only[evalOp,ES,B,S,N,hkt,A,ARx,O],A_ fun w F m ρc o d W hi v => ?_⟩;obtain⟨u,Q,h2⟩:=q w F m ρc o d hi v;refine⟨_,Q,?_⟩;unfold Rep;refine⟨_,rfl,?_⟩;unfold BA;refine⟨u,_,rfl,by unfold Rep;exact h2,M4 (B0 _)⟩;refine⟨_,_,h,fun R' k'=>by simp only[evalOp,ES,B,S,N,hkt,A,ARx,O],A_ fun w F m ρc o d W hi v => ?_⟩;obtain⟨u,Q,h2⟩:=q w F m ρc o d hi v;exact⟨u,Q,by unfold Rep;exact h2⟩;grind;grind;rename_i j ks e t xs ver N;split at h;rename_i e' t' hk hsl A;split at h;rename_i a fr he O;refine⟨_,_,h,fun R' k'=>by simp only[evalOp,ES,B,S,N,hk,hsl,A,he,O],A_ fun w F m ρc o d W hi v => ?_⟩;simp only[ARm]at hk he;simp only[ARl,ASk,ASd]at A;obtain⟨⟨⟨b',cs'⟩,A⟩,rfl⟩:=A;obtain⟨l,p,i,z,D,G,I,hsz,J⟩:=CV A;subst p;obtain⟨hu2,hty2,hpos2⟩:=Ch hsl;have htt:∃ y,b' = .slice y:=by unfold dY Ta at l;rw[hu2]at l;simp only[ARr]at l;grind
 obtain⟨y,rfl⟩:=htt;have hz1:z = .slice none 0 0:=by
  have Q:z.cells.toList=[.slice none 0 0]:=CN (w:=w) (F:=F) (.nul y) _ I;cases z with
   |agg vs=>simp[Ol,Ty.isAgg]at J
   |_=>simp[Value.cells]at Q<;>first|exact Q|grind
 have f:=v mm;rw[S]at f;unfold Rep at f;rw[N]at f;obtain⟨bb,c,e1,U⟩:=f;obtain⟨_,e3⟩:=hi.obj id _ N;rw[e1]at e3;obtain⟨Z,K,V,e5,e6,e7,_⟩:=e3;have e7:=e7.resolve_right fun h=>by cases h.1
 have s:ρc x = .int j a:=Pn (Dx hi O (v x));have M:=G4 hk;have g:=(P_ M).check w Z.isEmpty a;have g:(Instr.checkKey Z.isEmpty 10000 kt (.int j a)).run P w = .ok () w:=g;rcases cb (w:=w) M a e6 with⟨C,L⟩|⟨me,C,L,q3,q4,q5⟩
 refine⟨.slice none 0 0,?_,?_⟩;simp only[execOp,d,U,s,Instr.lookup,Sem.run_bind,run_underlying B,Result.andThen_ok,CT V,g,L,B9 D G,Sem.run_pure,hz1];rfl;unfold Rep;rw[N];exact⟨rfl,ARo _,fun _=>.inr ⟨rfl,by omega,rfl⟩⟩;obtain⟨b3,c3,u,r1,⟨ms',clock',en,r2,r3,r4⟩,r5⟩:=kJ hi N (k:=I_ ks a) (by omega);rw[e1]at r1;cases r1;rw[V]at r2;cases r2;rw[L]at r3;cases r3;subst r4;refine⟨me.val,?_,r5⟩;simp only[execOp,d,U,s,Instr.lookup,Sem.run_bind,run_underlying B,Result.andThen_ok,CT V,g,q5,Sem.run_pure];rfl;grind;grind;grind;rename_i kt vt j b es B S;split at h;rename_i b' cs' hk A;split at h;rename_i a fr X O;have hb0:=X;have hk0:=hk;simp only[ARl,ARm,ASk]at X;simp only[ARm]at hk;obtain⟨X,hag⟩:=X;subst X;obtain⟨l,p,i,z,D,G,I,hsz,J⟩:=CV A;subst p;have M:=G4 hk
 have q:∀ (w:World) (F:Nat->Prop) (m:Mp) (ρc:Operand->Value) (o:Oper),o.op = .lookup T mm x ok->HI w F m H fz->(∀ x,Rep w F m H (ρ x) (ρc x)) ->
   ∃ u,(execOp ρc o).run P w = .ok (.value (if ok then .tuple #[u,.bool (A9 (α:=Int) es a).isSome]else u)) w/\CX w F b' ((A9 (α:=Int) es a).getD b'.zero) u:=by
  intro w F m ρc o d hi v
  have f:=v mm
  rw[S]at f
  have f:Dat w F (.mapi j b') es [ρc mm]:=f
  obtain⟨bb,Z,K,U,e3,V,e5⟩:=f
  simp only[AR5,ATq]at U
  have s:ρc x = .int j a:=Pn (Dx hi O (v x))
  have g:=(P_ M).check w Z.isEmpty a
  have g:(Instr.checkKey Z.isEmpty 10000 kt (.int j a)).run P w = .ok () w:=g
  rcases ACC (w:=w) M a e5 with⟨C,L⟩|⟨y,n,me,C,L,q4⟩
  ·refine⟨z,?_,by rw[C];exact M_ I J⟩
   rw[C]
   simp only[execOp,d,U,s,Instr.lookup,Sem.run_bind,run_underlying B,Result.andThen_ok,CT V,g,L,B9 D G,Sem.run_pure]
   simp
  ·refine⟨me.val,?_,by rw[C];unfold CX;grind⟩
   rw[C]
   simp only[execOp,d,U,s,Instr.lookup,Sem.run_bind,run_underlying B,Result.andThen_ok,CT V,g,L,Sem.run_pure]
   simp
 split at h;refine⟨_,_,h,fun R' k'=>by simp only[evalOp,ES,B,S,hk0,A,ARx,hag,ASF,ASJ,O],A_ fun w F m ρc o d W hi v => ?_⟩;obtain⟨u,Q,h2⟩:=q w F m ρc o d hi v;refine⟨_,Q,?_⟩;unfold Rep;refine⟨_,rfl,?_⟩;unfold BA;refine⟨u,_,rfl,by unfold Rep;exact h2,M4 (B0 _)⟩;refine⟨_,_,h,fun R' k'=>by simp only[evalOp,ES,B,S,hk0,A,ARx,hag,ASF,ASJ,O],A_ fun w F m ρc o d W hi v => ?_⟩;obtain⟨u,Q,h2⟩:=q w F m ρc o d hi v;exact⟨u,Q,by unfold Rep;exact h2⟩;grind;grind;grind
theorem Dp{w:World}{r:Nat}{d c:Array MapEntry}{b a:Nat}(h:w.heap[r]? = some (.map d b)):
  (setObj r (.map c a)).run P w = .ok () { w with heap:=w.heap.setIfInBounds r (.map c a) }:=by simp[setObj,Sem.run,h]
theorem Gd.push{b:Array MapEntry}{a:Nat}(h:Gd b a)(key val:Value):Gd (b.push { key:=key,val:=val,born:=a }) (a+1):=by obtain⟨c,d⟩:=h;refine⟨by grind,fun i e f => ?_⟩;grind
theorem Gd.modify{b:Array MapEntry}{a:Nat}(h:Gd b a)(n:Nat){f:MapEntry->MapEntry}(c:∀ e,(f e).born=e.born):Gd (b.modify n f) a:=by obtain⟨d,g⟩:=h;refine⟨by grind,fun i e j => ?_⟩;grind
theorem Tw(T:TypeId)(mm x y:Operand):Claim P E (.mapUpdate T mm x y):=by
 intro R ty ρ H fz slot k r h
 simp only[evalOp,FM]at h
 split at h
 ·rename_i kt vt id hu hm
  split at h
  ·rename_i K b es u
   split at h
   ·rename_i key fr0 val S hkt hx hy
    refine⟨_,_,h,fun R' L=>by simp only[evalOp,FM,hu,hm,u,hkt,hx,hy],Eh fun w F m ρc o C hty hi U => ?_⟩
    have O:=hkt
    simp only[ARm]at O
    have hK:=QA O
    have D:=BO.freeze hi S
    have l:=U mm
    rw[hm]at l
    unfold Rep at l
    rw[u]at l
    obtain⟨bb,c,V,e2⟩:=l
    obtain⟨b2,c',q,f,e3,z,e5,e6⟩:=D.2.obj id _ u
    rw[V]at e3;cases e3
    have G:ρc x=C0 K key:=(hK.rep _ _ _ _).1 (Dx hi hx (U x))
    have hvd:=Dx hi hy (U y)
    have I:=hK.check w false key
    have W:=hK.stays w key
    have hlt:=CF z
    have p:∀ (g:Array MapEntry) (d:Nat),I' w (Du F m H S) K b (BI (α:=K.den) es key val) g.toList->Gd g d ->
      BO w (Du F m H S) m H (BF S fz) { w with heap:=w.heap.setIfInBounds bb (.map g d) } (Du F m H S) m (H.set id (.map K b (BI (α:=K.den) es key val))) (BF S fz):=by
     intro g d he X
     refine BO.set D.2 (FH u) V u trivial rfl rfl rfl (by simp) (fun k Y=>by grind) fun _ => ?_
     refine⟨bb,c,g,d,V,by grind,?_,X⟩
     refine he.mono (fun a ha => ?_) (fun _ h=>h)
     have:a≠bb:=by rintro rfl;exact D.2.off id _ c (FH u) V ha
     grind
    obtain⟨s1,s2⟩:=hK.store key val _ hvd e5
    rcases hK.find w _ _ key es q.toList e5 with⟨Q,_,A⟩|⟨y',n,me,Q,_,A,q3,q4,q5⟩
    ·have Z:=p (q.push { key:=C0 K key,val:=ρc y,born:=f }) (f+1) (by grind) (e6.push _ _)
     refine⟨_,_,m,?_,D.trans Z⟩
     simp only[execOp,C,e2,G,Instr.mapUpdate,Sem.run_bind,run_underlying hu,Result.andThen_ok,CT z,I,A,Dp z,Sem.run_pure]
    ·have Z:=p (q.modify n fun e=>{ e with key:=C0 K key,val:=ρc y }) f (by grind) (e6.modify _ fun _=>rfl)
     refine⟨_,_,m,?_,D.trans Z⟩
     have hgetn:q[n]? = some me:=by grind
     have J:(((q[n]?).map (·.key)).getD (C0 K key))=C0 K key:=by grind
     simp only[execOp,C,e2,G,Instr.mapUpdate,Sem.run_bind,run_underlying hu,Result.andThen_ok,CT z,I,A,J,W,Dp z,Sem.run_pure]
   grind
  ·rename_i j B e t xs ver i' u
   split at h
   ·rename_i key S id' i ver' Y hx hy
    split at h
    ·rename_i hid
     split at h
     ·rename_i hii
      refine⟨_,_,h,fun R' L=>by simp only[evalOp,FM,hu,hm,u,Y,hx,hy,hid,hii],Eh fun w F m ρc o C hty hi U => ?_⟩
      simp only[ARl,ARm]at Y hid
      obtain⟨Y,hun⟩:=Y
      obtain⟨rfl,rfl⟩:=hid
      simp only[ARl,CU,ATA]at hii
      obtain⟨h1,h2⟩:=hii
      have h1:i=i':=by omega
      have h2:I_ B key=i':=by omega
      subst h1
      have hun':fz.getD id false=false:=by unfold BG at hun;grind
      have l:=U mm
      rw[hm]at l
      unfold Rep at l
      rw[u]at l
      obtain⟨bb,c,V,e2⟩:=l
      obtain⟨_,e3⟩:=hi.obj id _ u
      rw[V]at e3
      obtain⟨q,f,z,e5,e6,e7,e8⟩:=e3
      have G:ρc x = .int j key:=Pn (Dx hi hx (U x))
      have hku:=G4 Y
      have I:(Instr.checkKey false 10000 kt (.int j key)).run P w = .ok () w:=(P_ hku).check w false key
      have W:(Instr.keyThatStays (.int j key) (.int j key)).run P w = .ok (.int j key) w:=(P_ hku).stays w key
      have M:=U y
      rw[hy]at M
      unfold Rep at M
      rw[u]at M
      obtain⟨hone,_,h7⟩:=M
      have h7:=h7 rfl
      have hlt:=CF z
      have hmk:q.toList.length=B.length:=by have:=ASo List.length e6;grind
      obtain⟨ys,hys,hrep⟩:∃ ys:List t.den,xs[i]? = some ys/\Bq (some (.arr 0 t ys)) (m (.r id i)) (ρc y):=by
       grind
      have p:∀ (g:Array MapEntry) (d:Nat),Gd g d->g.toList.map (·.key)=(SH B i key).map (Value.int j)->xs.length=(SH B i key).length->(∃ s,g.toList[i]? = some s/\s.val=ρc y)->(∀ L s,L≠i->q.toList[L]? = some s->∃ N,g.toList[L]? = some N/\N.val=s.val) ->
        BO w F m H fz { w with heap:=w.heap.setIfInBounds bb (.map g d) } F m (H.set id (.rows (.map j (SH B i key)) e t xs ver none)) fz:=by
       intro g d X hks hxl hat hoth
       refine BO.AQw hi u hun' hys rfl V hrep rfl rfl rfl (by simp) (fun k Y=>by grind) (fun _=>⟨⟨g,d,by grind,X,hks,.inl hxl,fun k h=>by cases h⟩,?_⟩) ?_
       ·obtain⟨s,Q,A⟩:=hat
        exact⟨g,d,s,by grind,Q,A⟩
       ·rintro L v hne ⟨ms2,clock2,s,Q,A,q3⟩
        rw[z]at Q;cases Q
        obtain⟨N,q4,q5⟩:=hoth L s hne A
        exact⟨g,d,N,by grind,q4,q5.trans q3⟩
      rcases cb (w:=w) hku key e6 with⟨Q,A⟩|⟨me,Q,A,q3,q4,q5⟩
      ·have hxl:xs.length=B.length+1:=by
        grind
       have hdp:SH B i key=B++[key]:=by unfold SH;grind
       have Z:=p (q.push { key:=.int j key,val:=ρc y,born:=f }) (f+1) (e5.push _ _) (by grind) (by grind)
        ⟨_,by rw[Array.toList_push,ASK (by omega),show i-q.toList.length=0 from by omega];rfl,rfl⟩
        (fun L s hne hk'=>⟨s,by grind,rfl⟩)
       refine⟨_,F,m,?_,Z⟩
       simp only[execOp,C,e2,G,Instr.mapUpdate,Sem.run_bind,run_underlying hu,Result.andThen_ok,CT z,I,A,Dp z,Sem.run_pure]
      ·have hilt:i<B.length:=by omega
       have hxl:xs.length=B.length:=by
        grind
       have hdp:SH B i key=B:=by
        unfold SH
        rw[ARt hilt]
        apply AS5
        grind
       rw[h2]at A q5
       have hgetn:q[i]? = some me:=by grind
       have Z:=p (q.modify i fun e=>{ e with key:=.int j key,val:=ρc y }) f (e5.modify _ fun _=>rfl) (by
         rw[hdp,<- e6,Array.toList_modify]
         apply AS5
         grind) (by grind)
        ⟨_,by rw[Array.toList_modify,List.getElem?_modify,A];simp only[ASR];rfl,rfl⟩
        (fun L s hne hk'=>⟨s,by grind,rfl⟩)
       refine⟨_,F,m,?_,Z⟩
       have J:(((q[i]?).map (·.key)).getD (.int j key)) = .int j key:=by grind
       simp only[execOp,C,e2,G,Instr.mapUpdate,Sem.run_bind,run_underlying hu,Result.andThen_ok,CT z,I,q5,J,W,Dp z,Sem.run_pure]
     grind
    grind
   grind
  grind
 grind
theorem hY(T:TypeId)(W x y:Operand):Claim P E (.insert T W x y):=by
 intro R ty ρ H fz slot k r h;simp only[evalOp,Mm]at h;split at h;rename_i kt vt id J X;split at h;rename_i j b K s;split at h;rename_i key fr0 val t u Y Z;refine⟨_,_,h,fun R' k'=>by simp only[evalOp,Mm,J,X,s,u,Y,Z],Eh fun w F m ρc o v hty hi L => ?_⟩;have p:=u;simp only[ARm]at p;have z:=QA p;have g:=BO.freeze hi t;have l:=L W;rw[X]at l;unfold Rep at l;rw[s]at l;obtain⟨M,c,I,e2⟩:=l;obtain⟨b2,c',A,f,e3,B,e5,e6⟩:=g.2.obj id _ s;rw[I]at e3;cases e3;have C:ρc x=C0 j key:=(z.rep _ _ _ _).1 (Dx hi Y (L x));have N:=Dx hi Z (L y);have D:=z.check w false key;have O:=z.stays w key;have hlt:=CF B
 have q:∀ (i:Array MapEntry) (d:Nat),I' w (Du F m H t) j b (BI (α:=j.den) K key val) i.toList->Gd i d ->
   BO w (Du F m H t) m H (BF t fz) { w with heap:=w.heap.setIfInBounds M (.map i d) } (Du F m H t) m (H.set id (.map j b (BI (α:=j.den) K key val))) (BF t fz):=by
  intro i d he Q
  refine BO.set g.2 (FH s) I s trivial rfl rfl rfl (by simp) (fun k hk=>by grind) fun _ => ?_
  refine⟨M,c,i,d,I,by grind,?_,Q⟩
  refine he.mono (fun a ha => ?_) (fun _ h=>h)
  have:a≠M:=by rintro rfl;exact g.2.off id _ c (FH s) I ha
  grind
 obtain⟨s1,s2⟩:=z.store key val _ N e5;rcases z.find w _ _ key K A.toList e5 with⟨q1,_,S⟩|⟨y',n,me,q1,_,S,q3,q4,q5⟩
 have U:=q (A.push { key:=C0 j key,val:=ρc y,born:=f }) (f+1) (by grind) (e6.push _ _);refine⟨_,_,m,?_,g.trans U⟩;simp only[execOp,v,e2,C,Instr.mapUpdate,Sem.run_bind,run_underlying J,Result.andThen_ok,CT B,D,S,Dp B,Sem.run_pure];have U:=q (A.modify n fun e=>{ e with key:=C0 j key,val:=ρc y }) f (by grind) (e6.modify _ fun _=>rfl);refine⟨_,_,m,?_,g.trans U⟩;have V:A[n]? = some me:=by grind
 have G:(((A[n]?).map (·.key)).getD (C0 j key))=C0 j key:=by grind
 simp only[execOp,v,e2,C,Instr.mapUpdate,Sem.run_bind,run_underlying J,Result.andThen_ok,CT B,D,S,G,O,Dp B,Sem.run_pure];grind;grind;grind
theorem fO{a:Array MapEntry}{n:Nat}{b:MapEntry}(h:a[n]? = some b){f g:MapEntry->MapEntry}(c:f b=g b):a.modify n f=a.modify n g:=by grind
theorem Y2(T:TypeId)(mm x:Operand):Claim P E (.mapEntry T mm x):=by
 intro R ty ρ H fz slot k r h;simp only[evalOp,GS]at h;split at h;rename_i kt vt id Y hm;split at h;rename_i l b D A;split at h;rename_i b' cs' key fr G hz hx;split at h;rename_i hb;simp only[ARm]at hb;subst hb;refine⟨_,_,h,fun R' k'=>by simp only[evalOp,GS,Y,hm,A,G,hz,hx,ARx],Bm fun w F m ρc o I hty hi hr => ?_⟩;have s:=G;simp only[ARm]at s;have B:=QA s;obtain⟨hty',J,i,z,Z,hz0,K,hsz,L⟩:=CV hz;subst J;have q:=hr mm;rw[hm]at q;unfold Rep at q;rw[A]at q;obtain⟨bb,c,V,e2⟩:=q;obtain⟨b2,c',t,g,e3,M,W,X⟩:=hi.obj id _ A;rw[V]at e3;cases e3;have N:ρc x=C0 l key:=(B.rep _ _ _ _).1 (Dx hi hx (hr x));have O:=B.check w false key;have hst:=B.stays w key;have hlt:=CF M
 have v:∀ (val:b'.den) (p:Array MapEntry) (f:Nat),I' w F l b' (BI (α:=l.den) D key val) p.toList->Gd p f ->
   BO w F m H fz { w with heap:=w.heap.setIfInBounds bb (.map p f) } F m (H.set id (.map l b' (BI (α:=l.den) D key val))) fz:=by
  intro val p f he hbo
  refine BO.set hi (FH A) V A trivial rfl rfl rfl (by simp) (fun k hk=>by grind) fun _ => ?_
  refine⟨bb,c,p,f,V,by grind,?_,hbo⟩
  refine he.mono (fun a ha => ?_) (fun _ h=>h)
  have:a≠bb:=by rintro rfl;exact hi.off id _ c (FH A) V ha
  grind
 have Q:∀ (d:b'.den) (u:Value) (n:Nat),CX w F b' d u->Rep w F m H (.tup [.data b' d,.data (.int .i64) (n:Int)]) (.tuple #[u,goInt (n:Int)]):=by intro d u n hd;unfold Rep;refine⟨_,rfl,?_⟩;unfold BA;exact⟨u,_,rfl,by unfold Rep;exact hd,M4 (Bc _ _)⟩
 have hlen:=Yb W;rcases B.find w _ _ key D t.toList W with⟨q1,q0,q2⟩|⟨y',n,y,q1,q0,q2,q3,q4,q5⟩
 obtain⟨s1,_⟩:=B.store key b'.zero z (M_ K L) W;have C:=v b'.zero (t.push { key:=C0 l key,val:=z,born:=g }) (g+1) (by grind) (X.push _ _);have hp:Xj (α:=l.den) D key=(g:Int):=by unfold Xj;rw[q1,X.1];grind
 rw[q0,Option.getD_none,hp];refine⟨_,_,F,m,?_,C,C.1.rep hi (Q b'.zero z g (M_ K L))⟩;simp only[execOp,I,e2,N,Instr.mapEntry,Sem.run_bind,run_underlying Y,Result.andThen_ok,CT M,O,q2,B9 Z hz0,Dp M,Sem.run_pure];obtain⟨_,s2⟩:=B.store key y' y.val q4 W;have j:t[n]? = some y:=by grind
 have S:(t.modify n fun e=>{ e with key:=C0 l key,val:=y.val })=t.modify n fun e=>{ e with key:=C0 l key }:=fO j rfl;have C:=v y' (t.modify n fun e=>{ e with key:=C0 l key,val:=y.val }) g (by grind) (X.modify _ fun _=>rfl);rw[S]at C;have hp:Xj (α:=l.den) D key=(n:Int):=by unfold Xj;grind
 rw[q0,ASM,hp];have U:(((t[n]?).map (·.key)).getD (C0 l key))=C0 l key:=by grind
 have hbn:(((t[n]?).map fun x=>(x.born:Int)).getD 0)=(n:Int):=by rw[j];show(y.born:Int)=n;rw[X.2 n y j]
 refine⟨_,_,F,m,?_,C,C.1.rep hi (Q y' y.val n q4)⟩;simp only[execOp,I,e2,N,Instr.mapEntry,Sem.run_bind,run_underlying Y,Result.andThen_ok,CT M,O,q2,U,hst,hbn,Dp M,Sem.run_pure];grind;grind;grind;grind
theorem AIO{w:World}{F:Nat->Prop}{a b:Ty}(val:b.den)(v:Value)(i:CX w F b val v):∀ {c:List (a.den×b.den)} {d:List MapEntry} (n:Nat),I' w F a b c d->I' w F a b (c.modify n fun e=>(e.1,val)) (d.modify n fun e=>{ e with val:=v }):=by
 intro c;induction c with
  |nil=>rintro d n rfl;cases n<;>rfl
  |cons e c j=>
   rintro d n ⟨k,f,rfl,⟨g,l⟩,h⟩;cases n with
    |zero=>exact⟨_,f,rfl,⟨g,i⟩,h⟩
    |succ n=>exact⟨k,_,rfl,⟨g,l⟩,j n h⟩
theorem ACD{b:Array MapEntry}{a:Nat}(h:Gd b a){i:Nat}(hi:i<b.size):b.findIdx? (fun e=>(e.born:Int)==(i:Int))=some i:=by rw[Array.findIdx?_eq_some_iff_getElem];refine⟨hi,?_,fun j c => ?_⟩;have:=h.2 i b[i] (by simp[hi]);grind;have:=h.2 j b[j] (by simp);grind
theorem SW(T:TypeId)(G s y:Operand):Claim P E (.entryStore T G s y):=by
 intro R ty ρ H fz slot k r h;simp only[evalOp,Fi]at h;split at h
 ·rename_i id i0 I J;split at h
  ·rename_i K b L j;split at h
   ·rename_i val l M;split at h;rotate_left;cases h;rename_i q;refine⟨_,_,h,fun R' k'=>by simp only[evalOp,Fi,I,J,j,M,q],Eh fun w F m ρc o v S hi x => ?_⟩;have f:=BO.freeze hi l;have g:=x G;rw[I]at g;unfold Rep at g;rw[j]at g;obtain⟨z,c,t,U⟩:=g;obtain⟨b2,c',u,d,N,A,O,Q⟩:=f.2.obj id _ j;rw[t]at N;cases N;have i:=x s;rw[J]at i;unfold Rep at i;have B:=Pn i;have C:=Dx hi M (x y);have V:=CF A;have p:=Yb O;rw[ARz]at p;rw[ARl,Bf,BP,ATP,ATP]at q;obtain⟨n,rfl⟩:=ARq q.1;have W:n<u.size:=by have:=q.2;unfold A2 at this;omega
    have D:=ACD Q W;have X:BO w (Du F m H l) m H (BF l fz) { w with heap:=w.heap.setIfInBounds z (.map (u.modify n fun e=>{ e with val:=ρc y }) d) } (Du F m H l) m (H.set id (.map K b (sM L (n:Int) val))) (BF l fz):=by
     refine BO.set f.2 (FH j) t j trivial rfl rfl rfl (by simp) (fun k hk=>by grind) fun _ => ?_;refine⟨z,c,u.modify n fun e=>{ e with val:=ρc y },d,t,by grind,?_,Q.modify n fun _=>rfl⟩;have Y:I' w (Du F m H l) K b (L.modify n fun e=>(e.1,val)) (u.modify n fun e=>{ e with val:=ρc y }).toList:=by rw[Array.toList_modify];exact AIO val (ρc y) C n O
     unfold sM;rw[ASQ];refine Y.mono (fun a Z => ?_) (fun _ h=>h);have:a≠z:=by rintro rfl;exact f.2.off id _ c (FH j) t Z
     grind
    refine⟨_,_,m,?_,f.trans X⟩;simp only[execOp,v,U,B,Instr.entryStore,Sem.run_bind,Result.andThen_ok,CT A,asInt,asIntOf,Sem.run_pure,D,Dp A]
   grind
  grind
 grind
theorem Ej(u:∀ g,BQ P g (E.spec g))(o:Op):Claim P E o:=by
 cases o with
  |move x=>exact uc x
  |assign x=>exact iA x
  |pick c a b=>exact ub c a b
  |alloc T=>exact nr T
  |box T x=>exact AC8 T x
  |build T parts=>exact nn T parts
  |buildSlice T len parts=>exact SX T len parts
  |load T x=>exact ud T x
  |store T x y=>exact nh T x y
  |nilCheck x=>exact Y1 x
  |binOp j T x y l=>exact nq j T x y l
  |unOp j T x=>exact ua j T x
  |convert S T x=>exact aS S T x
  |makeFunc fn first cs=>exact Y3 fn first cs
  |makeMap T r=>exact aQ T r
  |makeSlice T x y=>exact Tx T x y
  |slice T x q t p=>
   cases p with
    |none=>exact SV T x q t
    |some p=>exact Tv T x q t p
  |fieldAddr T x f=>exact T3 T x f
  |field T x f=>exact nj T x f
  |indexAddr T x y=>exact Tz T x y
  |index T x y=>exact ni T x y
  |lookup T m x ok=>exact hU T m x ok
  |mapUpdate T m x y=>exact Tw T m x y
  |insert T m x y=>exact hY T m x y
  |mapEntry T m x=>exact Y2 T m x
  |entryStore T m s y=>exact SW T m s y
  |extract x i=>exact aR x i
  |makeInterface T x=>exact Ns T x
  |typeAssert x T l ok=>exact SU x T l ok
  |call c=>
   obtain⟨d,args,e⟩:=c;cases d with
    |value f=>exact ue u f args e
    |invoke r n=>intro R ty ρ H fz slot k r h;simp[evalOp,Jw]at h
    |builtin b=>
     cases b with
      |len=>exact AC6 args e
      |append=>exact iB args e
      |cap=>exact AC7 args e
      |min=>exact AC4 args e
      |max=>exact AC5 args e
      |clear=>exact nk args e
      |_=>intro R ty ρ H fz slot k r h;simp[evalOp,Hh]at h
  |_=>intro R ty ρ H fz slot k r h;simp[evalOp,Hh]at h
end
class DfI where
 d:List Deferred
instance noDf:DfI:=⟨[]⟩
structure SI[DfI](w:World)(F:Nat->Prop)(m:Mp)(st:St)(a:Act):Prop where
 tmps:∀ t,Rep w F m st.heap (st.tmps.f t) (a.tmps.getD t undef)
 size:st.tmps.n=a.tmps.size
 heap:HI w F m st.heap st.frz
 defers:a.defers=DfI.d
def ANi[DfI]{R:Type}(r:R)(k:St->Option R)(w:World)(F:Nat->Prop)(m:Mp)(H:List Ob)(fz:List Bool)(c:Act)(w':World):Prop:=
 ∃ st' a b,k st'=some r/\SI w' a b st' c/\Ext w F m H fz w' a b st'.heap st'.frz
section
variable [DfI] {P:Program} {E:Env} {R:Type} {r:R}
theorem SI.put{w:World}{F:Nat->Prop}{m:Mp}{st:St}{a:Act}(h:SI w F m st a){v:AV}{u:Value}(f:Rep w F m st.heap v u)(d:Option Tmp):SI w F m (st.put d v) (a.put d u):=by
 cases d with
  |none=>exact h
  |some d=>refine⟨fun t => ?_,by simp[St.put,Tm.set,Act.put,h.size],h.heap,h.defers⟩;simp only[St.put,Act.put,Tm.Sm];have:=h.tmps t;rw[ASA]at this |-;by_cases e:t=d;subst e;by_cases b:t<st.tmps.n;have c:t<a.tmps.size:=h.size▸b;grind;have c:¬ t<a.tmps.size:=h.size▸b;grind;grind
theorem SI.go{w w':World}{F b:Nat->Prop}{m c:Mp}{st:St}{a:Act}(h:SI w F m st a){e:Eff}(d:BO w F m st.heap st.frz w' b c (Cp e st.heap) (Eo e st.frz)):SI w' b c (st.app e) a:=
 ⟨fun t=>d.1.rep h.heap (h.tmps t),h.size,d.2,h.defers⟩
theorem SI.lit{w:World}{F:Nat->Prop}{m:Mp}{st:St}{a:Act}(h:SI w F m st a){d:Nat}{b:Bool}(hd:st.tmps.f d = .data .bool b):SI w F m { st with tmps:=st.tmps.set d (.data .bool b) } a:=by rw[Tm.L7 hd];exact h
theorem N9{w:World}{F:Nat->Prop}{m:Mp}{st:St}{a:Act}(h:SI w F m st a){ops:Array Oper}{j d:Nat}(l:(ops.toList[j]?).bind (·.dst)=some d){b:Bool}(hd:st.tmps.f d = .data .bool b):
  yielded ops a.tmps j=some b:=by
 have i:=h.tmps d;rw[hd]at i;have e:=De i;have c:d<a.tmps.size:=by rcases ATc d a.tmps.size with g|g;exact g;rw[ASA,Array.getElem?_eq_none g]at e;cases e
 rw[ASA,ASv c]at e;simp only[ASM]at e;have k:(ops[j]?).bind (·.dst)=some d:=by grind
 unfold yielded;grind
theorem Pc{w:World}{F:Nat->Prop}{m:Mp}{H:List Ob}:Rep w F m H CK undef:=by unfold CK Rep;exact⟨#[],rfl,by unfold BA;rfl⟩
theorem PC{w:World}{F:Nat->Prop}{m:Mp}{st:St}{a:Act}(h:SI w F m st a){ops:Array Oper}{j d:Nat}(k:(ops.toList[j]?).bind (·.dst)=some d)(hd:st.tmps.f d = .tup []):
  yielded ops a.tmps j=none:=by
 have b:=h.tmps d;rw[hd]at b;have c:(ops[j]?).bind (·.dst)=some d:=by grind
 unfold yielded;rw[c];unfold Rep at b;obtain⟨us,e,_⟩:=b;rcases ATc d a.tmps.size with g|i;all_goals simp_all
theorem Oz{w:World}{F:Nat->Prop}{m:Mp}{st:St}{a:Act}(h:SI w F m st a){ops:Array Oper}{o:Oper}{f i:St->Option R}(e:guarded R ops.toList o.guard st f i=some r):
  ∃ st',SI w F m st' a/\st'.heap=st.heap/\st'.frz=st.frz/\((Region.wanted o (yielded ops a.tmps)=true/\f st'=some r)\/(Region.wanted o (yielded ops a.tmps)=false/\i st'=some r)):=by unfold guarded at e;split at e;rename_i c;exact⟨st,h,rfl,rfl,.inl ⟨by simp[Region.wanted,c],e⟩⟩;rename_i j k c;split at e;cases e;rename_i d l;split at e;rename_i b hd;have g:=N9 h l hd;split at e;split at e;exact⟨_,h.lit hd,rfl,rfl,.inl ⟨by simp[Region.wanted,c,g],e⟩⟩;exact⟨_,h.lit hd,rfl,rfl,.inr ⟨by simp[Region.wanted,c,g],e⟩⟩;split at e;exact⟨_,h.lit hd,rfl,rfl,.inr ⟨by simp[Region.wanted,c,g],e⟩⟩;exact⟨_,h.lit hd,rfl,rfl,.inl ⟨by simp[Region.wanted,c,g],e⟩⟩;rename_i hd;exact⟨st,h,rfl,rfl,.inr ⟨by simp[Region.wanted,c,PC h l hd],e⟩⟩;grind
theorem AAE(K:∀ g,BQ P g (E.spec g)){ops:Array Oper}{Q:Exit->Act->World->Prop}{k:St->Option R}:∀ (b pre:List Oper) (slot:Nat) (st:St) (w:World) (F:Nat->Prop) (m:Mp) (a:Act),ops.toList=pre++b ->
  FV P E R ops.toList b slot st k=some r->SI w F m st a->(∀ l w',ANi r k w F m st.heap st.frz l w'->Q .normal l w')->wpOps P ops Q (List.range' pre.length b.length) a w:=by
 intro b;induction b with
  |nil=>intro pre slot st w F m a _ h s q;exact q a w ⟨st,F,m,h,s,Ext.refl ..⟩
  |cons o b G=>
   intro pre slot st w F m a n h s q;simp only[FV]at h;have p:ops[pre.length]? = some o:=by rw[<- ASa,n];simp
   have c:ops.toList=(pre++[o])++b:=by grind
   have H:(pre++[o]).length=pre.length+1:=by simp
   rw[ARy,ATD];simp only[wpOps,p];obtain⟨st',d,t,y,L⟩:=Oz s h;rcases L with⟨z,M⟩|⟨z,N⟩
   rw[ARt z];left;obtain⟨v,e,O,_,S⟩:=Ej K o.op R _ _ _ _ _ _ _ M;refine S w F m a o _ Q rfl rfl d.heap (fun x=>Ev d.tmps x) fun u w' T U I V => ?_;have f:=(d.go I).put V o.dst;have:=G (pre++[o]) _ _ w' T U (a.put o.dst u) c O f fun l i ⟨j,A,B,C,D,W⟩=>q l i ⟨j,A,B,C,D,by
    have J:=I.1;rw[t,y]at J;refine J.trans ?_;have:((st'.app e).put o.dst v).heap=Cp e st.heap/\((st'.app e).put o.dst v).frz=Eo e st.frz:=by cases o.dst<;>simp[St.put,St.app,t,y]
    grind⟩
   grind;rw[ARv (by simp[z])];have f:SI w F m (st'.put o.dst CK) (a.put o.dst undef):=d.put Pc o.dst;have:=G (pre++[o]) _ _ w F m (a.put o.dst undef) c N f fun l i ⟨j,A,B,C,D,W⟩=>q l i ⟨j,A,B,C,D,by
    have:(st'.put o.dst CK).heap=st.heap/\(st'.put o.dst CK).frz=st.frz:=by cases o.dst<;>simp[St.put,t,y]
    grind⟩
   grind
theorem HI.pad{w:World}{F:Nat->Prop}{m:Mp}{H:List Ob}{fz:List Bool}(hi:HI w F m H fz)(n:Nat):BO w F m H fz w F m (H++List.replicate n .free) (fz++List.replicate n false):=by
 have q:∀ i o,H[i]? = some o->(H++List.replicate n Ob.free)[i]? = some o:=fun i o h=>by rw[ATH (BS h)];exact h
 have a:∀ i o,(H++List.replicate n Ob.free)[i]? = some o->H[i]? = some o\/o=Ob.free:=fun i o h=>by rcases ATc i H.length with y|y;rw[ATH y]at h;exact .inl h;grind
 have s:∀ i,(fz++List.replicate n false).getD i false=fz.getD i false:=fun i=>by grind
 have f:∀ i:Ix,owned (H++List.replicate n .free) (fz++List.replicate n false) i->owned H fz i:=fun i g=>by
  obtain⟨o,j,u,D⟩:=Dr g;rcases a i.id o j with z|z;have g:=(DM (H:=H) (j.trans z.symm)).1 g;cases i with
   |r i k=>simp only[owned]at *;grind
   |o i=>simp only[owned,Cd]at *;grind
  grind
 have d:C8 H (H++List.replicate n .free) m m:=by
  intro i o g l;rcases C8.refl H m i o g l with h|⟨hd,o',j,u,_⟩
  all_goals grind
 refine⟨⟨rfl,rfl,rfl,ARo _,fun _ _ _=>rfl,fun _ h=>h,fun _ h=>.inl h,fun i b c j u=>.inl ⟨i,c,f i j,u⟩,d⟩,⟨?_,?_,?_,?_,?_,?_,hi.lt,hi.glo,by simp[hi.len]⟩⟩;intro id o g;rcases a id o g with h|rfl;exact ObI.mono (fun _ _=>rfl) (fun _ h=>h) d (fun _ _ _ _ _ _=>rfl) (hi.obj id o h);trivial;intro i;cases g:H[i]? with
  |none=>intro T e t xs ver out j;grind
  |some o=>exact Cq.mono (fun _ _=>rfl) (fun _ h=>h) d ((q i o g).trans g.symm) (fun _ _=>rfl) (fun _ _ _ _ _ _ _=>rfl) (hi.row i)
 intro i T e t xs ver out p l x A B b c C;rw[s]at l;rcases a i _ p with h|h;exact hi.rfz i T e t xs ver out h l x A ((DK (by grind)).1 B) b c C;grind;exact fun i k b c b' c' j u=>hi.sep i k b c b' c' (f i j) (f k u);exact fun i b c j=>hi.off i b c (f i j);intro i T t xs b c p l v;rw[s]at l;rcases a i _ p with h|h;exact hi.froz i T t xs b c h l v;grind
theorem SI.pad{w:World}{F:Nat->Prop}{m:Mp}{st:St}{a:Act}(h:SI w F m st a)(n:Nat):SI w F m (st.pad n) a/\Ext w F m st.heap st.frz w F m (st.pad n).heap (st.pad n).frz:=by have b:=h.heap.pad n;exact⟨⟨fun t=>b.1.rep h.heap (h.tmps t),h.size,b.2,h.defers⟩,b.1⟩
theorem fD(c:∀ g,BQ P g (E.spec g)){id:Nat}{ops:Array Oper}{Q:Exit->Act->World->Prop}{k:St->Option R}{st:St}{w:World}{F:Nat->Prop}{m:Mp}{a:Act}(h:GF P E R ops.toList st k=some r)(d:SI w F m st a)
  (e:∀ b w',ANi r k w F m st.heap st.frz b w'->Q .normal b w'):(Code.region id ops false).wp P Q a w:=by unfold GF at h;rw[MM]at h;obtain⟨f,i⟩:=d.pad (Cu ops.toList);have:=AAE c ops.toList [] _ _ w F m a (by simp) h f fun b w' ⟨st',j,l,n,o,p⟩=>e b w' ⟨st',j,l,n,o,i.trans p⟩;rw[ASD,ARz,<- ATW]at this;exact wp_region this
end
theorem En{H H':List Ob}(t:Ty)(v:AV)(h:∀ id∈BR v,H[id]? = H'[id]?):EV H t v=EV H' t v:=by cases v<;>simp only[EV];rename_i id;rw[h id (by simp[BR])];rename_i id off n;rw[h id (by simp[BR])];rename_i id;rw[h id (by simp[BR])]
theorem s9{α:Type}{one a:List AV->Option (α×List Nat×List AV)}{H H':List Ob}
  (i:∀ cs,(∀ id∈Bt cs,H[id]? = H'[id]?)->one cs=a cs) (j:∀ cs x f r,one cs=some (x,f,r)->∃ d,cs=d++r) :
  ∀ (n:Nat) (cs:List AV),(∀ id∈Bt cs,H[id]? = H'[id]?)->QH one n cs=QH a n cs:=by
 intro n;induction n with
  |zero=>intro cs _;rfl
  |succ n k=>
   intro cs h;simp only[QH];rw[<- i cs h];cases g:one cs with
    |none=>rfl
    |some p=>
     obtain⟨x,f,r⟩:=p;simp only;obtain⟨d,l⟩:=j _ _ _ _ g;rw[k r fun id b=>h id (by
      subst l;clear g;induction d with
       |nil=>exact b
       |cons c d e=>simp only[ASG,Bt,AR6];exact .inr (e fun id b=>h id (by simp only[ASG,Bt,AR6];grind)))]
theorem ABl{α:Type}{one:List AV->Option (α×List Nat×List AV)}(b:∀ cs x f r,one cs=some (x,f,r)->∃ a,cs=a++r):
  ∀ (n:Nat) (cs:List AV) (xs:List α) (f:List Nat) (r:List AV),QH one n cs=some (xs,f,r)->∃ a,cs=a++r:=by
 intro n;induction n with
  |zero=>intro cs xs f r h;simp only[QH,ARi,ARw]at h;simp_all
  |succ n c=>intro cs xs f r h;simp only[QH]at h;grind
theorem QI{H:List Ob}:∀ (t:Ty) (cs:List AV) (x:t.den) (f:List Nat) (r:List AV),BT H t cs=some (x,f,r)->∃ d,cs=d++r:=by
 intro t;induction t with
  |unit=>intro cs x f r h;simp only[BT,ARi,ARw]at h;simp_all
  |bool=>
   intro cs x f r h;cases cs with
    |nil=>simp[BT]at h
    |cons c cs=>unfold BT at h;split at h;cases h;simp only[ARi,ARw]at h;exact⟨[c],by grind⟩
  |int k=>
   intro cs x f r h;cases cs with
    |nil=>simp[BT]at h
    |cons c cs=>unfold BT at h;split at h;cases h;simp only[ARi,ARw]at h;exact⟨[c],by grind⟩
  |slice e _=>
   intro cs x f r h;cases cs with
    |nil=>simp[BT]at h
    |cons c cs=>unfold BT at h;split at h;cases h;simp only[ARi,ARw]at h;exact⟨[c],by grind⟩
  |nul e=>
   intro cs x f r h;cases cs with
    |nil=>simp[BT]at h
    |cons c cs=>unfold BT at h;split at h;cases h;simp only[ARi,ARw]at h;exact⟨[c],by grind⟩
  |mapi j e _=>
   intro cs x f r h;cases cs with
    |nil=>simp[BT]at h
    |cons c cs=>unfold BT at h;split at h;cases h;simp only[ARi,ARw]at h;exact⟨[c],by grind⟩
  |prod a b g i=>intro cs x f r h;simp only[BT]at h;grind
  |arr n e l=>intro cs x f r h;simp only[BT]at h;exact ABl l n cs _ _ _ h
theorem Ec(a b:List AV):Bt (a++b)=Bt a++Bt b:=by
 induction a with
  |nil=>rfl
  |cons x a c=>simp[Bt,c]
theorem Nx{H H':List Ob}:∀ (t:Ty) (cs:List AV),(∀ id∈Bt cs,H[id]? = H'[id]?)->BT H t cs=BT H' t cs:=by
 intro t;induction t with
  |unit=>intro cs _;cases cs<;>rfl
  |bool=>
   intro cs h;cases cs with
    |nil=>rfl
    |cons c cs=>unfold BT;rw[En .bool c fun id d=>h id (by simp[Bt,d])]
  |int k=>
   intro cs h;cases cs with
    |nil=>rfl
    |cons c cs=>unfold BT;rw[En (.int k) c fun id d=>h id (by simp[Bt,d])]
  |slice e _=>
   intro cs h;cases cs with
    |nil=>rfl
    |cons c cs=>unfold BT;rw[En (.slice e) c fun id d=>h id (by simp[Bt,d])]
  |nul e=>
   intro cs h;cases cs with
    |nil=>rfl
    |cons c cs=>unfold BT;rw[En (.nul e) c fun id d=>h id (by simp[Bt,d])]
  |mapi j e _=>
   intro cs h;cases cs with
    |nil=>rfl
    |cons c cs=>unfold BT;rw[En (.mapi j e) c fun id d=>h id (by simp[Bt,d])]
  |prod a b g i=>
   intro cs h;simp only[BT];rw[<- g cs h];cases l:BT H a cs with
    |none=>rfl
    |some p=>obtain⟨x,f,r⟩:=p;simp only;obtain⟨o,rfl⟩:=QI a _ _ _ _ l;rw[i r fun id d=>h id (by rw[Ec];grind)]
  |arr n e m=>intro cs h;simp only[BT];exact s9 m (QI e) n cs h
theorem Ce{H H':List Ob}(t:Ty)(v:AV)(h:∀ id∈BR v,H[id]? = H'[id]?):FP H t v=FP H' t v:=by unfold FP;split;cases v<;>simp only[asAgg];rename_i cs;rw[Nx t cs fun id a=>h id (by simpa [BR]using a)];exact En t v h
theorem TO{H H':List Ob}(t:Ty)(v:AV)(h:∀ id∈BR v,H[id]? = H'[id]?):ZA H t v=ZA H' t v:=by have a:=Ce t v h;cases v<;>simp only[ZA]<;>first|exact a|(rw[a,h _ (by simp[BR])])
structure RI(T:List Nat)(slot n:Nat)(W:List Nat)(H H':List Ob)(fz fz':List Bool):Prop where
 heap:∀ id∈T,H[id]? = H'[id]?
 slotH:∀ s,slot<=s->s<slot+n->H[s]? = H'[s]?
 slotF:∀ s,slot<=s->s<slot+n->fz.getD s false=fz'.getD s false
 len:fz.length=fz'.length
 wrF:∀ id∈W,fz.getD id false=fz'.getD id false
theorem Ef{T:List Nat}{slot n:Nat}{W:List Nat}{H H':List Ob}{fz fz':List Bool}(h:RI T slot n W H H' fz fz'){s:Nat}(a:slot<=s)(b:s<slot+n)(c:List Nat):
  Bb H (BF c fz) s=Bb H' (BF c fz') s:=by unfold Bb;rw[h.slotH s a b,Bd,Bd,h.slotF s a b,h.len]
theorem DU{T:List Nat}{slot n:Nat}{W:List Nat}{H H':List Ob}{fz fz':List Bool}(h:RI T slot n W H H' fz fz'){s:Nat}(a:slot<=s)(b:s<slot+n):
  Bb H fz s=Bb H' fz' s:=Ef h a b []
theorem C9{T W:List Nat}{slot n:Nat}{H H':List Ob}{fz fz':List Bool}(h:RI T slot n W H H' fz fz'){id:Nat}(a:id∈W)(b:List Nat):
  BG (BF b fz) id=BG (BF b fz') id:=by unfold BG;rw[Bd,Bd,h.wrF id a,h.len]
def Gf(s:Spec):Prop:=
 ∀ R args H H' fz fz' slot k,RI (Bt args) slot 4 [] H H' fz fz'->s R args H fz slot k=s R args H' fz' slot k
def VR(S:List Nat)(H:List Ob):Prop:=∀ id∈S,∀ cs,H[id]? = some (.box cs)->∀ j∈Bt cs,j∈S
def Fv(s:Spec):Prop:=
 ∀ R args H H' fz fz' slot k (S:List Nat),(∀ id∈Bt args,id∈S)->VR S H->RI S slot 4 S H H' fz fz'->s R args H fz slot k=s R args H' fz' slot k
def EX(E:Env):Prop:=(∀ g,E.loc g=true->Gf (E.spec g))/\∀ g,E.FY g=true->Fv (E.spec g)
section
variable {P:Program} {E:Env}
theorem K7{ρ ρ':Operand->AV}{l:List Operand}(h:∀ x∈l,ρ x=ρ' x):l.map ρ=l.map ρ':=List.map_congr_left h
theorem Su{ρ ρ':Operand->AV}{l:List (Nat×Operand)}(h:∀ x∈l.map (·.2),ρ x=ρ' x):(l.map fun p=>(p.1,ρ p.2))=l.map fun p=>(p.1,ρ' p.2):=
 List.map_congr_left fun p a=>by grind
theorem QE{ρ ρ':Operand->AV}{o:Option Operand}(h:∀ x∈o.toArray,ρ x=ρ' x):E7 ρ o=E7 ρ' o:=by
 cases o with
  |none=>rfl
  |some x=>simp only[E7];grind
theorem Cj{R:Type}{ρ ρ':Operand->AV}(o:Op)(ty:TypeId)(H:List Ob)(fz:List Bool)(slot:Nat)(k:AV->Eff->Option R)(h:∀ x∈o.operands,ρ x=ρ' x):
  evalOp P E R o ty ρ H fz slot k=evalOp P E R o ty ρ' H fz slot k:=by
 cases o with
  |call c=>
   obtain⟨g,args,t⟩:=c;cases g with
    |value f=>have A:=h f (by simp[Op.operands,Call.operands]);have p:args.toList.map ρ=args.toList.map ρ':=K7 fun x e=>h x (by simp[Op.operands,Call.operands];grind);simp only[evalOp,Jw,A,p]
    |invoke r n=>rfl
    |builtin b=>
     have p:∀ x∈args.toList,ρ x=ρ' x:=fun x e=>h x (by simp[Op.operands,Call.operands];grind);cases b with
      |len=>
       simp only[evalOp,Ml];cases s:args.toList with
        |nil=>rfl
        |cons x r=>cases r with
         |nil=>
          rw[s]at p
          cases t.toList with
          |nil=>rfl
          |cons T r=>grind
         |cons y r=>rfl
      |append=>
       simp only[evalOp,Dh];cases s:args.toList with
        |nil=>rfl
        |cons x r=>cases r with
         |nil=>rfl
         |cons y r=>cases r with
          |nil=>
           rw[s]at p
           cases t.toList with
           |nil=>rfl
           |cons T r=>cases r with
            |nil=>rfl
            |cons I r=>cases r with
             |nil=>simp only[p x (by simp),p y (by simp)]
             |cons B r=>rfl
          |cons z r=>rfl
      |cap=>simp only[evalOp,xF];grind
      |clear=>
       simp only[evalOp,Hh];cases s:args.toList with
        |nil=>rfl
        |cons x r=>grind
      |min=>simp only[evalOp,xD];grind
      |max=>simp only[evalOp,xE];grind
      |_=>rfl
  |build T parts=>have:=Su (ρ:=ρ) (ρ':=ρ') (l:=parts.toList) fun x e=>h x (by simpa [Op.operands]using e);simp only[evalOp,LQ,this]
  |buildSlice T n parts=>have:=Su (ρ:=ρ) (ρ':=ρ') (l:=parts.toList) fun x e=>h x (by simpa [Op.operands]using e);simp only[evalOp,El,this]
  |makeFunc fn first cs=>
   cases fn with
    |func f=>have:=K7 (ρ:=ρ) (ρ':=ρ') (l:=cs.toList) fun x e=>h x (by simp[Op.operands];grind);have u:=K7 (ρ:=ρ) (ρ':=ρ') (l:=first.toList) fun x e=>h x (by simp[Op.operands];grind);simp only[evalOp,E9,this];grind
    |_=>rfl
  |slice T x C v D=>
   have e:=h x (by simp[Op.operands]);have i:=QE (ρ:=ρ) (ρ':=ρ') (o:=C) fun y F=>h y (by simp[Op.operands];grind);have j:=QE (ρ:=ρ) (ρ':=ρ') (o:=v) fun y F=>h y (by simp[Op.operands];grind);cases D with
    |none=>simp only[evalOp,DR,e,i,j]
    |some m=>have w:=h m (by simp[Op.operands]);rcases v with _|q;simp only[evalOp,DR,e,i,j,w];have G:=h q (by simp[Op.operands]);cases q<;>simp only[evalOp,DR,e,i,j,w,G]
  |makeMap T o=>cases o<;>rfl
  |pick a b c=>simp only[evalOp,SA,h a (by simp[Op.operands]),h b (by simp[Op.operands]),h c (by simp[Op.operands])]
  |mapUpdate a b c d=>simp only[evalOp,FM,h b (by simp[Op.operands]),h c (by simp[Op.operands]),h d (by simp[Op.operands])]
  |mapEntry a b c=>simp only[evalOp,GS,h b (by simp[Op.operands]),h c (by simp[Op.operands])]
  |entryStore a b c d=>simp only[evalOp,Fi,h b (by simp[Op.operands]),h c (by simp[Op.operands]),h d (by simp[Op.operands])]
  |insert a b c d=>simp only[evalOp,Mm,h b (by simp[Op.operands]),h c (by simp[Op.operands]),h d (by simp[Op.operands])]
  |move x|assign x|box _ x|load _ x|nilCheck x|unOp _ _ x|convert _ _ x|fieldAddr _ x _|field _ x _|extract x _|makeInterface _ x|typeAssert x _ _ _=>simp only[evalOp,nC,GU,KS,Qf,Dl,Jv,Ez,DV,Ek,R_,h x (by simp[Op.operands])]
  |store _ x y|binOp _ _ x y _|makeSlice _ x y|indexAddr _ x y|index _ x y|lookup _ x y _=>simp only[evalOp,DS,LP,CJ,ES,G8,Gm,h x (by simp[Op.operands]),h y (by simp[Op.operands])]
  |_=>rfl
theorem IL{ρ:Operand->AV}{o:Op}{x:Operand}(b:x∈o.operands){id:Nat}(a:id∈BR (ρ x)):id∈HJ ρ o:=by unfold HJ;grind
theorem Tk{H H':List Ob}(t:Ty):∀ (a:List (Nat×AV)) (xs:List t.den) (b:List Nat),(∀ p∈a,∀ id∈BR p.2,H[id]? = H'[id]?)->D_ H t a xs b=D_ H' t a xs b:=by
 intro a;induction a with
  |nil=>intro xs b _;rfl
  |cons p a c=>
   intro xs b h;obtain⟨i,v⟩:=p;simp only[D_];rw[Ce t v (h (i,v) (by simp))];cases FP H' t v with
    |none=>rfl
    |some q=>cases decide (i<xs.length)with
     |true=>exact c _ _ fun p d=>h p (by simp[d])
     |false=>rfl
theorem Gj:∀ (t:Ty) (d:t.den),Bt (CB t d)=[]:=by
 intro t;induction t with
  |unit=>intro d;rfl
  |bool=>intro d;rfl
  |int k=>intro d;rfl
  |slice e _=>intro d;rfl
  |nul e=>intro d;rfl
  |mapi j e _=>intro d;rfl
  |prod a b c f=>intro d;simp only[CB];rw[Ec,c,f];rfl
  |arr n e h=>
   intro d;simp only[CB];have m:∀ l:List Nat,Bt (l.flatMap fun i=>CB e (A5 d i e.zero))=[]:=by
    intro l;induction l with
     |nil=>rfl
     |cons x xs g=>rw[AT9,Ec,h,g];rfl
   grind
theorem qg(l:List AV)(n:Nat){id:Nat}(h:id∈Bt (l.take n)):id∈Bt l:=by have:=ASx n l;rw[<- this,Ec];simp[h]
theorem qh(l:List AV)(n:Nat){id:Nat}(h:id∈Bt (l.drop n)):id∈Bt l:=by have:=ASx n l;rw[<- this,Ec];simp[h]
theorem cells?_refs{v:AV}{vs:List AV}(h:cells? v=some vs){id:Nat}(c:id∈Bt vs):id∈BR v:=by
 cases v with
  |Cv=>simp[cells?]at h
  |tup _=>simp[cells?]at h
  |agg cs=>simp only[cells?,ARi]at h;subst h;simpa [BR]using c
  |data t d=>
   cases t with
    |unit=>simp only[cells?,ARi]at h;subst h;simp[Bt]at c
    |prod a b=>simp only[cells?,ARi]at h;subst h;rw[Gj]at c;cases c
    |arr n e=>simp only[cells?,ARi]at h;subst h;rw[Gj]at c;cases c
    |bool=>simp only[cells?,ARi]at h;subst h;simpa [Bt]using c
    |int k=>simp only[cells?,ARi]at h;subst h;simpa [Bt]using c
    |slice e=>simp only[cells?,ARi]at h;subst h;simpa [Bt]using c
    |nul e=>simp only[cells?,ARi]at h;subst h;simpa [Bt]using c
    |mapi j e=>simp only[cells?,ARi]at h;subst h;simpa [Bt]using c
  |_=>simp only[cells?,ARi]at h;subst h;simpa [Bt]using c
theorem qx{t:Ty}{d:t.den}{v:AV}{vs cs:List AV}{s:Nat}(b:EI (CB t d) vs s=some cs)(c:cells? v=some vs){id:Nat}(a:id∈Bt cs):id∈BR v:=by unfold EI at b;split at b;simp only[ARi]at b;subst b;rw[Ec,Ec,AR6,AR6]at a;rcases a with(a|a)|a;have:=qg _ _ a;rw[Gj]at this;grind;exact cells?_refs c a;have:=qh _ _ a;rw[Gj]at this;grind;grind
theorem N1{R:Type}(hL:EX E){ρ:Operand->AV}(o:Op)(ty:TypeId){H H':List Ob}{fz fz':List Bool}{slot:Nat}(k:AV->Eff->Option R)
  (w:RI (HJ ρ o) slot (slotsOf o) (EF ρ o) H H' fz fz') (hl:FX E ρ o=true):evalOp P E R o ty ρ H fz slot k=evalOp P E R o ty ρ H' fz' slot k:=by
 have B:∀ x∈o.operands,∀ id∈BR (ρ x),H[id]? = H'[id]? := fun x v id m=>w.heap id (IL v m);have own:∀ x∈o.operands,∀ id,ρ x = .own id->H[id]? = H'[id]? := fun x v id h=>B x v id (by rw[h];simp[BR]);have win:∀ x∈o.operands,∀ id off n,ρ x = .win id off n->H[id]? = H'[id]? := fun x v id off n h=>B x v id (by rw[h];simp[BR]);have D:∀ x∈o.operands,∀ id off,ρ x = .ptr id off->H[id]? = H'[id]? := fun x v id off h=>B x v id (by rw[h];simp[BR]);have C:∀ x∈o.operands,∀ id i s,ρ x = .eptr id i s->H[id]? = H'[id]? := fun x v id i s h=>B x v id (by rw[h];simp[BR]);have F:∀ x∈o.operands,∀ id,ρ x = .mp id->H[id]? = H'[id]? := fun x v id h=>B x v id (by rw[h];simp[BR]);cases o with
  |alloc T=>simp only[evalOp,NV,DU w (s:=slot) (ARo _) (by simp[slotsOf])]
  |box T x=>simp only[evalOp,nC,DU w (s:=slot) (ARo _) (by simp[slotsOf])]
  |buildSlice T n parts=>
   have M:∀ (t:Ty) xs I,D_ H t (parts.toList.map fun p=>(p.1,ρ p.2)) xs I=D_ H' t (parts.toList.map fun p=>(p.1,ρ p.2)) xs I:=fun t xs I=>
    Tk t _ xs I fun p Z id m=>by
     obtain⟨q,hq,rfl⟩:=ASC.1 Z
     exact B q.2 (by simp[Op.operands];grind) id m
   simp only[evalOp,El,M,Ef w (s:=slot) (ARo _) (by simp[slotsOf]),DU w (s:=slot) (ARo _) (by simp[slotsOf])];cases sliceAt P T with
    |some p=>rfl
    |none=>
     dsimp only;cases cellAt P T with
      |none=>rfl
      |some e=>cases decide (n=1)with
       |false=>rfl
       |true=>
        cases hps:parts.toList with
        |nil=>rfl
        |cons p r=>cases r with
         |cons p' r=>rfl
         |nil=>
          simp only[ASE,ATJ]
          cases v:ρ p.2<;>try rfl
          rename_i id i s
          dsimp only
          simp only[Db,C p.2 (by simp[Op.operands];exact⟨p.1,(by simpa using (show p∈parts.toList by grind))⟩) id i s v]
  |load T x=>
   simp only[evalOp,Jv];cases CD P T with
    |none=>rfl
    |some n=>cases Ew P T with
     |none=>rfl
     |some ag=>
      cases v:ρ x<;>try rfl
      ·rename_i id off;simp only[D x (by simp[Op.operands]) id off v]
      ·rename_i id i s;simp only[C x (by simp[Op.operands]) id i s v]
  |store T x y=>
   have X:=B y (by simp[Op.operands]);simp only[evalOp,Gm];cases O:CD P T with
    |none=>rfl
    |some n=>cases Q:cells? (ρ y)with
     |none=>rfl
     |some vs=>
      dsimp only
      cases hd:decide (vs.length=n)with
      |false=>rfl
      |true=>
       dsimp only
       cases v:ρ x<;>try rfl
       ·rename_i id off;dsimp only;rw[D x (by simp[Op.operands]) id off v]
       ·rename_i id i s
        dsimp only
        rw[C x (by simp[Op.operands]) id i s v]
        have A:∀ I,BG (BF I fz) id=BG (BF I fz') id:=fun I=>C9 w (by simp[EF,v,BR]) I
        cases H'[id]? with
        |none=>rfl
        |some ob=>cases ob with
         |arr N t xs=>
          simp only[A,Ce _ (ρ y) X]
          cases t.nul? with
          |some e=>rfl
          |none=>
          dsimp only
          cases (s==0&&n==t.size)with
          |true=>rfl
          |false=>
           dsimp only
           cases Z:EI (CB t (A5 xs i t.zero)) vs s with
           |none=>rfl
           |some cs=>
            dsimp only
            rw[Nx t cs (fun id' m=>X id' (qx Z Q m))]
         |rows N e t xs ver out=>
          have hun0:BG fz id=BG fz' id:=A []
          grind
         |_=>rfl
  |nilCheck x=>
   simp only[evalOp,DV];cases v:ρ x<;>try rfl
   rename_i id off;simp only[FZ,D x (by simp[Op.operands]) id off v];rename_i id i s;simp only[Db,C x (by simp[Op.operands]) id i s v]
  |fieldAddr T x f=>
   simp only[evalOp,Dl];cases fieldAt P T f with
    |none=>rfl
    |some p=>
     obtain⟨off,size,ag⟩:=p;dsimp only;cases decide (size=0)with
      |true=>rfl
      |false=>
       dsimp only;cases v:ρ x<;>try rfl
       rename_i id off;simp only[FZ,D x (by simp[Op.operands]) id off v];rename_i id i s;simp only[Db,C x (by simp[Op.operands]) id i s v]
  |makeMap T o=>
   cases o with
    |none=>simp only[evalOp,ID,DU w (s:=slot) (ARo _) (by simp[slotsOf])]
    |some x=>rfl
  |makeSlice T x y=>simp only[evalOp,G8,DU w (s:=slot) (ARo _) (by simp[slotsOf])]
  |slice T x lo up mx=>
   have v:=B x (by simp[Op.operands]);cases mx with
    |none=>
     have K:∀ sz l h,Gh H sz (ρ x) l h R=Gh H' sz (ρ x) l h R:=fun sz l h=>by
      funext kk;unfold Gh;cases u:ρ x with
       |data t d=>cases t<;>rfl
       |own id=>dsimp only;rw[own x (by simp[Op.operands]) id u]
       |win id off n=>dsimp only;rw[win x (by simp[Op.operands]) id off n u]
       |_=>rfl
     simp only[evalOp,DR,K];cases P.underlying T with
      |none=>rfl
      |some d=>cases d with
       |array n e=>
        dsimp only
        cases E7 ρ lo with
        |none=>rfl
        |some lo=>cases E7 ρ up with
         |none=>rfl
         |some up=>
          cases u:ρ x<;>try rfl
          rename_i id n'
          dsimp only
          rw[B x (by simp[Op.operands]) id (by rw[u];simp[BR])]
       |_=>rfl
    |some mm=>
     have K:GP H (ρ x)=GP H' (ρ x):=by
      unfold GP;cases u:ρ x with
       |data t d=>cases t<;>rfl
       |own id=>simp only[Db,own x (by simp[Op.operands]) id u]
       |win id off n=>simp only[Db,win x (by simp[Op.operands]) id off n u]
       |_=>rfl
     simp only[evalOp,DR,K,DU w (s:=slot) (ARo _) (by simp[slotsOf])]
  |indexAddr T x y=>
   simp only[evalOp,CJ];cases U:P.underlying T with
    |none=>rfl
    |some d=>cases d with
     |slice e=>
      cases X:ρ y<;>try rfl
      rename_i t d'
      cases t<;>try rfl
      cases u:ρ x with
      |data t d=>cases t<;>rfl
      |own id=>dsimp only;rw[own x (by simp[Op.operands]) id u]
      |win id off n=>dsimp only;rw[win x (by simp[Op.operands]) id off n u]
      |_=>rfl
     |array n e=>
      cases X:ρ y<;>try rfl
      rename_i t d'
      cases t<;>try rfl
      rename_i j
      have hat:ZB H n (ρ x)=ZB H' n (ρ x):=by
       unfold ZB
       cases u:ρ x<;>try rfl
       rename_i id n'
       dsimp only
       rw[B x (by simp[Op.operands]) id (by rw[u];simp[BR])]
      dsimp only
      rw[hat]
      cases ZB H' n (ρ x)with
      |some q=>rfl
      |none=>
      dsimp only
      cases gAt (ρ x)with
      |some q=>rfl
      |none=>
      dsimp only
      cases CD P e with
      |none=>rfl
      |some s=>cases decide (0<=(d':Int)/\(d':Int)<(n:Int))with
       |false=>rfl
       |true=>
        dsimp only
        cases u:ρ x<;>try rfl
        ·rename_i id off;simp only[FZ,D x (by simp[Op.operands]) id off u]
        ·rename_i id i s;simp only[Db,C x (by simp[Op.operands]) id i s u]
     |_=>rfl
  |lookup T a b ok=>
   have V:=fun t=>Ce t (ρ b) (B b (by simp[Op.operands]));simp only[evalOp,ES,V];cases U:P.underlying T with
    |none=>rfl
    |some d=>cases d with
     |map kt vt=>
      cases u:ρ a with
      |data t d=>cases t<;>rfl
      |mp id=>dsimp only;rw[F a (by simp[Op.operands]) id u]
      |_=>rfl
     |_=>rfl
  |mapUpdate T a b c=>
   have V:=fun t=>Ce t (ρ b) (B b (by simp[Op.operands]));have Q:=fun t=>Ce t (ρ c) (B c (by simp[Op.operands]));simp only[evalOp,FM,V,Q];cases U:P.underlying T with
    |none=>rfl
    |some d=>cases d with
     |map kt vt=>
      cases u:ρ a<;>try rfl
      rename_i id
      dsimp only
      have A:BG fz id=BG fz' id:=C9 w (by simp[EF,u,BR]) []
      rw[F a (by simp[Op.operands]) id u,A]
     |_=>rfl
  |mapEntry T a b=>
   have V:=fun t=>Ce t (ρ b) (B b (by simp[Op.operands]));simp only[evalOp,GS];cases U:P.underlying T with
    |none=>rfl
    |some d=>cases d with
     |map kt vt=>
      cases u:ρ a<;>try rfl
      rename_i id
      dsimp only
      rw[F a (by simp[Op.operands]) id u]
      grind
     |_=>rfl
  |entryStore T a b c=>
   have Q:=fun t=>Ce t (ρ c) (B c (by simp[Op.operands]));simp only[evalOp,Fi];cases u:ρ a<;>try rfl
   rename_i id;cases O:ρ b<;>try rfl
   rename_i t d;cases t<;>try rfl
   rename_i j;cases j<;>try rfl
   dsimp only;rw[F a (by simp[Op.operands]) id u];grind
  |insert T a b c=>
   have V:=fun t=>Ce t (ρ b) (B b (by simp[Op.operands]));have Q:=fun t=>Ce t (ρ c) (B c (by simp[Op.operands]));simp only[evalOp,Mm];cases U:P.underlying T with
    |none=>rfl
    |some d=>cases d with
     |map kt vt=>
      cases u:ρ a<;>try rfl
      rename_i id
      dsimp only
      rw[F a (by simp[Op.operands]) id u]
      grind
     |_=>rfl
  |convert S T x=>have v:=fun t=>Ce t (ρ x) (B x (by simp[Op.operands]));simp only[evalOp,GU];grind
  |call c=>
   obtain⟨callee,args,Y⟩:=c;cases callee with
    |value f=>
     simp only[evalOp,Jw];cases M:ρ f<;>try rfl
     rename_i g W;dsimp only;refine hL.1 g (by simpa [FX,M]using hl) R _ H H' fz fz' slot k ⟨fun id m=>w.heap id ?_,w.slotH,w.slotF,w.len,fun id m=>by cases m⟩;rw[Ec,AR6]at m;rcases m with m|m;have L:∀ l:List Operand,id∈Bt (l.map ρ)->∃ x∈l,id∈BR (ρ x):=by
      intro l;induction l with
       |nil=>intro h;simp[Bt]at h
       |cons y l ih=>intro h;simp only[ASE,Bt,AR6]at h;grind
     obtain⟨x,J,h2⟩:=L _ m;exact IL (x:=x) (by simp[Op.operands,Call.operands];grind) h2;exact IL (x:=f) (by simp[Op.operands,Call.operands]) (by rw[M];simpa [BR]using m);rename_i g W;dsimp only;refine hL.1 g (by simpa [FX,M]using hl) R _ H H' fz fz' slot k ⟨fun id m=>w.heap id ?_,w.slotH,w.slotF,w.len,fun id m=>by cases m⟩;rw[Ec,AR6]at m;rcases m.symm with m|m;have L:∀ l:List Operand,id∈Bt (l.map ρ)->∃ x∈l,id∈BR (ρ x):=by
      intro l;induction l with
       |nil=>intro h;simp[Bt]at h
       |cons y l ih=>intro h;simp only[ASE,Bt,AR6]at h;grind
     obtain⟨x,J,h2⟩:=L _ m;exact IL (x:=x) (by simp[Op.operands,Call.operands];grind) h2;exact IL (x:=f) (by simp[Op.operands,Call.operands]) (by rw[M];simpa [BR]using m)
    |invoke r n=>rfl
    |builtin b=>
     have ops:∀ x∈args.toList,x∈Op.operands (.call { callee:=.builtin b,args:=args,argTypes:=Y }):=fun x v=>by simp[Op.operands,Call.operands];grind
     cases b with
      |len=>
       simp only[evalOp,Ml];cases J:args.toList with
        |nil=>rfl
        |cons x r=>cases r with
         |cons y r=>rfl
         |nil=>
          have v:=ops x (by grind)
          cases Y.toList with
          |nil=>rfl
          |cons T r=>cases r with
           |cons N r=>rfl
           |nil=>
            dsimp only
            cases U:P.underlying T with
            |none=>rfl
            |some d=>
             cases d with
             |slice e=>
              dsimp only
              cases u:ρ x with
              |data t d=>cases t<;>rfl
              |own id=>grind
              |win id off n=>simp only[Db,win x v id off n u]
              |_=>rfl
             |map a b=>
              grind
             |_=>rfl
      |append=>
       simp only[evalOp,Dh];cases J:args.toList with
        |nil=>rfl
        |cons s r=>cases r with
         |nil=>rfl
         |cons x r=>cases r with
          |cons z r=>rfl
          |nil=>
           have O:=ops s (by grind)
           have v:=ops x (by grind)
           have G:=DU w (s:=slot) (ARo _) (by simp[slotsOf])
           cases Y.toList with
           |nil=>rfl
           |cons T r=>cases r with
            |nil=>rfl
            |cons N r=>cases r with
             |cons T'' r=>rfl
             |nil=>
              dsimp only
              cases sliceAt P T with
              |none=>
               cases decide (T=N)with
               |false=>rfl
               |true=>
                dsimp only
                cases cellAt P T with
                |none=>rfl
                |some e=>
                 cases hvx:ρ x<;>try rfl
                 rename_i ix
                 dsimp only
                 rw[own x v ix hvx]
                 cases hvs:ρ s with
                 |own id=>grind
                 |_=>simp only[G]
              |some p=>
               obtain⟨e,t⟩:=p
               cases decide (T=N)with
               |false=>
                grind
               |true=>
                dsimp only
                rw[Ce (.slice t) (ρ x) (B x v)]
                cases FP H' (.slice t) (ρ x)with
                |none=>rfl
                |some q=>
                 obtain⟨ys,I⟩:=q
                 cases zeroAt P e with
                 |none=>rfl
                 |some zz=>
                  cases (P.info? e).map (fun i=>decide (i.bytes<=1024))with
                  |none=>rfl
                  |some bb=>cases bb with
                   |false=>rfl
                   |true=>
                    dsimp only
                    cases u:ρ s<;>try rfl
                    ·grind
                    ·rename_i id
                     have A:BG fz id=BG fz' id:=C9 w (by simp[EF,J,u,BR]) []
                     dsimp only
                     rw[own s O id u]
                     simp_all
                    ·rename_i id off n
                     have A:BG fz id=BG fz' id:=C9 w (by simp[EF,J,u,BR]) []
                     cases off with
                     |succ off=>rfl
                     |zero=>simp only[win s O id 0 n u,G,A]
                    ·grind
                    ·rename_i id i ver
                     have A:BG fz id=BG fz' id:=C9 w (by simp[EF,J,u,BR]) []
                     dsimp only
                     rw[B s O id (by rw[u];simp[BR])]
                     grind
      |clear=>
       simp only[evalOp,Hh];cases J:args.toList with
        |nil=>rfl
        |cons x r=>cases r with
         |cons z r=>rfl
         |nil=>
          have v:=ops x (by grind)
          cases Y.toList with
          |nil=>rfl
          |cons T r=>cases r with
           |cons N r=>rfl
           |nil=>
            dsimp only
            cases sliceAt P T with
            |none=>rfl
            |some p=>
             obtain⟨e,t⟩:=p
             dsimp only
             cases zeroAt P e with
             |none=>rfl
             |some zz=>
              dsimp only
              cases u:ρ x<;>try rfl
              ·rename_i id
               have A:BG fz id=BG fz' id:=C9 w (by simp[EF,J,u,BR]) []
               grind
              ·rename_i id off n
               have A:BG fz id=BG fz' id:=C9 w (by simp[EF,J,u,BR]) []
               grind
      |_=>rfl
  |makeFunc fn first cs=>cases fn<;>rfl
  |_=>rfl
theorem gU{R:Type}(h:EX E){ρ:Operand->AV}(o:Op)(ty:TypeId){H H':List Ob}{fz fz':List Bool}{slot:Nat}(k:AV->Eff->Option R)
  (d:RI (Lh ρ o) slot (slotsOf o) (EF ρ o) H H' fz fz') (j:FX E ρ o=true):evalOp P E R o ty ρ H fz slot k=evalOp P E R o ty ρ H' fz' slot k:=by
 cases o with
  |move x=>rfl
  |assign x=>rfl
  |pick c a b=>rfl
  |extract x i=>rfl
  |build T n=>rfl
  |makeFunc f a b=>cases f<;>rfl
  |store T x y=>
   by_cases m:∃ id off,ρ x = .ptr id off;obtain⟨id,off,l⟩:=m;have g:=d.heap id (by simp only[Lh,l];simp);simp only[evalOp,Gm,l,g];have e:Lh ρ (.store T x y)=HJ ρ (.store T x y):=by simp only[Lh];grind
   rw[e]at d;exact N1 h (.store T x y) ty k d j
  |_=>exact N1 h _ ty k d j
theorem bu{l:List AV}{id:Nat}(h:id∈Bt l):∃ v∈l,id∈BR v:=by
 induction l with
  |nil=>simp[Bt]at h
  |cons a l b=>simp only[Bt,AR6]at h;grind
theorem DL{l:List AV}{v:AV}{id:Nat}(b:v∈l)(h:id∈BR v):id∈Bt l:=by
 induction l with
  |nil=>cases b
  |cons a l c=>simp only[Bt,AR6];grind
theorem m9{R:Type}(p:EX E){ρ:Operand->AV}{φ:List Nat}(o:Op)(ty:TypeId){H H':List Ob}{fz fz':List Bool}{slot:Nat}(k:AV->Eff->Option R)(n:Lu E ρ o φ H=true)
  (c:RI (φ.map (· / 2)) slot (slotsOf o) (φ.map (· / 2)) H H' fz fz'):evalOp P E R o ty ρ H fz slot k=evalOp P E R o ty ρ H' fz' slot k:=by
 unfold Lu at n;simp only[ARl]at n;obtain⟨⟨m,q⟩,e⟩:=n;unfold Rp at e;split at e;rename_i f args u;split at e;rename_i g h l;simp only[evalOp,Jw,l];have d:∀ {i:Nat},rd φ i=true->i∈φ.map (· / 2):=by intro i hi;unfold rd at hi;rw[ASC];rw[ASY,ASy,ASy]at hi;rcases hi with hi|hi;exact⟨_,hi,by omega⟩;exact⟨_,hi,by omega⟩
 refine p.2 g e R _ H H' fz fz' slot k (φ.map (· / 2)) (fun id a => ?_) (fun id a cs r j s => ?_) ⟨c.heap,c.slotH,c.slotF,c.len,c.wrF⟩
 rw[AR1]at m;refine d (m id ?_);unfold HJ;rw[List.mem_flatMap];obtain⟨v,b,hi⟩:=bu a;rcases AR6.1 b with b|b;obtain⟨x,t,rfl⟩:=ASC.1 b;exact⟨x,by simp[Op.operands,Call.operands];grind,hi⟩;exact⟨f,by simp[Op.operands,Call.operands],by rw[l];simp only[BR];exact DL b hi⟩;unfold NZ at q;grind;rename_i g h l;simp only[evalOp,Jw,l];have d:∀ {i:Nat},rd φ i=true->i∈φ.map (· / 2):=by intro i hi;unfold rd at hi;rw[ASC];rw[ASY,ASy,ASy]at hi;rcases hi with hi|hi;exact⟨_,hi,by omega⟩;exact⟨_,hi,by omega⟩
 refine p.2 g e R _ H H' fz fz' slot k (φ.map (· / 2)) (fun id a => ?_) (fun id a cs r j s => ?_) ⟨c.heap,c.slotH,c.slotF,c.len,c.wrF⟩
 rw[AR1]at m;refine d (m id ?_);unfold HJ;rw[List.mem_flatMap];obtain⟨v,b,hi⟩:=bu a;rcases(AR6.1 b).symm with b|b;obtain⟨x,t,rfl⟩:=ASC.1 b;exact⟨x,by simp[Op.operands,Call.operands];grind,hi⟩;exact⟨f,by simp[Op.operands,Call.operands],by rw[l];simp only[BR];exact DL b hi⟩;unfold NZ at q;grind;grind;grind
end
section
variable {P:Program} {E:Env}
def D4(all:List Oper)(g:Option (Nat×Bool))(st:St):Option Bool:=
 match g with
 |none=>some true
 |some (j,want)=>match(all[j]?).bind (·.dst)with
  |none=>none
  |some d=>match st.tmps.f d with
   |.data .bool b=>some (b==want)
   |.tup []=>some false
   |_=>none
theorem gF{R:Type}{all:List Oper}{g:Option (Nat×Bool)}{st:St}{a c:St->Option R}{r:R}(h:guarded R all g st a c=some r):
  (D4 all g st=some true/\a st=some r)\/(D4 all g st=some false/\c st=some r):=by
 unfold guarded at h;unfold D4;split at h;grind
 ·rename_i j e;split at h;cases h
  ·rename_i d i;simp only[i];split at h
   ·rename_i b hd;have f:=Tm.L7 hd;simp only[hd];split at h;·rw[f]at h;split at h;all_goals simp_all
    ·rw[f]at h;split at h;all_goals simp_all
   all_goals grind
def Kn(E:Env)(H:List Ob)(ρ:Operand->AV)(o:Op)(φ:List Nat):Prop:=(Lr φ=true/\Lu E ρ o φ H=true)\/(within (Lh ρ o) φ=true/\NA (EF ρ o) φ=true/\FX E ρ o=true)
def DC(P:Program)(E:Env)(all:List Oper)(o:Oper)(φ:List Nat)(slot:Nat)(st a:St):Prop:=
 (D4 all o.guard st=some true/\∃ v e,(Kw φ=true\/(Kn E st.heap (BX st.tmps) o.op φ/\N2 (writer o.op||Lr φ) φ slot (slotsOf o.op) e=true)) /\
  (∀ (R:Type) (k:AV->Eff->Option R),evalOp P E R o.op o.type (BX st.tmps) st.heap st.frz slot k=k v e)/\a=(st.app e).put o.dst v) \/
 (D4 all o.guard st=some false/\a=st.put o.dst CK)
theorem XF(i:∀ g,BQ P g (E.spec g)){R:Type}{all:List Oper}{o:Oper}{φ:List Nat}{slot:Nat}{st:St}{k:St->Option R}{r:R}(h:Pb P E R all o φ slot st k=some r):
  ∃ b,DC P E all o φ slot st b/\k b=some r:=by
 unfold Pb at h;rcases gF h with⟨d,h⟩|⟨d,h⟩
 split at h;rename_i a;simp only[ASY,ARl]at a;obtain⟨v,e,f,j,_⟩:=Ej i o.op R _ _ _ _ _ _ _ h;split at f;rename_i c;rw[ASY]at c;refine⟨_,.inl ⟨d,v,e,?_,j,rfl⟩,f⟩;rcases a with a|a;grind;rcases c with c|c;grind;refine .inr ⟨?_,c⟩;rcases a with a|a;exact .inl a;exact .inr ⟨a.2.1.1,a.2.1.2,a.2.2⟩;grind;grind;exact⟨_,.inr ⟨d,rfl⟩,h⟩
def HW(P:Program)(E:Env)(all:List Oper)(fp:Nat->List Nat)(a:Nat->Nat):List Nat->St->St->Prop
 |[],st,st'=>st=st'
 |i::l,st,st'=>∃ o b,all[i]? = some o/\DC P E all o (fp i) (a i) st b/\HW P E all fp a l b st'
def By(all:List Oper)(base i:Nat):Nat:=base+Cu (all.take i)
theorem Ic(a b:List Oper):Cu (a++b)=Cu a+Cu b:=by
 unfold Cu;induction a with
  |nil=>simp
  |cons x a c=>grind
theorem Zs(n:∀ g,BQ P g (E.spec g)){R:Type}{all:List Oper}{fp:List (List Nat)}{base:Nat}{k:St->Option R}{r:R}:∀ (a pre:List Oper) (b:List (List Nat)) (slot:Nat) (st:St),
  all=pre++a->b=fp.drop pre.length->slot=By all base pre.length->JK P E R all a b slot st k=some r ->
  ∃ st',HW P E all (fun i=>fp.getD i []) (By all base) (List.range' pre.length a.length) st st'/\k st'=some r:=by
 intro a;induction a with
  |nil=>intro pre b slot st _ _ _ h;exact⟨st,rfl,h⟩
  |cons o a p=>
   intro pre b slot st j q e h;simp only[JK]at h;obtain⟨l,w,s⟩:=XF n h;have c:(pre++[o]).length=pre.length+1:=by simp
   have m:b.headD []=fp.getD pre.length []:=by simp_all
   have d:b.tail=fp.drop (pre++[o]).length:=by simp_all
   have f:slot+slotsOf o.op=By all base (pre++[o]).length:=by
    rw[e,c];unfold By;have t:all.take (pre.length+1)=pre++[o]:=by grind
    have u:all.take pre.length=pre:=by grind
    rw[t,u,Ic];simp[Cu];omega
   obtain⟨st',x,v⟩:=p (pre++[o]) _ _ l (by grind) d f s;refine⟨st',?_,v⟩;rw[ARy,ATD];refine⟨o,l,by grind,?_,by grind⟩;grind
theorem Sn:∀ (l:List (Nat×Ob)) (H:List Ob),(Bi l H).length=H.length:=by
 intro l;induction l with
  |nil=>intro H;rfl
  |cons p l a=>intro H;obtain⟨i,o⟩:=p;simp only[Bi];grind
theorem CO{i:Nat}:∀ (l:List (Nat×Ob)) (H:List Ob),(∀ p∈l,p.1≠i)->(Bi l H)[i]? = H[i]? := by
 intro l;induction l with
  |nil=>intro H _;rfl
  |cons p l a=>intro H h;obtain⟨j,o⟩:=p;simp only[Bi];simp_all
theorem Gi{i:Nat}:∀ (l:List (Nat×Ob)) (H H':List Ob),H[i]? = H'[i]?->(Bi l H)[i]? = (Bi l H')[i]? := by
 intro l;induction l with
  |nil=>intro H H' h;exact h
  |cons p l a=>intro H H' h;obtain⟨j,o⟩:=p;simp only[Bi];refine a _ _ ?_;by_cases b:i=j;all_goals grind
theorem eM(a b:List (Nat×Ob))(h:∀ p∈a,∀ q∈b,p.1≠q.1)(H:List Ob):Bi a (Bi b H)=Bi b (Bi a H):=by
 apply AS5;intro i;by_cases c:∀ p∈a,p.1≠i;rw[CO a _ c];exact Gi b _ _ (CO a _ c).symm;have d:∀ q∈b,q.1≠i:=by grind
 rw[CO b _ d];exact Gi a _ _ (CO b _ d)
theorem jw(a b:List Nat)(fz:List Bool):BF a (BF b fz)=BF b (BF a fz):=by
 apply AS5;intro i;have d:∀ (x:List Bool) (y:List Bool),x.length=y.length->(∀ i,x.getD i false=y.getD i false)->x[i]? = y[i]? := by intro x y c e;have:=e i;grind
 refine d _ _ (by simp[Dq]) fun i => ?_;rw[Bd,Bd,Bd,Bd,Dq,Dq];grind
theorem WZ{l φ:List Nat}(h:within l φ=true){i:Nat}(hi:i∈l):rd φ i=true:=by unfold within at h;grind
theorem jM{l φ:List Nat}(h:NA l φ=true){i:Nat}(hi:i∈l):wt φ i=true:=by unfold NA at h;grind
theorem MD{φ:List Nat}{i:Nat}(h:wt φ i=true):rd φ i=true:=by unfold wt at h;unfold rd;grind
theorem LR{a:Bool}{φ:List Nat}{slot n:Nat}{e:Eff}(h:N2 a φ slot n e=true):e.heap=none/\(∀ p∈e.objs,(slot<=p.1/\p.1<slot+n)\/(a=true/\wt φ p.1=true))/\∀ i∈e.frz,rd φ i=true/\ANL φ=false:=by
 unfold N2 at h;simp only[ARl]at h;obtain⟨⟨f,g⟩,c,b⟩:=h;refine⟨by simp_all,fun p j => ?_,fun i hi=>⟨WZ c hi,?_⟩⟩;grind;cases d:ANL φ with
  |false=>rfl
  |true=>
   rw[d]at b;have:e.frz=[]:=by simpa using b
   rw[this]at hi;cases hi
theorem Cf{e:Eff}(h:e.heap=none)(H:List Ob):Cp e H=Bi e.objs H:=by unfold Cp;rw[h]
theorem DJ{e:Eff}(h:e.heap=none)(F:List Bool):Eo e F=BF e.frz F:=by unfold Eo;rw[h]
theorem Cb{all:List Oper}{x y:Oper}(a:apart? all x y=true)(st:St)(v:AV):∀ z∈y.op.operands,BX (st.put x.dst v).tmps z=BX st.tmps z:=by
 obtain⟨c,_,_⟩:=Oper.apart_spec a;intro z e;cases hd:x.dst with
  |none=>rfl
  |some d=>
   cases z with
    |tmp t=>
     have b:d≠t:=by rintro rfl;refine c d hd ?_;unfold Oper.looksAt;refine List.mem_append_left _ ?_;rw[List.mem_filterMap];exact⟨.tmp d,by grind,rfl⟩
     simp[BX,St.put,Tm.Sm,ATY b]
    |const v=>rfl
    |global g=>rfl
    |func f=>rfl
theorem G6{all:List Oper}{x y:Oper}(a:apart? all x y=true)(st:St)(v:AV)(H:List Ob)(F:List Bool):D4 all y.guard ({ st with heap:=H,frz:=F }.put x.dst v)=D4 all y.guard st:=by
 obtain⟨f,_,_⟩:=Oper.apart_spec a;unfold D4;cases g:y.guard with
  |none=>rfl
  |some p=>
   obtain⟨j,c⟩:=p;dsimp only;cases h:(all[j]?).bind (·.dst)with
    |none=>rfl
    |some d=>
     dsimp only;cases hd:x.dst with
      |none=>rfl
      |some e=>
       have b:e≠d:=by rintro rfl;refine f e hd ?_;unfold Oper.looksAt;grind
       simp[St.put,Tm.Sm,ATY b]
theorem St.put_comm(st:St){x y:Option Tmp}(v u:AV)(h:∀ d,x=some d->y≠some d):(st.put x v).put y u=(st.put y u).put x v:=by
 cases x with
  |none=>rfl
  |some d=>
   cases y with
    |none=>rfl
    |some b=>have a:d≠b:=fun e=>h d rfl (by rw[e]);simp only[St.put];rw[Tm.set_comm _ _ _ a]
theorem St.Hl(st:St)(e:Eff)(d:Option Tmp)(v:AV):(st.put d v).app e=(st.app e).put d v:=by cases d<;>rfl
theorem AFa{φ:List Nat}{i:Nat}(h:rd φ i=true):∃ c∈φ,c/2=i:=by unfold rd at h;grind
theorem MV{all:List Oper}{x y:Oper}{φx φy:List Nat}{b d:Nat}(h:indep all x y φx φy b d=true):
  apart? all x y=true/\((Lr φx=false/\Lr φy=false/\UX x.op y.op=true)\/(Kw φx=true/\Cc y.op=true)\/(Kw φy=true/\Cc x.op=true)\/Kw φx=false/\Kw φy=false/\(∀ i,rd φy i=true->¬ (b<=i/\i<b+slotsOf x.op))/\(∀ i,rd φx i=true->¬ (d<=i/\i<d+slotsOf y.op))/\(∀ i,wt φx i=true->rd φy i=true->False)/\(∀ i,wt φy i=true->rd φx i=true->False)/\Je φx φy=true/\Je φy φx=true):=by
 unfold indep at h;rw[ARl]at h;obtain⟨l,h⟩:=h;refine⟨l,?_⟩;simp only[ASY,ARl,ASk]at h;rcases h with((h|h)|h)|h;grind;grind;rotate_left;grind;obtain⟨⟨⟨⟨⟨⟨m,o⟩,e⟩,f⟩,g⟩,j⟩,p,q⟩:=h;refine .inr (.inr (.inr ⟨m,o,?_⟩));rw[AR1]at e f g j;have a:∀ {φ:List Nat} {s n:Nat},(∀ c∈φ,(!(decide (s<=c/2)&&decide (c/2<s+n)))=true)->∀ i,rd φ i=true->¬ (s<=i/\i<s+n):=by intro φ s n h i hi;obtain⟨c,r,rfl⟩:=AFa hi;grind
 have k:∀ {φ ψ:List Nat},(∀ c∈φ,(decide (c % 2=0) || !(rd ψ (c/2)))=true)->∀ i,wt φ i=true->rd ψ i=true->False:=by intro φ ψ h i hi t;unfold wt at hi;grind
 exact⟨a e,a f,k g,k j,p,q⟩
theorem I5{all:List Oper}{x y:Oper}(h:apart? all x y=true):apart? all y x=true:=by obtain⟨a,b,c⟩:=Oper.apart_spec h;unfold apart? Oper.apart;grind
theorem aO{φ:List Nat}{H H':List Ob}(h:∀ i,rd φ i=true->H[i]? = H'[i]?):NZ φ H=NZ φ H':=by
 unfold NZ;rw[Bool.eq_iff_iff,AR1,AR1];have e:∀ c∈φ,H[c/2]? = H'[c/2]? := by intro c a;refine h _ ?_;unfold rd;grind
 grind
theorem iO{ρ:Operand->AV}{o:Op}{φ:List Nat}{H H':List Ob}(h:∀ i,rd φ i=true->H[i]? = H'[i]?)(a:Kn E H ρ o φ):Kn E H' ρ o φ:=by rcases a with⟨b,c⟩|a;refine .inl ⟨b,?_⟩;unfold Lu at *;rw[<- aO h];exact c;exact .inr a
theorem cU{x:Oper}{φx φy:List Nat}{c:Nat}(g:∀ i,rd φy i=true->¬ (c<=i/\i<c+slotsOf x.op))(h:∀ i,wt φx i=true->rd φy i=true->False){st:St}{vx:AV}{b:Eff}{e:Bool}(d:N2 e φx c (slotsOf x.op) b=true):
  ∀ i,rd φy i=true->((st.app b).put x.dst vx).heap[i]? = st.heap[i]? := by
 intro i hi;obtain⟨f,j,k⟩:=LR d;have a:((st.app b).put x.dst vx).heap=Bi b.objs st.heap:=by cases x.dst<;>exact Cf f _
 rw[a];refine CO _ _ fun p l => ?_;grind
theorem bO(D:EX E){all:List Oper}{x y:Oper}{φx φy:List Nat}{l e:Nat}(t:apart? all x y=true)(U:∀ i,rd φy i=true->¬ (l<=i/\i<l+slotsOf x.op))
  (F:∀ i,rd φx i=true->¬ (e<=i/\i<e+slotsOf y.op)) (V:∀ i,wt φx i=true->rd φy i=true->False) (K:∀ i,wt φy i=true->rd φx i=true->False) (L:l+slotsOf x.op<=e\/e+slotsOf y.op<=l)
  (m:Je φx φy=true) {st:St} {vx:AV} {ex:Eff} {M:Bool} (hex:N2 M φx l (slotsOf x.op) ex=true) (G:Kn E ((st.app ex).put x.dst vx).heap (BX st.tmps) y.op φy\/Kn E st.heap (BX st.tmps) y.op φy) :
  ∀ (R:Type) (k:AV->Eff->Option R),evalOp P E R y.op y.type (BX ((st.app ex).put x.dst vx).tmps) ((st.app ex).put x.dst vx).heap ((st.app ex).put x.dst vx).frz e k=evalOp P E R y.op y.type (BX st.tmps) st.heap st.frz e k:=by
 intro R k;obtain⟨H,I,N⟩:=LR hex;have g:∀ z∈y.op.operands,BX ((st.app ex).put x.dst vx).tmps z=BX st.tmps z:=fun z O=>by have:=Cb t (st.app ex) vx z O;exact this
 have b:((st.app ex).put x.dst vx).heap=Bi ex.objs st.heap:=by cases x.dst<;>exact Cf H _
 have n:((st.app ex).put x.dst vx).frz=BF ex.frz st.frz:=by cases x.dst<;>exact DJ H _
 rw[b]at G;rw[b,n];have d:∀ i,rd φy i=true->(Bi ex.objs st.heap)[i]? = st.heap[i]? := by intro i hi;refine CO _ _ fun p r => ?_;grind
 have u:Kn E st.heap (BX st.tmps) y.op φy:=G.elim (fun h=>iO d h) fun h=>h;rcases u with⟨j,v⟩|⟨v,w,Q⟩
 rw[Cj y.op y.type _ _ e k g];symm;have A:∀ c∈φy,rd φy (c/2)=true:=by intro c f;unfold rd;rw[ASY,ASy,ASy];rcases Nat.mod_two_eq_zero_or_one c with h|h;exact .inl (by rw[show 2*(c/2)=c by omega];exact f);exact .inr (by rw[show 2*(c/2)+1=c by omega];exact f)
 have nf:∀ c∈φy,c/2∉ex.frz:=by intro c f S;obtain⟨J,T⟩:=N _ S;unfold Je at m;rw[j,T]at m;simp only[ARp,ATs]at m;rw[AR1]at m;have:=m c f;rw[J]at this;simp only[ARp,Bool.or_false,ARm]at this;refine K (c/2) ?_ J;unfold wt;rw[ASy,show 2*(c/2)+1=c by omega];exact f
 refine m9 D y.op y.type k v ⟨fun id a => ?_,fun s o q => ?_,fun s o q => ?_,(Dq _ _).symm,fun id a => ?_⟩;obtain⟨c,f,rfl⟩:=ASC.1 a;exact(d _ (A c f)).symm;symm;refine CO _ _ fun p r => ?_;rintro rfl;rcases I p r with h|⟨B,h⟩
 omega;exact F _ (MD h) ⟨o,q⟩;rw[Bd];grind;obtain⟨c,f,rfl⟩:=ASC.1 a;rw[Bd];have:=nf c f;grind;have C:RI (Lh (BX st.tmps) y.op) e (slotsOf y.op) (EF (BX st.tmps) y.op) (Bi ex.objs st.heap) st.heap (BF ex.frz st.frz) st.frz:=by
  refine⟨fun id a => ?_,fun s o q => ?_,fun s o q => ?_,Dq _ _,fun id a => ?_⟩;have hφ:=WZ v a;grind;refine CO _ _ fun p r => ?_;rintro rfl;rcases I p r with h|⟨B,h⟩
  omega;exact F _ (MD h) ⟨o,q⟩;rw[Bd];grind;rw[Bd];have hφ:=jM w a;grind
 rw[Cj y.op y.type _ _ e k g];exact gU D y.op y.type k C Q
theorem dm{ρ ρ':Operand->AV}{o:Op}(h:∀ z∈o.operands,ρ z=ρ' z):EF ρ o=EF ρ' o:=by
 unfold EF;split;rw[h _ (by simp[Op.operands])];rw[h _ (by simp[Op.operands])];rw[h _ (by simp[Op.operands])];rw[h _ (by simp[Op.operands])];rw[h _ (by simp[Op.operands])];rename_i args a;cases b:args.toList with
  |nil=>rfl
  |cons s r=>
   have:s∈args:=by
    have:s∈args.toList:=by grind
    grind
   simp only;rw[h s (by simp[Op.operands,Call.operands];omega)]
 rename_i args a;cases b:args.toList with
  |nil=>rfl
  |cons s r=>
   have:s∈args:=by
    have:s∈args.toList:=by grind
    grind
   simp only;rw[h s (by simp[Op.operands,Call.operands];omega)]
 rfl
theorem Ku{ρ ρ':Operand->AV}{o:Op}(h:∀ z∈o.operands,ρ z=ρ' z):HJ ρ o=HJ ρ' o:=by
 unfold HJ;have a:∀ l:List Operand,(∀ z∈l,ρ z=ρ' z)->(l.flatMap fun x=>BR (ρ x))=l.flatMap fun x=>BR (ρ' x):=by
  intro l;induction l with
   |nil=>simp
   |cons x l b=>grind
 grind
theorem jW{ρ ρ':Operand->AV}{o:Op}(h:∀ z∈o.operands,ρ z=ρ' z):Lh ρ o=Lh ρ' o:=by
 cases o with
  |store T x y=>simp only[Lh];rw[h x (by simp[Op.operands]),Ku h]
  |move x=>rfl
  |assign x=>rfl
  |pick c a b=>rfl
  |extract x i=>rfl
  |build T d=>rfl
  |makeFunc f a b=>rfl
  |_=>exact Ku h
theorem Zz{ρ ρ':Operand->AV}{o:Op}(h:∀ z∈o.operands,ρ z=ρ' z):FX E ρ o=FX E ρ' o:=by unfold FX;split;rename_i f args a;rw[h f (by simp[Op.operands,Call.operands])];rfl
theorem HD{H:List Ob}{ρ ρ':Operand->AV}{o:Op}{φ:List Nat}(h:∀ z∈o.operands,ρ z=ρ' z)(a:Kn E H ρ o φ):Kn E H ρ' o φ:=by
 rcases a with⟨g,a⟩|⟨b,c,d⟩
 refine .inl ⟨g,?_⟩;have e:Rp E ρ o=Rp E ρ' o:=by unfold Rp;split;rename_i f args i;rw[h f (by simp[Op.operands,Call.operands])];rfl
 unfold Lu at *;rw[<- e,<- Ku h];exact a;rw[jW h]at b;rw[dm h]at c;rw[Zz h]at d;exact .inr ⟨b,c,d⟩
theorem N0{R:Type}{o:Op}(h:Cc o=true)(ty:TypeId)(ρ:Operand->AV)(H H':List Ob)(fz fz':List Bool)(slot:Nat)(k:AV->Eff->Option R):
  evalOp P E R o ty ρ H fz slot k=evalOp P E R o ty ρ H' fz' slot k:=by cases o<;>first|rfl|(simp only[Cc,AR0]at h)
theorem LM{o:Op}(h:Cc o=true)(ty:TypeId)(ρ:Operand->AV)(H:List Ob)(fz:List Bool)(slot:Nat){v:AV}{e:Eff}
  (a:∀ (R:Type) (k:AV->Eff->Option R),evalOp P E R o ty ρ H fz slot k=k v e):e = {}:=by
 have:=a Eff (fun _ e=>some e);cases o<;>first|(simp only[Cc,AR0]at h;done)|skip
 all_goals
  simp only[evalOp,SA,DS,R_,KS]at this
  grind
theorem Mq{o:Op}(h:DW o=true)(ty:TypeId)(ρ:Operand->AV)(H:List Ob)(fz:List Bool)(slot:Nat){v:AV}{e:Eff}
  (f:∀ (R:Type) (k:AV->Eff->Option R),evalOp P E R o ty ρ H fz slot k=k v e):e = {}:=by
 by_cases d:Cc o=true;exact LM d ty ρ H fz slot f;have:=f Eff (fun _ e=>some e);cases o with
  |call c=>
   obtain⟨a,args,i⟩:=c;cases a with
    |builtin b=>
     cases b<;>first|(simp only[DW,Cc,AR0]at h;done)|skip
     simp only[evalOp,Ml]at this;grind
    |_=>simp only[DW,Cc,AR0]at h
  |slice T x j hi g=>
   cases g with
    |some m=>simp only[DW,Cc,AR0]at h
    |none=>
     simp only[evalOp,DR,Gh]at this;repeat' split at this
     all_goals grind
  |makeFunc fn first cs=>
   cases fn<;>first|(simp only[DW,Cc,AR0]at h;done)|skip
   simp only[evalOp,E9]at this;grind
  |load _ _|convert _ _ _|fieldAddr _ _ _|field _ _ _|indexAddr _ _ _|index _ _ _|nilCheck _|lookup _ _ _ _|build _ _=>
   simp only[evalOp,LQ,GU,Qf,Dl,LP,CJ,Jv,ES,DV]at this;repeat' split at this
   all_goals first|(cases this;done)|(simp only[ARi]at this;exact this.symm)
  |_=>first|exact absurd h d|(simp only[DW,Cc,AR0]at h;done)|exact absurd rfl d
theorem xe{H:List Ob}{ρ:Operand->AV}{o:Op}{φ:List Nat}(h:Cc o=true)(a:Kn E H ρ o φ):within (Lh ρ o) φ=true/\NA (EF ρ o) φ=true/\FX E ρ o=true:=by rcases a with⟨_,a⟩|a;exfalso;unfold Lu at a;simp only[ARl]at a;have:=a.2;unfold Rp at this;split at this;cases h;grind;omega
theorem pn{all:List Oper}{x y:Oper}{φx φy:List Nat}{o g:Nat}(b:apart? all x y=true)(A:Kw φx=true)(p:Cc y.op=true)
  {st c s2:St} (B:DC P E all x φx o st c) (m:DC P E all y φy g c s2):∃ i,DC P E all y φy g st i/\DC P E all x φx o i s2:=by
 have d:=I5 b;obtain⟨_,j,_⟩:=Oper.apart_spec b;have t:∀ (v:AV) (H:List Ob) (F:List Bool) (s:St),D4 all y.guard ({ s with heap:=H,frz:=F }.put x.dst v)=D4 all y.guard s:=fun v H F s=>G6 b s v H F;have K:∀ (v:AV) (H:List Ob) (F:List Bool) (s:St),D4 all x.guard ({ s with heap:=H,frz:=F }.put y.dst v)=D4 all x.guard s:=fun v H F s=>G6 d s v H F;have first:∀ (c:St),(∀ z∈y.op.operands,BX c.tmps z=BX st.tmps z)->D4 all y.guard c=D4 all y.guard st->DC P E all y φy g c s2->∃ a,DC P E all y φy g st (st.put y.dst a)/\s2=c.put y.dst a:=by
  intro c e L m;rcases m with⟨C,a,M,q,u,rfl⟩|⟨C,rfl⟩
  have D:=LM p _ _ _ _ _ u;subst D;refine⟨a,.inl ⟨by grind,a,{},?_,fun R k => ?_,rfl⟩,rfl⟩;rcases q with h|⟨l,G⟩
  grind;exact .inr ⟨.inr (xe p (HD e l)),G⟩;rw[<- u R k,Cj y.op y.type _ _ g k e];exact N0 p _ _ _ _ _ _ _ _;exact⟨CK,.inr ⟨by grind,rfl⟩,rfl⟩
 have f:∀ (v:AV) (s:St),∀ z∈y.op.operands,BX (s.put x.dst v).tmps z=BX s.tmps z:=fun v s z r=>Cb b s v z r;rcases B with⟨I,vx,n,J,N,rfl⟩|⟨I,rfl⟩
 obtain⟨a,l,rfl⟩:=first _ (f vx (st.app n)) (t vx (Cp n st.heap) (Eo n st.frz) st) m
 refine⟨_,l,.inl ⟨?_,vx,n,.inl A,fun R k => ?_,?_⟩⟩;simp_all;have w:(st.put y.dst a).heap=st.heap/\(st.put y.dst a).frz=st.frz:=by cases y.dst<;>exact⟨rfl,rfl⟩
 rw[w.1,w.2,Cj x.op x.type _ _ o k fun z r=>Cb d st a z r];grind;rw[St.Hl,St.put_comm _ vx a j];obtain⟨a,l,rfl⟩:=first _ (f CK st) (t CK st.heap st.frz st) m
 refine⟨_,l,.inr ⟨?_,?_⟩⟩;simp_all;rw[St.put_comm _ CK a j]
theorem pk{all:List Oper}{x y:Oper}{φx φy:List Nat}{e n:Nat}(c:apart? all x y=true)(u:Kw φy=true)(o:Cc x.op=true)
  {st s1 s2:St} (w:DC P E all x φx e st s1) (A:DC P E all y φy n s1 s2):∃ i,DC P E all y φy n st i/\DC P E all x φx e i s2:=by
 have b:=I5 c;obtain⟨_,j,_⟩:=Oper.apart_spec c;have M:∀ (v:AV) (s:St),D4 all y.guard (s.put x.dst v)=D4 all y.guard s:=fun v s=>G6 c s v s.heap s.frz;have q:∀ (v:AV) (H:List Ob) (F:List Bool) (s:St),D4 all x.guard ({ s with heap:=H,frz:=F }.put y.dst v)=D4 all x.guard s:=fun v H F s=>G6 b s v H F;have r:∀ v:AV,(st.put x.dst v).heap=st.heap/\(st.put x.dst v).frz=st.frz:=fun v=>by cases x.dst<;>exact⟨rfl,rfl⟩
 have m:∀ (s:St) (vx:AV),(∀ z∈x.op.operands,BX s.tmps z=BX st.tmps z)->D4 all x.guard s=D4 all x.guard st->DC P E all x φx e st (st.put x.dst vx)->(∃ v,DC P E all x φx e st (st.put x.dst v)):=fun s vx _ _ h=>⟨vx,h⟩
 have xs:∃ vx,s1=st.put x.dst vx/\∀ s:St,(∀ z∈x.op.operands,BX s.tmps z=BX st.tmps z)->D4 all x.guard s=D4 all x.guard st->DC P E all x φx e s (s.put x.dst vx):=by
  rcases w with⟨B,vx,N,p,t,rfl⟩|⟨B,rfl⟩
  have C:=LM o _ _ _ _ _ t;subst C;refine⟨vx,rfl,fun s a D=>.inl ⟨by grind,vx,{},?_,fun R k => ?_,rfl⟩⟩;rcases p with h|⟨G,I⟩
  grind;exact .inr ⟨.inr (xe o (HD (fun z d=>(a z d).symm) G)),I⟩;rw[<- t R k,Cj x.op x.type _ _ e k a];exact N0 o _ _ _ _ _ _ _ _;exact⟨CK,rfl,fun s _ D=>.inr ⟨by grind,rfl⟩⟩
 obtain⟨vx,rfl,l⟩:=xs;have a:∀ z∈y.op.operands,BX (st.put x.dst vx).tmps z=BX st.tmps z:=fun z d=>Cb c st vx z d;rcases A with⟨J,f,g,K,L,rfl⟩|⟨J,rfl⟩
 refine⟨(st.app g).put y.dst f,.inl ⟨by grind,f,g,.inl u,fun R k => ?_,rfl⟩,?_⟩;have:=L R k;rw[(r vx).1,(r vx).2,Cj y.op y.type _ _ n k a]at this;omega;have:=l ((st.app g).put y.dst f) (fun z d=>Cb b (st.app g) f z d) (q f (Cp g st.heap) (Eo g st.frz) st);rw[St.Hl,St.put_comm _ vx f j];omega;refine⟨st.put y.dst CK,.inr ⟨by grind,rfl⟩,?_⟩;have:=l (st.put y.dst CK) (fun z d=>Cb b st CK z d) (q CK st.heap st.frz st);rw[St.put_comm _ vx CK j];omega
theorem po(U:EX E){all:List Oper}{x y:Oper}{φx φy:List Nat}{r t:Nat}(c:apart? all x y=true)(n1:Kw φx=false)(n2:Kw φy=false)(G:∀ i,rd φy i=true->¬ (r<=i/\i<r+slotsOf x.op))(I:∀ i,rd φx i=true->¬ (t<=i/\i<t+slotsOf y.op))(J:∀ i,wt φx i=true->rd φy i=true->False)(N:∀ i,wt φy i=true->rd φx i=true->False)(X:Je φx φy=true)(Y:Je φy φx=true)(w:r+slotsOf x.op<=t)
  {st s1 s2:St} (Z:DC P E all x φx r st s1) (V:DC P E all y φy t s1 s2):∃ A,DC P E all y φy t st A/\DC P E all x φx r A s2:=by
 have a:=I5 c;obtain⟨_,g,_⟩:=Oper.apart_spec c;have gx:∀ (v:AV) (H:List Ob) (F:List Bool) (s:St),D4 all y.guard ({ s with heap:=H,frz:=F }.put x.dst v)=D4 all y.guard s:=fun v H F s=>G6 c s v H F;have gy:∀ (v:AV) (H:List Ob) (F:List Bool) (s:St),D4 all x.guard ({ s with heap:=H,frz:=F }.put y.dst v)=D4 all x.guard s:=fun v H F s=>G6 a s v H F;have gxa:∀ v e,D4 all y.guard ((st.app e).put x.dst v)=D4 all y.guard st:=fun v e=>gx v (Cp e st.heap) (Eo e st.frz) st;have gya:∀ v e,D4 all x.guard ((st.app e).put y.dst v)=D4 all x.guard st:=fun v e=>gy v (Cp e st.heap) (Eo e st.frz) st;rcases Z with⟨g1,vx,B,O,a3,rfl⟩|⟨g1,rfl⟩
 obtain⟨Q,C⟩:=O.resolve_left (by grind);rcases V with⟨S,f,l,n,W,rfl⟩|⟨S,rfl⟩
 obtain⟨j,u⟩:=n.resolve_left (by grind);have b:∀ z∈y.op.operands,BX ((st.app B).put x.dst vx).tmps z=BX st.tmps z:=fun z d=>Cb c (st.app B) vx z d;have j:=HD b j;have ov:=bO (P:=P) U c G I J N (.inl w) X (vx:=vx) C (.inl j);refine⟨(st.app l).put y.dst f,.inl ⟨by grind,f,l,.inr ⟨iO (cU G J C) j,u⟩,fun R k=>by grind,rfl⟩,?_⟩;have o:∀ z∈x.op.operands,BX ((st.app l).put y.dst f).tmps z=BX st.tmps z:=fun z d=>Cb a (st.app l) f z d;have ov':=bO (P:=P) U a I G N J (.inr w) Y (st:=st) (vx:=f) u (.inr Q);refine .inl ⟨by grind,vx,B,.inr ⟨HD (fun z d=>(o z d).symm) (iO (fun i hi=>(cU I N u i hi).symm) Q),C⟩,fun R k=>by grind,?_⟩;obtain⟨K,p2,p3⟩:=LR C;obtain⟨L,r2,r3⟩:=LR u;have D:∀ p∈l.objs,∀ q∈B.objs,p.1≠q.1:=by
  intro p hp q hq T;rcases r2 p hp with h|⟨hw,h⟩<;>rcases p2 q hq with M|⟨hw',M⟩
  omega;exact I _ (MD M) (T▸h);exact G _ (MD h) (T▸M);exact J _ M (T▸MD h)
 rw[St.Hl,St.Hl,St.put_comm _ vx f g];congr 2;unfold St.app;rw[Cf K,Cf L,DJ K,DJ L,Cf L,Cf K,DJ L,DJ K,eM _ _ D,jw];refine⟨st.put y.dst CK,.inr ⟨by grind,rfl⟩,.inl ⟨?_,vx,B,.inr ⟨?_,C⟩,fun R k => ?_,?_⟩⟩;simp_all;have m:(st.put y.dst CK).heap=st.heap:=by cases y.dst<;>rfl
 rw[m];exact HD (fun z d=>(Cb a st CK z d).symm) Q;have m:(st.put y.dst CK).heap=st.heap/\(st.put y.dst CK).frz=st.frz:=by cases y.dst<;>exact⟨rfl,rfl⟩
 rw[m.1,m.2,Cj x.op x.type _ _ r k fun z d=>Cb a st CK z d];grind;rw[St.Hl,St.put_comm _ vx CK g];rcases V with⟨S,f,l,n,W,rfl⟩|⟨S,rfl⟩
 obtain⟨j,u⟩:=n.resolve_left (by grind);have m:(st.put x.dst CK).heap=st.heap/\(st.put x.dst CK).frz=st.frz:=by cases x.dst<;>exact⟨rfl,rfl⟩
 rw[m.1]at j;have b:∀ z∈y.op.operands,BX (st.put x.dst CK).tmps z=BX st.tmps z:=fun z d=>Cb c st CK z d;have j:=HD b j;refine⟨(st.app l).put y.dst f,.inl ⟨by simp_all,f,l,.inr ⟨j,u⟩,fun R k => ?_,rfl⟩,.inr ⟨by grind,?_⟩⟩;have:=W R k;rw[m.1,m.2,Cj y.op y.type _ _ t k b]at this;omega;rw[St.Hl,St.put_comm _ CK f g]
 exact⟨st.put y.dst CK,.inr ⟨by simp_all,rfl⟩,
  .inr ⟨by simp_all,St.put_comm _ CK CK g⟩⟩
def xc(H H':List Ob)(id:Nat):Prop:=(∃ a b c,H[id]? = some (.map a b c))/\∃ a b c,H'[id]? = some (.map a b c)
theorem FN{H H':List Ob}(h:∀ id,H[id]? = H'[id]?\/xc H H' id)(t:Ty)(v:AV):EV H t v=EV H' t v:=by
 cases v<;>simp only[EV]
 ·rename_i id;rcases h id with h|⟨⟨a,b,d,e⟩,f,b',c,g⟩
  all_goals grind
 ·rename_i id off n;rcases h id with h|⟨⟨a,b,d,e⟩,f,b',c,g⟩
  all_goals grind
 ·rename_i id;rcases h id with h|⟨⟨a,b,d,e⟩,f,b',c,g⟩
  all_goals grind
theorem ABm{α:Type}{one a:List AV->Option (α×List Nat×List AV)}(b:∀ cs,one cs=a cs):∀ (n:Nat) (cs:List AV),QH one n cs=QH a n cs:=by
 intro n;induction n with
  |zero=>intro cs;rfl
  |succ n c=>intro cs;simp only[QH];grind
theorem fj{H H':List Ob}(h:∀ id,H[id]? = H'[id]?\/xc H H' id):∀ (t:Ty) (cs:List AV),BT H t cs=BT H' t cs:=by
 intro t;induction t with
  |unit=>intro cs;cases cs<;>rfl
  |bool=>intro cs;cases cs with
   |nil=>rfl
   |cons c cs=>unfold BT;rw[FN h .bool c]
  |int k=>intro cs;cases cs with
   |nil=>rfl
   |cons c cs=>unfold BT;rw[FN h (.int k) c]
  |slice e _=>intro cs;cases cs with
   |nil=>rfl
   |cons c cs=>unfold BT;rw[FN h (.slice e) c]
  |nul e=>intro cs;cases cs with
   |nil=>rfl
   |cons c cs=>unfold BT;rw[FN h (.nul e) c]
  |mapi j e _=>intro cs;cases cs with
   |nil=>rfl
   |cons c cs=>unfold BT;rw[FN h (.mapi j e) c]
  |prod a b d f=>intro cs;simp only[BT];grind
  |arr n e g=>intro cs;simp only[BT];exact ABm g n cs
theorem ADT{H H':List Ob}(h:∀ id,H[id]? = H'[id]?\/xc H H' id)(t:Ty)(v:AV):FP H t v=FP H' t v:=by unfold FP;split;cases v<;>simp only[asAgg];rename_i cs;rw[fj h t cs];exact FN h t v
theorem ABR{α β:Type}[DecidableEq α](b:List (α×β))(k j:α)(z:β):(A9 (BI b k ((A9 b k).getD z)) j).getD z=(A9 b j).getD z:=by
 have d:∀ (b:List (α×β)) (v:β),A9 (BI b k v) j=if j=k then some v else A9 b j:=by
  intro b v;induction b with
   |nil=>simp only[BI,A9];grind
   |cons e b f=>obtain⟨a,x⟩:=e;by_cases c:a=k;subst c;simp only[BI,A9,ASR];grind;simp only[BI,A9,c,AR3,f];grind
 grind
theorem fS{R:Type}{H:List Ob}{j:Nat}{a b:Ty}{h c:List (a.den×b.den)}(l:H[j]? = some (.map a b h))(n:∀ f:a.den,(A9 (α:=a.den) c f).getD b.zero=(A9 (α:=a.den) h f).getD b.zero)
  (T:TypeId) (m x:Operand) (ty:TypeId) (ρ:Operand->AV) (fz fz':List Bool) (slot e:Nat) (o:AV->Eff->Option R) :
  evalOp P E R (.lookup T m x false) ty ρ (H.set j (.map a b c)) fz' e o=evalOp P E R (.lookup T m x false) ty ρ H fz slot o:=by
 have i:=BS l;have p:∀ id,(H.set j (.map a b c))[id]? = H[id]?\/xc (H.set j (.map a b c)) H id:=fun id=>by by_cases g:id=j;subst g;exact .inr ⟨⟨a,b,c,Bl i⟩,a,b,h,l⟩;grind
 simp only[evalOp,ES,ADT p];cases P.underlying T with
  |none=>rfl
  |some d=>
   cases d with
    |map r s=>
     by_cases k:∃ id,ρ m = .mp id
     case neg=>
      grind
     obtain⟨id,q⟩:=k;rw[q];dsimp only;by_cases g:id=j;all_goals grind
    |_=>rfl
theorem fQ{H:List Ob}{fz:List Bool}{T:TypeId}{m x:Operand}{ty:TypeId}{ρ:Operand->AV}{slot:Nat}{v:AV}{e:Eff}(h:∀ (R:Type) (k:AV->Eff->Option R),evalOp P E R (.mapEntry T m x) ty ρ H fz slot k=k v e):
  ∃ id a b d,∃ c:a.den,H[id]? = some (.map a b d)/\e = { objs:=[(id,.map a b (BI (α:=a.den) d c ((A9 (α:=a.den) d c).getD b.zero)))] }:=by have:=h Eff (fun _ e=>some e);simp only[evalOp,GS]at this;grind
theorem xd{H H':List Ob}{ρ:Operand->AV}{o:Op}{φ:List Nat}(b:Lr φ=false)(a:Kn E H ρ o φ):Kn E H' ρ o φ:=by rcases a with⟨c,_⟩|a;grind;exact .inr a
theorem pj{all:List Oper}{x y:Oper}{φx φy:List Nat}{A B:Nat}(g:apart? all x y=true)(V:Lr φx=false)(W:Lr φy=false)(L:UX x.op y.op=true)
  {st s1 s2:St} (X:DC P E all x φx A st s1) (Y:DC P E all y φy B s1 s2):∃ r,DC P E all y φy B st r/\DC P E all x φx A r s2:=by
 have e:=I5 g;obtain⟨_,t,_⟩:=Oper.apart_spec g;obtain⟨T,m,kx,ok,f,M,N,O,l,C⟩:∃ T m kx ok,x.op = .lookup T m kx ok/\∃ M N O,y.op = .mapEntry M N O/\ok=false:=by cases f:x.op<;>cases l:y.op<;>rw[f,l]at L<;>simp only[UX,AR0]at L;grind
 subst C;have gx:∀ (v:AV) (s:St),D4 all y.guard (s.put x.dst v)=D4 all y.guard s:=fun v s=>G6 g s v s.heap s.frz;have Q:∀ (v:AV) (H:List Ob) (F:List Bool) (s:St),D4 all x.guard ({ s with heap:=H,frz:=F }.put y.dst v)=D4 all x.guard s:=fun v H F s=>G6 e s v H F;have S:∀ v:AV,(st.put x.dst v).heap=st.heap/\(st.put x.dst v).frz=st.frz:=fun v=>by cases x.dst<;>exact⟨rfl,rfl⟩
 have xs:∃ vx,s1=st.put x.dst vx/\∀ s:St,(∀ z∈x.op.operands,BX s.tmps z=BX st.tmps z)->D4 all x.guard s=D4 all x.guard st ->
   (s.heap=st.heap\/∃ j a b i n,st.heap[j]? = some (.map a b i)/\s.heap=st.heap.set j (.map a b n)/\∀ d:a.den,(A9 (α:=a.den) n d).getD b.zero=(A9 (α:=a.den) i d).getD b.zero)->DC P E all x φx A s (s.put x.dst vx):=by
  rcases X with⟨Z,vx,ex,D,U,rfl⟩|⟨Z,rfl⟩
  ·have he:=Mq (by rw[f];rfl) _ _ _ _ _ U
   subst he
   refine⟨vx,rfl,fun s c hg G=>.inl ⟨by grind,vx,{},?_,fun R k => ?_,rfl⟩⟩
   ·rcases D with h|⟨u,I⟩
    ·grind
    ·exact .inr ⟨xd V (HD (fun z o=>(c z o).symm) u),I⟩
   ·rw[<- U R k,Cj x.op x.type _ _ A k c]
    rcases G with G|⟨j,a,b,i,n,u,h2,h3⟩
    ·rw[G,f];rfl
    ·rw[h2,f]
     exact fS u h3 _ _ _ _ _ _ _ _ _ _
  ·exact⟨CK,rfl,fun s _ hg _=>.inr ⟨by grind,rfl⟩⟩
 obtain⟨vx,rfl,w⟩:=xs;have c:∀ z∈y.op.operands,BX (st.put x.dst vx).tmps z=BX st.tmps z:=fun z o=>Cb g st vx z o;rcases Y with⟨g2,p,J,K,b3,rfl⟩|⟨g2,rfl⟩
 have q:∀ (R:Type) (k:AV->Eff->Option R),evalOp P E R y.op y.type (BX st.tmps) st.heap st.frz B k=k p J:=fun R k=>by have:=b3 R k;rw[(S vx).1,(S vx).2,Cj y.op y.type _ _ B k c]at this;omega
 refine⟨(st.app J).put y.dst p,.inl ⟨by grind,p,J,?_,q,rfl⟩,?_⟩;rcases K with h|⟨u,I⟩
 grind;exact .inr ⟨xd W (HD c u),I⟩;rw[l]at q;obtain⟨j,a,b,i,d,ho,rfl⟩:=fQ q
 have:=w ((st.app { objs:=[(j,.map a b (BI (α:=a.den) i d ((A9 (α:=a.den) i d).getD b.zero)))] }).put y.dst p) (fun z o=>Cb e (st.app _) p z o) (Q p _ _ st)
  (.inr ⟨j,a,b,i,_,ho,by cases y.dst<;>rfl,fun k=>ABR (α:=a.den) i d k b.zero⟩)
 rw[St.Hl,St.put_comm _ vx p t];omega;refine⟨st.put y.dst CK,.inr ⟨by grind,rfl⟩,?_⟩;have:=w (st.put y.dst CK) (fun z o=>Cb e st CK z o) (Q CK st.heap st.frz st) (.inl (by cases y.dst<;>rfl));rw[St.put_comm _ vx CK t];omega
theorem yh(l:EX E){all:List Oper}{x y:Oper}{φx φy:List Nat}{c d:Nat}(g:indep all x y φx φy c d=true)(i:c+slotsOf x.op<=d)
  {st s1 s2:St} (e:DC P E all x φx c st s1) (f:DC P E all y φy d s1 s2):∃ b,DC P E all y φy d st b/\DC P E all x φx c b s2:=by
 obtain⟨a,h⟩:=MV g;rcases h with⟨m,n,o⟩|⟨j,k⟩|⟨j,k⟩|⟨p,q,r,s,t,u,v,w⟩
 exact pj a m n o e f;exact pn a j k e f;exact pk a j k e f;exact po l a p q r s t u v w i e f
end
section
variable [DfI] {P:Program} {E:Env}
theorem l7{all:List Oper}{y:Oper}{φy:List Nat}{b:Nat}:∀ {l:List (Nat×Oper×List Nat×Nat)},UT all y φy b l=true->∀ q∈l,reach all 8 y q.1=true\/indep all q.2.1 y q.2.2.1 φy q.2.2.2 b=true:=by
 intro l;induction l with
  |nil=>simp
  |cons p l d=>
   intro h q c;obtain⟨i,x,φx,e⟩:=p;simp only[UT,ARl,ASY]at h;rcases AR4.1 c with rfl|c;·rcases h.1 with a|a|a;exact .inl (by simp only[reach,a,Bool.true_or]);all_goals grind
   grind
theorem Pv{all:List Oper}{fp:List (List Nat)}{base:Nat}:∀ (a pre:List Oper) (b:List (List Nat)) (slot:Nat) (d:List (Nat×Oper×List Nat×Nat)),all=pre++a->b=fp.drop pre.length->slot=By all base pre.length ->
  (∀ j x,j<pre.length->all[j]? = some x->(j,x,fp.getD j [],By all base j)∈d)->X2 all a b pre.length slot d=true ->
  ∀ i y,pre.length<=i->all[i]? = some y->(∀ e∈y.after.toList,Region.binds .any e=true->e.on<i) /\
   ∀ j x,j<i->all[j]? = some x->reach all 8 y j=true\/indep all x y (fp.getD j []) (fp.getD i []) (By all base j) (By all base i)=true:=by
 intro a;induction a with
  |nil=>grind
  |cons o a v=>
   intro pre b slot d r f g k h i y hi n;simp only[X2,ARl]at h;obtain⟨⟨s,F⟩,w⟩:=h;have c:(pre++[o]).length=pre.length+1:=by simp
   have l:b.headD []=fp.getD pre.length []:=by rw[f,ARn,List.headD_eq_head?_getD,List.head?_drop]
   have m:b.tail=fp.drop (pre++[o]).length:=by rw[f,c,List.tail_drop]
   have p:slot+slotsOf o.op=By all base (pre++[o]).length:=by
    rw[g,c];unfold By;have z:all.take (pre.length+1)=pre++[o]:=by grind
    have A:all.take pre.length=pre:=by grind
    rw[z,A,Ic];simp[Cu];omega
   have B:all[pre.length]? = some o:=by grind
   rcases ATc pre.length i with C|D;refine v (pre++[o]) _ _ _ (by grind) m p (fun j x t u => ?_) (by rw[c];exact w) i y (by omega) n;grind;have q:i=pre.length:=by omega
   subst q;rw[B]at n;cases n;refine⟨fun e G H => ?_,fun j x t u => ?_⟩;grind;rw[l,g]at s;exact l7 s _ (k j x t u)
theorem yo{all:List Oper}{base i j:Nat}{x:Oper}(b:j<i)(d:all[j]? = some x):By all base j+slotsOf x.op<=By all base i:=by
 unfold By;have a:j<all.length:=by grind
 have e:all.take (j+1)=all.take j++[x]:=by rw[ATd a];grind
 have c:all.take i=all.take (j+1)++(all.drop (j+1)).take (i-(j+1)):=by rw[<- List.take_add];congr 1;omega
 rw[c,e,Ic,Ic];simp[Cu];omega
theorem M3(n:EX E){all:List Oper}{fp:Nat->List Nat}{base:Nat}{i:Nat}{y:Oper}(l:all[i]? = some y):
  ∀ (a c:List Nat) (st st':St),(∀ j∈a,j<i/\∀ x,all[j]? = some x->indep all x y (fp j) (fp i) (By all base j) (By all base i)=true) ->
   HW P E all fp (By all base) (a++i::c) st st'->HW P E all fp (By all base) (i::(a++c)) st st':=by
 intro a;induction a with
  |nil=>simp
  |cons j a o=>intro c st st' m h;obtain⟨x,p,d,q,r⟩:=h;obtain⟨A,s,b,t,u⟩:=o c p st' (fun k v=>m k (by simp[v])) r;rw[l]at b;cases b;obtain⟨e,f⟩:=m j (by simp);obtain⟨g,w,z⟩:=yh n (f x d) (yo e d) q t;exact⟨y,g,l,w,x,s,d,z,u⟩
def BJ(n:Nat)(a:Array Bool):List Nat:=(List.range n).filter fun i => !a.getD i true
theorem PM{n:Nat}{a:Array Bool}{i:Nat}(o:a.size=n)(f g:List Nat)(h:BJ n a=f++i::g):BJ n (a.setIfInBounds i true)=f++g:=by
 have b:(BJ n a).Nodup:=ATr _ List.nodup_range;have c:i∈BJ n a:=by grind
 have k:i<n:=by unfold BJ at c;grind
 have e:BJ n (a.setIfInBounds i true)=(BJ n a).filter fun j=>decide (j≠i):=by
  unfold BJ;rw[List.filter_filter];apply AUB;intro j p;have l:j<n:=by grind
  by_cases d:j=i;simp_all;simp[ASA,Array.getElem?_setIfInBounds_ne (ATY d),d]
 rw[e,h];rw[h]at b;rw[List.nodup_append]at b;obtain⟨_,m,hd⟩:=b;rw[ATh,ATN];simp only[ne_eq,ASe,AR8,AR0,AR3];rw[ATe.2,ATe.2];all_goals grind
theorem Lg{n:Nat}{a:Array Bool}{i:Nat}{b c:List Nat}(h:BJ n a=b++i::c):∀ j∈b,j<i:=by
 have d:(BJ n a).Pairwise (· < ·):=ATr _ AUE
 grind
def Se(ops:List Oper)(a:Nat->Bool):Prop:=∀ k z,ops[k]? = some z->a k=true->∀ e∈z.after.toList,Region.binds .any e=true->a e.on=true
theorem Po{ops:List Oper}{a:Nat->Bool}(d:Se ops a):∀ (n:Nat) (y:Oper) (j:Nat),(∀ e∈y.after.toList,Region.binds .any e=true->a e.on=true)->reach ops n y j=true->a j=true:=by
 intro n;induction n with
  |zero=>intro y j _ h;cases h
  |succ n f=>intro y j g h;simp only[reach,ASY]at h;rcases h with h|h;unfold gE at h;grind;rw[List.any_eq_true]at h;obtain⟨e,i,b⟩:=h;simp only[ARl]at b;obtain⟨k,c⟩:=b;split at c;rename_i z l;exact f z j (d e.on z l (g e i k)) c;grind
theorem dz(G:∀ g,BQ P g (E.spec g)){ops:Array Oper}{i:Nat}{o:Oper}{φ:List Nat}{slot:Nat}{st r:St}{Q:Exit->Act->World->Prop}{K:Act->World->Prop}{w:World}{F:Nat->Prop}{m:Mp}{a:Act}(z:ops[i]? = some o)(H:DC P E ops.toList o φ slot st r)(h:SI w F m st a)
  (B:∀ C w' t y,SI w' t y r C->Ext w F m st.heap st.frz w' t y r.heap r.frz->K C w'):wpOp P ops Q i K a w:=by
 unfold wpOp;rw[z];simp only;have c:∀ (s:St) (v:AV),(s.put o.dst v).heap=s.heap/\(s.put o.dst v).frz=s.frz:=fun s v=>by cases o.dst<;>exact⟨rfl,rfl⟩
 rcases H with⟨f,v,e,_,I,rfl⟩|⟨f,rfl⟩
 ·have A:Region.wanted o (yielded ops a.tmps)=true:=by
   unfold D4 at f;unfold Region.wanted;cases k:o.guard with
    |none=>rfl
    |some p=>
     obtain⟨j,n⟩:=p;rw[k]at f;dsimp only at f |-;cases l:(ops.toList[j]?).bind (·.dst)with
      |none=>grind
      |some d=>rw[l]at f;dsimp only at f;split at f;rename_i b hd;rw[N9 h l hd];grind;all_goals grind
  rw[ARt A];left;obtain⟨M,N,D,_,J⟩:=Ej G o.op (AV×Eff) o.type (BX st.tmps) st.heap st.frz slot (fun v e=>some (v,e)) (v,e) (I _ _);simp only[ARi,ARw]at D;obtain⟨rfl,rfl⟩:=D;refine J w F m a o _ Q rfl rfl h.heap (fun x=>Ev h.tmps x) fun u w' t y q L => ?_;refine B _ w' t y ((h.go q).put L o.dst) ?_;rw[(c ..).1,(c ..).2];exact q.1
 have A:Region.wanted o (yielded ops a.tmps)=false:=by
  unfold D4 at f;unfold Region.wanted;cases k:o.guard with
   |none=>grind
   |some p=>
    obtain⟨j,n⟩:=p;rw[k]at f;dsimp only at f |-;cases l:(ops.toList[j]?).bind (·.dst)with
     |none=>grind
     |some d=>rw[l]at f;dsimp only at f;split at f;rename_i b hd;rw[N9 h l hd];grind;rename_i hd;rw[PC h l hd];rfl;grind
 rw[ARv (by simp[A])];refine B _ w F m (h.put Pc o.dst) ?_;rw[(c ..).1,(c ..).2];exact Ext.refl ..
theorem c8(hE:∀ g,BQ P g (E.spec g))(hL:EX E){ops:Array Oper}{fp:Nat->List Nat}{base:Nat}{Q:Exit->Act->World->Prop}{st':St}
  (D:∀ i y,ops.toList[i]? = some y->(∀ e∈y.after.toList,Region.binds .any e=true->e.on<i) /\
   ∀ j x,j<i->ops.toList[j]? = some x->reach ops.toList 8 y j=true\/indep ops.toList x y (fp j) (fp i) (By ops.toList base j) (By ops.toList base i)=true) :
  ∀ (c:Nat) (b:Array Bool) (st:St) (w:World) (F:Nat->Prop) (m:Mp) (a:Act),b.size=ops.size->Se ops.toList (fun i=>b.getD i false)->(BJ ops.size b).length<=c->SI w F m st a ->
   HW P E ops.toList fp (By ops.toList base) (BJ ops.size b) st st' ->
   (∀ q w' r s,SI w' r s st' q->Ext w F m st.heap st.frz w' r s st'.heap st'.frz->Q .normal q w')->wpAny P .any ops Q c b a w:=by
 intro c
 have o:∀ (b:Array Bool) (st:St) (w:World) (F:Nat->Prop) (m:Mp) (a:Act),BJ ops.size b=[]->SI w F m st a->HW P E ops.toList fp (By ops.toList base) (BJ ops.size b) st st' ->
   (∀ q w' r s,SI w' r s st' q->Ext w F m st.heap st.frz w' r s st'.heap st'.frz->Q .normal q w')->Q .normal a w:=by
  intro b st w F m a O B p C
  rw[O]at p
  have p:st=st':=p
  subst p
  exact C a w F m B (Ext.refl ..)
 have f:∀ (b:Array Bool) (i:Nat),i∈Region.ready .any ops b↔i∈BJ ops.size b/\((ops[i]?).map (·.after.all fun e => !Region.binds .any e||b.getD e.on false)).getD false=true:=by intro b i;unfold Region.ready BJ;grind
 induction c with
  |zero=>intro b st w F m a G t hl B p C;have O:BJ ops.size b=[]:=ASB (by omega);refine⟨List.eq_nil_iff_forall_not_mem.2 fun i hi => ?_,o b st w F m a O B p C⟩;grind
  |succ c ih=>
   intro b st w F m a G t hl B p C;refine⟨fun X => ?_,fun i hi => ?_⟩;refine o b st w F m a ?_ B p C;cases Y:BJ ops.size b with
    |nil=>rfl
    |cons i l=>
     exfalso;have n:i∈BJ ops.size b:=by grind
     have u:i<ops.size:=by unfold BJ at n;grind
     have:i∈Region.ready .any ops b:=by
      refine(f b i).2 ⟨n,?_⟩;rw[ASv u];simp only[AS6,ASM];rw[<- AUH,AR1];intro e R;cases S:Region.binds .any e with
       |false=>rfl
       |true=>
        have hlt:=(D i ops[i] (by simp)).1 e R S;simp only[ARp,ATs];cases hg:b.getD e.on false with
         |true=>rfl
         |false=>
          exfalso;have hon:e.on<ops.size:=by omega
          have:e.on∈BJ ops.size b:=by unfold BJ;grind
          rw[Y]at this;have hp:(BJ ops.size b).Pairwise (· < ·):=ATr _ AUE
          rw[Y,ASc]at hp;grind
     grind
   obtain⟨n,v⟩:=(f b i).1 hi;have u:i<ops.size:=by grind
   obtain⟨Z,l2,d⟩:=AT3 n;have H:ops[i]? = some ops[i]:=ASv u;have A:ops.toList[i]? = some ops[i]:=by simp
   rw[H]at v;simp only[AS6,ASM]at v;rw[<- AUH,AR1]at v;rw[d]at p;obtain⟨y,s1,hy,h1,h2⟩:=M3 hL A Z l2 st st' (fun j hj=>by
    have I:=Lg d j hj;refine⟨I,fun x T => ?_⟩;rcases(D i _ A).2 j x I T with h|h;exfalso;have J:∀ e∈(ops[i]).after.toList,Region.binds .any e=true->(fun i=>b.getD i false) e.on=true:=by grind
    have this:=Po t 8 _ j J h;have U:j∈BJ ops.size b:=by grind
    unfold BJ at U;grind;omega) p
   rw[A]at hy;cases hy;have V:=PM G Z l2 d;have K:(BJ ops.size (b.setIfInBounds i true)).length<=c:=by grind
   have L:Se ops.toList (fun k=>(b.setIfInBounds i true).getD k false):=by
    have M:∀ k,(b.setIfInBounds i true).getD k false=true↔(k=i\/b.getD k false=true):=by
     intro k;have hil:i<b.size:=by omega
     rw[ASA,ASA,Array.getElem?_setIfInBounds];grind
    intro k z hz N e R S;simp only[M]at N |-;right;rcases N with rfl|N;grind;exact t k z hz N e R S
   exact dz hE H h1 B fun q w' r s W T=>ih _ _ w' r s q (by grind) L K W (by grind) fun q w2 F2 m2 q1 q2=>C q w2 F2 m2 q1 (T.trans q2)
theorem SI.drew{w:World}{F:Nat->Prop}{m:Mp}{st:St}{a:Act}(h:SI w F m st a):SI w.drew F m st a/\Ext w F m st.heap st.frz w.drew F m st.heap st.frz:=by have b:=BO.drew h.heap;exact⟨⟨fun t=>b.1.rep h.heap (h.tmps t),h.size,b.2,h.defers⟩,b.1⟩
theorem Zq(p:∀ g,BQ P g (E.spec g))(q:EX E){R:Type}{r:R}{id:Nat}{fp:List (List Nat)}{ops:Array Oper}{Q:Exit->Act->World->Prop}{k:St->Option R}{st:St}{w:World}{F:Nat->Prop}{m:Mp}{a:Act}
  (h:E5 P E R fp ops.toList st k=some r) (s:SI w F m st a) (t:∀ e w',ANi r k w F m st.heap st.frz e w'->Q .normal e w'):(Code.region id ops true).wp P Q a w:=by
 unfold E5 at h;rw[MM]at h;split at h;rename_i b;simp only[ARl]at b;obtain⟨u,b⟩:=b;obtain⟨f,l⟩:=s.drew;obtain⟨n,o⟩:=f.pad (Cu ops.toList);have c:ops.toList=[]++ops.toList:=by simp
 obtain⟨st',G,d⟩:=Zs p (all:=ops.toList) (fp:=fp) (base:=st.heap.length) ops.toList [] fp st.heap.length _ c rfl (by simp[By,Cu]) h;refine wp_region_any u ?_;have H:BJ ops.size (Array.replicate ops.size false)=List.range' 0 ops.toList.length:=by
  unfold BJ;rw[ARz,<- ATW];rw[ATe];intro i hi;have:i<ops.size:=by grind
  simp[ASA,this]
 refine c8 (ops:=ops) p q (fp:=fun i=>fp.getD i []) (base:=st.heap.length) (st':=st') (fun i y v=>Pv (all:=ops.toList) ops.toList [] fp _ [] c rfl (by simp[By,Cu]) (fun j x I=>by grind) b i y (ATX _) v)
  ops.size _ _ w.drew F m a (by simp) (fun k z _ d=>by
   exfalso
   have d:(Array.replicate ops.size false).getD k false=true:=d
   rw[ASA,Array.getElem?_replicate]at d
   grind) (by grind) n (by grind) fun e w' A B C D=>t e w' ⟨st',A,B,d,C,l.trans (o.trans D)⟩
 grind
end
def B8(w:World)(F:Nat->Prop)(m:Mp)(H:List Ob)(fz:List Bool)(a:Mp)(H':List Ob)(j:Nat):Bnd->Prop
 |.none=>a j=none/\((∃ T e,H'[j]? = some (.arr T e [])/\0<e.size)\/∃ T t,H'[j]? = some (.prs T t []))
 |.whole id=>a j=m id/\((∃ T t xs,H[id]? = some (.arr T t xs)/\H'[j]? = some (.arr T t xs)/\fz.getD id false=false) \/
   (∃ k v h,H[id]? = some (.map k v h)/\H'[j]? = some (.map k v h)) \/
   (∃ cs d b c vs T,H[id]? = some (.box cs)/\H'[j]? = some (.box d)/\d.length=cs.length/\m id=some (b,c)/\w.heap[b]? = some (.cells vs T (0,0))/\BA w F a H' d vs.toList/\∀ u∈vs.toList,u.oneCell'=true) \/
   (∃ T f i g,H[id]? = some (.prs T f g)/\H'[j]? = some (.prs T i g)/\ObI w F a H' (.prs T i g) (m id)) \/
   (∃ T e t xs ver,H[id]? = some (.rows T e t xs ver none)/\H'[j]? = some (.rows T e t xs 0 none)/\(∀ k,a (.r j k)=m (.r id k))/\fz.getD id false=false))
 |.cut id=>∃ T t xs n,H[id]? = some (.arr T t xs)/\fz.getD id false=false/\H'[j]? = some (.arr T t (List.take (α:=t.den) n xs))/\(a j=m id\/(a j=none/\List.take (α:=t.den) n xs=[]))
structure Inv(w:World)(F:Nat->Prop)(m:Mp)(H:List Ob)(fz:List Bool)(bs:List Bnd)(m':Mp)(E:St)(val:Nat->Value):Prop where
 tmps:∀ t,Rep w F m' E.heap (E.tmps.f t) (val t)
 lenH:E.heap.length=bs.length
 lenF:E.frz.length=E.heap.length
 frz:∀ i,E.frz.getD i false=false
 ob:∀ j b,bs[j]? = some b->B8 w F m H fz m' E.heap j b
 inj:∀ (i j:Nat) (b c:Bnd) (id:Nat),bs[i]? = some b->bs[j]? = some c->b.id? = some id->c.id? = some id->i=j
def uw(w:World)(m:Mp)(H:List Ob)(a:List Bnd)(val:Nat->Value):Loc->Value->Prop
 |.tmp t,u=>u=val t
 |.cell j c,u=>∃ id b cc vs T cs,a[j]? = some (.whole id)/\H[id]? = some (.box cs)/\m id=some (b,cc)/\w.heap[b]? = some (.cells vs T (0,0))/\vs.toList[c]? = some u
 |_,_=>True
theorem AJq{w:World}{F:Nat->Prop}{m:Mp}{H:List Ob}{cs:List AV}{us:List Value}{c:Nat}{v:AV}{u:Value}(h:BA w F m H cs us)(e:us[c]? = some u)(f:Rep w F m H v u):BA w F m H (cs.set c v) us:=by refine Dy (by simp[BY h]) fun i x y b g => ?_;by_cases a:i=c;grind;rw[ATL (ATY a)]at b;obtain⟨j,d,k⟩:=DD h b;grind
theorem AED{w:World}{F:Nat->Prop}{m:Mp}{H:List Ob}{a:Tm}{val:Nat->Value}(h:∀ t,Rep w F m H (a.f t) (val t)){t:Nat}{v:AV}(b:Rep w F m H v (val t)):∀ i,Rep w F m H ((a.set t v).f i) (val i):=by intro i;rw[Tm.Sm];grind
theorem kf{w:World}{F a:Nat->Prop}{m c:Mp}{H d:List Ob}{T:TypeId}{j:Nat}{e:List Int}{l:Option (Nat×Nat)}(f:∀ {cs us},BA w F m H cs us->BA w a c d cs us)(h:ObI w F m H (.prs T j e) l):ObI w a c d (.prs T j e) l:=by
 cases l with
  |none=>exact h
  |some p=>obtain⟨b,cap⟩:=p;obtain⟨vs,us,g,i,k,n,o,q⟩:=h;exact⟨vs,us,g,i,k,n,f o,q⟩
section
variable {w:World} {F:Nat->Prop} {m:Mp} {H:List Ob} {fz:List Bool} {bs:List Bnd} {m':Mp} {E:St} {val:Nat->Value}
theorem B8.mono{b:Bnd}{a:Mp}{H' d:List Ob}{j:Nat}(h:B8 w F m H fz m' H' j b)(n:d[j]? = H'[j]?)(g:∀ x:Ix,x.id=j->a x=m' x)(p:∀ {cs us},BA w F m' H' cs us->BA w F a d cs us):B8 w F m H fz a d j b:=by
 cases b with
  |none=>simp only[B8]at *;rw[n,g j rfl];exact h
  |whole id=>
   simp only[B8]at *;rw[n,g j rfl];obtain⟨e,h⟩:=h;refine⟨e,?_⟩;rcases h with h|h|⟨cs,q,b,c,vs,T,i,l,f,y,z,A,B⟩|⟨T,o,s,u,i,l,f⟩|⟨T,v,t,xs,ver,i,l,f⟩
   grind;grind;grind;exact .inr (.inr (.inr (.inl ⟨T,o,s,u,i,l,kf p f⟩)));exact .inr (.inr (.inr (.inr ⟨T,v,t,xs,ver,i,l,fun k=>(g (.r j k) rfl).trans (f.1 k),f.2⟩)))
  |cut id=>simp only[B8]at *;rw[n,g j rfl];exact h
theorem Inv.place(h:Inv w F m H fz bs m' E val){l:Loc}{u:Value}{v:AV}(q:uw w m H bs val l u)(z:Rep w F m' E.heap v u):Inv w F m H fz bs m' (Pev.place E v l) val:=by
 cases l with
  |tmp t=>have q:u=val t:=q;subst q;exact⟨AED h.tmps z,h.lenH,h.lenF,h.frz,h.ob,h.inj⟩
  |cap t i=>exact h
  |obj j=>exact h
  |cell j c=>
   obtain⟨id,b,cc,vs,T,cs,A,B,C,D,J⟩:=q;have d:=h.ob j _ A;simp only[B8]at d;obtain⟨r,d⟩:=d;rw[B]at d;rcases d with⟨_,_,_,g,_⟩|⟨_,_,_,g,_⟩|⟨K,n,P,Q,L,R,g,s,M,G,y,I,N⟩|⟨_,_,_,_,g,_⟩|⟨_,_,_,_,_,g,_⟩
   cases g;cases g;rotate_left;cases g;cases g
   ·cases g;rw[C]at G;cases G;rw[D]at y;cases y;have p:=BS s;have e:C8 E.heap (E.heap.set j (.box (n.set c v))) m' m':=by
     intro i o hi O;by_cases k:i=j;subst k;rw[s]at hi;cases hi;exact .inr ⟨by simp,_,Bl p,trivial,rfl,fun _ _ _=>rfl⟩
     ·rcases C8.refl E.heap m' i o hi O with h|⟨hd,o',y,I,_⟩
      all_goals grind
    have mono:∀ {a u},Rep w F m' E.heap a u->Rep w F m' (E.heap.set j (.box (n.set c v))) a u:=fun h=>Rep.mono (fun _ _=>rfl) (fun _ h=>h) e _ h;have f:∀ {a u},BA w F m' E.heap a u->BA w F m' (E.heap.set j (.box (n.set c v))) a u:=fun h=>BA.mono (fun _ _=>rfl) (fun _ h=>h) e _ h;unfold Pev.place;simp only[s];refine⟨fun t=>mono (h.tmps t),by simp[h.lenH],by simp[h.lenF],h.frz,fun i x hi => ?_,h.inj⟩;by_cases k:i=j;subst k;rw[A]at hi;cases hi;simp only[B8];exact⟨r,.inr (.inr (.inl ⟨cs,_,b,cc,vs,T,B,Bl p,by simp[M],C,D,f (AJq I J z),N⟩))⟩;exact(h.ob i x hi).mono (Be k) (fun _ _=>rfl) f
theorem gI{α:Type}{l:List α}{x y:α}{j:Nat}(h:(l++[x])[j]? = some y):(j<l.length/\l[j]? = some y)\/(j=l.length/\y=x):=by grind
theorem Inv.AQG(h:Inv w F m H fz bs m' E val){b:Bnd}{o:Ob}{mn:Mp}(g:∀ x:Ix,x.id≠E.heap.length->mn x=m' x)(s:∀ (i:Nat) (c:Bnd) (id:Nat),bs[i]? = some c->c.id? = some id->b.id?≠some id)
  (n:B8 w F m H fz mn (E.heap++[o]) E.heap.length b):Inv w F m H fz (bs++[b]) mn (EW E o) val:=by
 have e:C8 E.heap (E.heap++[o]) m' mn:=by
  intro i x hi v;have f:=BS hi;rcases C8.refl E.heap m' i x hi v with h|⟨hd,o',B,z,_⟩
  grind;exact .inr ⟨hd,o',by grind,z,g _ (by show i≠_;omega),fun _ _ _=>g _ (by show i≠_;omega)⟩
 have k:∀ {a u},BA w F m' E.heap a u->BA w F mn (E.heap++[o]) a u:=fun h=>BA.mono (fun _ _=>rfl) (fun _ h=>h) e _ h;refine⟨fun t=>Rep.mono (fun _ _=>rfl) (fun _ h=>h) e _ (h.tmps t),by simp[EW,h.lenH],by simp[EW,h.lenF],fun i => ?_,fun j x p => ?_,fun i j x y id hi p A q => ?_⟩;have:=h.frz i;simp only[EW];grind;rcases gI p with⟨f,d⟩|⟨d,rfl⟩
 rw[<- h.lenH]at f;exact(h.ob j x d).mono (ATH f) (fun y q=>g y (by omega)) k;rw[<- h.lenH]at d;rw[d];exact n;rcases gI hi with⟨f,l⟩|⟨l,rfl⟩
 rcases gI p with⟨r,d⟩|⟨d,rfl⟩
 exact h.inj i j x y id l d A q;grind;grind
theorem Inv.add(h:Inv w F m H fz bs m' E val){b:Bnd}{o:Ob}{l:Option (Nat×Nat)}(a:∀ (i:Nat) (c:Bnd) (id:Nat),bs[i]? = some c->c.id? = some id->b.id?≠some id)
  (d:B8 w F m H fz (upd m' E.heap.length l) (E.heap++[o]) E.heap.length b):Inv w F m H fz (bs++[b]) (upd m' E.heap.length l) (EW E o) val:=
 h.AQG (fun x e=>Wl e x rfl) a d
theorem Fe{id:Nat}(h:fresh? bs id=true):∀ (i:Nat) (c:Bnd),bs[i]? = some c->c.id?≠some id:=by
 intro i c hi a;unfold fresh? at h;rw[AR1]at h;have:=h c (ARu hi);cases c with
  |none=>simp[Bnd.id?]at a
  |whole k=>simp only[Bnd.id?,ARi]at a;grind
  |cut k=>simp only[Bnd.id?,ARi]at a;grind
theorem Inv.freeze(h:Inv w F m H fz bs m' E val){f:List Nat}(s:f.all (fresh? bs)=true):Inv w (Du F m H f) m H (BF f fz) bs m' E val:=by
 have l:∀ {a u},BA w F m' E.heap a u->BA w (Du F m H f) m' E.heap a u:=fun h=>BA.mono (fun _ _=>rfl) (fun _ h=>.inl h) (C8.refl _ _) _ h;have o:∀ (id i:Nat) (c:Bnd),bs[i]? = some c->c.id? = some id->fz.getD id false=false->(BF f fz).getD id false=false:=by
  intro id i c hi x y;rw[Bd,y];have:id∉f:=fun q=>by rw[AR1]at s;exact Fe (s id q) i c hi x
  grind
 refine⟨fun t=>Rep.mono (fun _ _=>rfl) (fun _ h=>.inl h) (C8.refl _ _) _ (h.tmps t),h.lenH,h.lenF,h.frz,fun j b p => ?_,h.inj⟩;have:=h.ob j b p;cases b with
  |none=>exact this
  |whole id=>
   simp only[B8]at *;obtain⟨e,this⟩:=this;refine⟨e,?_⟩;rcases this with⟨T,t,xs,d,g,k⟩|D|⟨cs,z,b,c,vs,T,d,g,k,v,G,I,J⟩|⟨T,r,A,B,d,g,k⟩|⟨T,C,t,xs,ver,d,g,k,v⟩
   exact .inl ⟨T,t,xs,d,g,o id j _ p rfl k⟩;grind;grind;exact .inr (.inr (.inr (.inl ⟨T,r,A,B,d,g,kf l k⟩)));exact .inr (.inr (.inr (.inr ⟨T,C,t,xs,ver,d,g,k,o id j _ p rfl v⟩)))
  |cut id=>simp only[B8]at *;obtain⟨T,t,xs,n,d,g,k⟩:=this;exact⟨T,t,xs,n,d,o id j _ p rfl g,k⟩
theorem qn{j id off:Nat}{u:Value}(a:B8 w F m H fz m' E.heap j (.whole id))(b:Rep w F m H (.ptr id off) u):Rep w F m' E.heap (.ptr j off) u:=by simp only[B8]at a;obtain⟨e,a⟩:=a;unfold Rep at *;unfold Ge at *;grind
theorem AM6{j id i sub:Nat}{u:Value}(a:B8 w F m H fz m' E.heap j (.whole id))(h:Rep w F m H (.eptr id i sub) u):Rep w F m' E.heap (.eptr j i sub) u:=by
 simp only[B8]at a;obtain⟨e,a⟩:=a;unfold Rep at *;unfold Dc at *;rcases a with⟨T,t,xs,d,f,_⟩|⟨k,v,l,d,_⟩|⟨cs,g,b,c,vs,T,d,f,_,n,_⟩|⟨_,_,_,_,d,f,_⟩|⟨K,_,_,_,_,d,f,_⟩
 grind;all_goals grind
theorem ALB{j id:Nat}{b:List Int}{us:List Value}(f:B8 w F m H fz m' E.heap j (.whole id))(d:BA w F m H (GD id b) us):BA w F m' E.heap (GD j b) us:=by refine Dy (by have:=BY d;simpa [GD]using this) fun i c v e g => ?_;rw[GD,ASX,ARr]at e;obtain⟨x,h,rfl⟩:=e;obtain⟨l,a,k⟩:=DD d (i:=i) (c:=.eptr id x.toNat 0) (by rw[GD,ASX,h];rfl);rw[g]at a;cases a;exact AM6 f k
theorem AQ4{j id:Nat}{u:Value}(a:B8 w F m H fz m' E.heap j (.whole id))(b:Rep w F m H (.mp id) u):Rep w F m' E.heap (.mp j) u:=by simp only[B8]at a;obtain⟨e,a⟩:=a;unfold Rep at *;unfold Lp at *;grind
theorem AGx{j id:Nat}{u:Value}(a:B8 w F m H fz m' E.heap j (.whole id))(b:Rep w F m H (.own id) u):Rep w F m' E.heap (.own j) u:=by simp only[B8]at a;obtain⟨e,a⟩:=a;unfold Rep at *;unfold Bq at *;grind
theorem ANc{j id n:Nat}{u:Value}(a:B8 w F m H fz m' E.heap j (.whole id))(b:Rep w F m H (.aptr id n) u):Rep w F m' E.heap (.aptr j n) u:=by simp only[B8]at a;obtain⟨e,a⟩:=a;unfold Rep at *;unfold Fs at *;grind
theorem oo{j id off n:Nat}{u:Value}(a:B8 w F m H fz m' E.heap j (.whole id))(b:Rep w F m H (.win id off n) u):Rep w F m' E.heap (.win j off n) u:=by simp only[B8]at a;obtain⟨e,a⟩:=a;unfold Rep at *;unfold HS at *;grind
theorem ALk{id:Nat}{u:Value}{T:TypeId}{t:Ty}{ys:List t.den}(hi:HI w F m H fz)(c:H[id]? = some (.arr T t ys))(b:Rep w F m H (.own id) u):Rep w F m H (.win id 0 ys.length) u:=by
 unfold Rep at *;unfold Bq at b;unfold HS;rw[c]at b |-;simp only at b |-;refine⟨by omega,?_⟩;cases d:m id with
  |none=>rw[d]at b;obtain⟨a,rfl⟩:=b;obtain⟨_,e⟩:=hi.obj id _ c;simp_all
  |some p=>grind
theorem se{α:Type}{l:List α}{i:Nat}{o:α}(h:l[i]? = some o):i<l.length:=by grind
theorem Ca(hi:HI w F m H fz){s:Nat->Option AV}(q:∀ t v,s t=some v->Rep w F m H v (val t)){l:Loc}{v:AV}(h:look s H bs l=some v):∃ u,Rep w F m H v u/\uw w m H bs val l u:=by
 cases l with
  |tmp t=>exact⟨val t,q t v h,rfl⟩
  |cell j c=>simp only[look]at h;split at h;rename_i id x;split at h;rename_i cs a;obtain⟨b,cc,vs,T,d,y,z,B⟩:=hi.obj id _ a;obtain⟨u,g,n⟩:=DD z h;exact⟨u,n,id,b,cc,vs,T,cs,x,a,d,y,g⟩;grind;grind
  |cap t i=>simp only[look]at h;split at h;rename_i f cs r;have:=q t _ r;unfold Rep at this;obtain⟨us,_,n⟩:=this;obtain⟨u,_,g⟩:=DD n h;exact⟨u,g,trivial⟩;rename_i f cs r;have:=q t _ r;unfold Rep at this;obtain⟨us,_,n⟩:=this;obtain⟨u,_,g⟩:=DD n h;exact⟨u,g,trivial⟩;grind
  |obj j=>
   simp only[look,ANv]at h;split at h;rename_i T t xs a;cases h;have:=hi.obj j _ a;obtain⟨_,this⟩:=this;cases o:m j with
    |none=>refine⟨.slice none 0 0,?_,trivial⟩;unfold Rep Bq;grind
    |some p=>obtain⟨b,cap⟩:=p;refine⟨.slice (some ⟨b,0,none⟩) (List.length (α:=t.den) xs) cap,?_,trivial⟩;unfold Rep Bq;grind
   rename_i cs a;cases h;obtain⟨b,c,vs,T,d,_⟩:=hi.obj j _ a;refine⟨.pointer (some ⟨b,0,none⟩),?_,trivial⟩;unfold Rep Ge;grind;rename_i k v C a;cases h;obtain⟨b,c,vs,T,d,_⟩:=hi.obj j _ a;refine⟨.map (some b),?_,trivial⟩;unfold Rep Lp;grind;rename_i T t A a;cases h;cases o:m j with
    |none=>refine⟨.slice none 0 0,?_,trivial⟩;unfold Rep Bq;grind
    |some p=>obtain⟨b,cap⟩:=p;refine⟨.slice (some ⟨b,0,none⟩) A.length cap,?_,trivial⟩;unfold Rep Bq;grind
   rename_i T e t xs ver out a;cases h;cases o:m j with
    |none=>refine⟨.slice none 0 0,?_,trivial⟩;unfold Rep Bq;grind
    |some p=>obtain⟨b,cap⟩:=p;refine⟨.slice (some ⟨b,0,none⟩) (List.length (α:=List t.den) xs) cap,?_,trivial⟩;unfold Rep Bq;grind
   rename_i jk D e t xs ver out a;cases h;obtain⟨_,d⟩:=hi.obj j _ a;cases o:m j with
    |none=>rw[o]at d;cases d.1
    |some p=>obtain⟨b,cap⟩:=p;refine⟨.map (some b),?_,trivial⟩;unfold Rep Lp;grind
   grind
theorem uw.app{l:Loc}{u:Value}(h:uw w m H bs val l u)(b:Bnd):uw w m H (bs++[b]) val l u:=by
 cases l with
  |tmp t=>exact h
  |cap t i=>trivial
  |obj j=>trivial
  |cell j c=>obtain⟨id,a,cc,vs,T,cs,e,d⟩:=h;exact⟨id,a,cc,vs,T,cs,by grind,d⟩
theorem ANN(f:∀ j b,bs[j]? = some b->B8 w F m H fz m' E.heap j b):∀ (vs:List AV) (a:List (Nat×Nat)) (us:List Value),AC1 bs vs a=true->BA w F m H vs us->BA w F m' E.heap (a.map fun p=>.ptr p.1 p.2) us:=by
 intro vs;induction vs with
  |nil=>
   intro a us h c;cases a with
    |nil=>unfold BA at *;exact c
    |cons p a=>simp[AC1]at h
  |cons v vs g=>
   intro a us h c;cases a with
    |nil=>cases v<;>simp[AC1]at h
    |cons p a=>
     obtain⟨j,o'⟩:=p;cases v<;>simp only[AC1]at h<;>try grind
     rename_i id o;simp only[ARl]at h;obtain⟨e,i⟩:=h;unfold BA at c;obtain⟨u,d,rfl,k,c⟩:=c;simp only[ASE];unfold BA;refine⟨u,d,rfl,?_,g a d i c⟩;split at e;rename_i l n;simp only[ARl,ARm]at e;obtain⟨rfl,rfl⟩:=e;exact qn (f j _ n) k;grind
end
theorem qC(f g:List Nat):∀ fz,BF (f++g) fz=BF g (BF f fz):=by
 induction f with
  |nil=>intro fz;rfl
  |cons a f b=>intro fz;simp only[ASG,BF];grind
section
variable {w:World} {H:List Ob} {m:Mp} {val:Nat->Value} {tm:Nat->Option AV}
theorem C_{fz:List Bool}{id:Nat}(h:BG fz id=true):fz.getD id false=false:=by unfold BG at h;grind
theorem uD:∀ (its:A1) (fz:List Bool) (U:List Bnd) (F:Nat->Prop) (Y:Mp) (E:St) (d:BV (leaves its)) (L:List Bnd) (Z:List Nat),
  HI w F m H fz->(∀ t v,tm t=some v->Rep w F m H v (val t))->Inv w F m H fz U Y E val->dec tm H its fz U=some (d,L,Z) ->
  ∃ F2 m2,BO w F m H fz w F2 m H (BF Z fz)/\Inv w F2 m H (BF Z fz) L m2 (enc its d E) val/\∃ r,L=U++r:=by
 intro its;induction its with
  |nil=>intro fz U F Y E d L Z hi J V h;simp only[dec,ARi]at h;obtain⟨rfl,rfl,rfl⟩:=h;exact⟨F,Y,BO.refl hi,V,[],by simp⟩
  |cons p r ih=>
   intro fz U F Y E d L Z hi J V h;obtain⟨l,c⟩:=p
   have obj:∀ (b:Bnd) (o:Ob) (lc:Option (Nat×Nat)) (D:AV) (u:Value) (xs:BV (leaves r)) (g:List Nat),uw w m H U val l u->(∀ (i:Nat) (c:Bnd) (id:Nat),U[i]? = some c->c.id? = some id->b.id?≠some id) ->
     B8 w F m H fz (upd Y E.heap.length lc) (E.heap++[o]) E.heap.length b->Rep w F (upd Y E.heap.length lc) (E.heap++[o]) D u->dec tm H r fz (U++[b])=some (xs,L,g) ->
     ∃ F2 m2,BO w F m H fz w F2 m H (BF g fz)/\Inv w F2 m H (BF g fz) L m2 (enc r xs (place (EW E o) D l)) val/\∃ r,L=U++r:=by
    intro b o lc D u xs g q z hbd N hd
    have h1:=V.add z hbd
    have h2:=h1.place (q.app b) N
    grind
   have D:∀ (v:AV) (u:Value) (xs:BV (leaves r)) (g:List Nat),uw w m H U val l u->Rep w F Y E.heap v u->dec tm H r fz U=some (xs,L,g) ->
     ∃ F2 m2,BO w F m H fz w F2 m H (BF g fz)/\Inv w F2 m H (BF g fz) L m2 (enc r xs (place E v l)) val/\∃ r,L=U++r:=by
    intro v u xs g q N hd
    exact ih fz U F _ _ xs L g hi J (V.place q N) hd
   cases c with
    |dat t=>simp only[dec]at h;split at h;rename_i v A;split at h;rename_i x f hx;split at h;rename_i hf;split at h;rename_i xs M g hd;simp only[ARi]at h;obtain⟨rfl,rfl,rfl⟩:=h;obtain⟨u,s,q⟩:=Ca hi J A;have hdat:=AJe hi hx s;have hg:=BO.freeze hi f;have hv1:=V.freeze hf;have hv2:=hv1.place (v:=.data t x) q (by unfold Rep;omega);obtain⟨F2,m2,a1,a2,rr,a3⟩:=ih (BF f fz) U (Du F m H f) _ _ xs _ _ hg.2 (fun t v h=>hg.1.rep hi (J t v h)) hv2 hd;rw[qC];exact⟨F2,m2,hg.trans a1,a2,rr,a3⟩;grind;grind;grind;grind
    |own T e=>
     simp only[dec]at h;split at h;rename_i P A;split at h;rename_i K;simp only[ARm]at K;have hsz:=K;split at h;rename_i xs M g hd;simp only[ARi]at h;obtain⟨rfl,rfl,rfl⟩:=h;obtain⟨u,s,q⟩:=Ca hi J A;unfold Rep at s;refine obj .none (.arr T e []) none (.own E.heap.length) u xs _ q (fun _ _ _ _ _=>by simp[Bnd.id?]) ?_ ?_ hd;simp only[B8];exact⟨BW ..,.inl ⟨T,e,by simp,hsz⟩⟩;unfold Rep Bq;simp only[ASK (ARo _),AS3,ASL,BW];grind;grind;grind;rename_i id A;split at h;rename_i T' P ys G y;simp only[ARl]at y;obtain⟨O,y⟩:=y;split at h;rename_i ys' W K;simp only[ARm]at W;subst W;obtain⟨he,X⟩:=DB K;subst he;simp only at X;subst X;split at h;rename_i xs M g hd;simp only[ARi]at h;obtain⟨rfl,rfl,rfl⟩:=h;obtain⟨u,s,q⟩:=Ca hi J A;refine obj (.whole id) (.arr T P ys) (m id) (.own E.heap.length) u xs _ q (fun i c C I B => ?_) ?_ ?_ hd;rintro h;simp only[Bnd.id?,ARi]at h;subst h;exact Fe y i c I B;simp only[B8];exact⟨BW ..,.inl ⟨T,P,ys,G,by simp,C_ O⟩⟩;unfold Rep at s |-;rw[G]at s;rw[ASK (ARo _),AS3,ASL,BW];exact s;grind;grind;grind;rename_i id n A;split at h;rename_i T' P ys G y;simp only[ARl]at y;obtain⟨O,y⟩:=y;split at h;rename_i ys' W K;simp only[ARm]at W;subst W;obtain⟨he,X⟩:=DB K;subst he;simp only at X;subst X;split at h;rename_i xs M g hd;simp only[ARi]at h;obtain⟨rfl,rfl,rfl⟩:=h;obtain⟨u,s,q⟩:=Ca hi J A;unfold Rep HS at s;rw[G]at s;obtain⟨hle,s⟩:=s;have z:∀ (i:Nat) (c:Bnd) (C:Nat),U[i]? = some c->c.id? = some C->(Bnd.cut id).id?≠some C:=by intro i c C I B h;simp only[Bnd.id?,ARi]at h;subst h;exact Fe y i c I B
     have R:(E.heap++[Ob.arr T P (C1 n ys)])[E.heap.length]? = some (Ob.arr T P (C1 n ys)):=by simp
     obtain⟨hsz,Q⟩:=hi.obj id _ G;have hnil:n=0->List.take (α:=P.den) n ys=[]:=by grind
     have hlen:List.length (α:=P.den) (C1 n ys)=n:=by unfold C1;grind
     cases hm:m id with
      |none=>
       rw[hm]at Q s;simp only at Q s;subst Q;have h0:n=0:=by grind
       subst h0;obtain⟨a,rfl⟩:=s;refine obj (.cut id) (.arr T P (C1 0 [])) none (.own E.heap.length) _ xs _ q z ?_ ?_ hd;simp only[B8];exact⟨T,P,[],0,G,C_ O,R,.inl (by rw[BW,hm])⟩;unfold Rep;rw[R,BW];exact⟨a,rfl⟩
      |some p=>
       obtain⟨b,cap⟩:=p;rw[hm]at Q s;obtain⟨a,rfl,ha⟩:=s;obtain⟨vs,row,o1,o2,o3,o4,o5,o6⟩:=Q;by_cases hcap:cap=0;subst hcap;have h0:n=0:=by omega
       refine obj (.cut id) (.arr T P (C1 n ys)) none (.own E.heap.length) _ xs _ q z ?_ ?_ hd;simp only[B8];exact⟨T,P,ys,n,G,C_ O,R,.inr ⟨BW ..,hnil h0⟩⟩;unfold Rep;rw[R,BW];exact⟨a,by rw[h0]⟩;refine obj (.cut id) (.arr T P (C1 n ys)) (m id) (.own E.heap.length) _ xs _ q z ?_ ?_ hd;simp only[B8];exact⟨T,P,ys,n,G,C_ O,R,.inl (BW ..)⟩;unfold Rep Bq;rw[R,BW,hm];grind
     grind;grind;grind;grind
    |box n=>simp only[dec]at h;split at h;rename_i id A;split at h;rename_i cs G y;split at h;rename_i hn;simp only[ARm]at hn;obtain⟨u,s,q⟩:=Ca hi J A;obtain⟨b,cc,vs,T,b1,b2,b3,b4⟩:=hi.obj id _ G;refine obj (.whole id) (.box (List.replicate n .Cv)) (m id) (.ptr E.heap.length 0) u d Z q (fun i c C I B => ?_) ?_ ?_ h;rintro h;simp only[Bnd.id?,ARi]at h;subst h;exact Fe y i c I B;simp only[B8];refine⟨BW ..,.inr (.inr (.inl ⟨cs,List.replicate n .Cv,b,cc,vs,T,G,by simp,by simp[hn],b1,b2,?_,b4⟩))⟩;refine Dy (by rw[BY b3];simp[hn]) fun i c v K _ => ?_;have:=AT2 (ARu K);subst this;unfold Rep;trivial;unfold Rep Ge at s |-;rw[G]at s;rw[ASK (ARo _),AS3,ASL,BW];exact s;grind;grind;grind
    |map k v=>simp only[dec]at h;split at h;rename_i id A;split at h;rename_i k' v' es G y;split at h;rename_i es' K;obtain⟨he,X⟩:=DB K;cases he;simp only at X;subst X;split at h;rename_i xs M g hd;simp only[ARi]at h;obtain⟨rfl,rfl,rfl⟩:=h;obtain⟨u,s,q⟩:=Ca hi J A;refine obj (.whole id) (.map k v es) (m id) (.mp E.heap.length) u xs _ q (fun i c C I B => ?_) ?_ ?_ hd;rintro h;simp only[Bnd.id?,ARi]at h;subst h;exact Fe y i c I B;simp only[B8];exact⟨BW ..,.inr (.inl ⟨k,v,es,G,by simp⟩)⟩;unfold Rep Lp at s |-;rw[G]at s;rw[ASK (ARo _),AS3,ASL,BW];exact s;grind;grind;grind;grind
    |own' j=>simp only[dec]at h;split at h;rename_i id C A S;split at h;rename_i z;simp only[ARm]at z;subst z;obtain⟨u,s,q⟩:=Ca hi J A;exact D (.own j) u d Z q (AGx (V.ob j _ S) s) h;grind;grind
    |ptr' j off=>simp only[dec]at h;split at h;rename_i id o C A S;split at h;rename_i z;simp only[ARl,ARm]at z;obtain⟨rfl,rfl⟩:=z;obtain⟨u,s,q⟩:=Ca hi J A;exact D (.ptr j o) u d Z q (qn (V.ob j _ S) s) h;grind;grind
    |sub' j=>simp only[dec]at h;split at h;rename_i id off n C A S;split at h;rename_i z;simp only[ARm]at z;subst z;split at h;rename_i xs M g hd;simp only[ARi]at h;obtain⟨rfl,rfl,rfl⟩:=h;obtain⟨u,s,q⟩:=Ca hi J A;exact D (.win j off n) u xs _ q (oo (V.ob j _ S) s) hd;grind;grind;grind
    |win' j=>simp only[dec]at h;split at h;rename_i id n C A S;split at h;rename_i z;simp only[ARm]at z;subst z;split at h;rename_i xs M g hd;simp only[ARi]at h;obtain⟨rfl,rfl,rfl⟩:=h;obtain⟨u,s,q⟩:=Ca hi J A;exact D (.win j 0 n) u xs _ q (oo (V.ob j _ S) s) hd;grind;grind;rename_i id C A S;split at h;rename_i T t ys z G;simp only[ARm]at z;subst z;split at h;rename_i xs M g hd;simp only[ARi]at h;obtain⟨rfl,rfl,rfl⟩:=h;obtain⟨u,s,q⟩:=Ca hi J A;exact D (.win j 0 ys.length) u xs _ q (oo (V.ob j _ S) (ALk hi G s)) hd;grind;grind;grind
    |map' j=>simp only[dec]at h;split at h;rename_i id C A S;split at h;rename_i z;simp only[ARm]at z;subst z;obtain⟨u,s,q⟩:=Ca hi J A;exact D (.mp j) u d Z q (AQ4 (V.ob j _ S) s) h;grind;grind
    |clo f ps=>simp only[dec]at h;split at h;rename_i f' vs A;split at h;rename_i K;simp only[ARl,ARm]at K;obtain⟨rfl,K⟩:=K;obtain⟨u,s,q⟩:=Ca hi J A;unfold Rep at s;obtain⟨cs,rfl,hr⟩:=s;exact D (.clo f (ps.map fun p=>.ptr p.1 p.2)) _ d Z q (by unfold Rep;exact⟨cs,rfl,ANN V.ob vs ps cs.toList K hr⟩) h;grind;grind
    |bnd f j=>simp only[dec]at h;split at h;rename_i f' id C A S;split at h;rename_i K;simp only[ARl,ARm]at K;obtain⟨rfl,rfl⟩:=K;obtain⟨u,s,q⟩:=Ca hi J A;unfold Rep at s;obtain⟨cs,rfl,hr⟩:=s;refine D (.bnd f [.own j]) _ d Z q ?_ h;unfold Rep;refine⟨cs,rfl,?_⟩;unfold BA at hr |-;obtain⟨x,xs,e1,e2,e3⟩:=hr;refine⟨x,xs,e1,AGx (V.ob j _ S) e2,?_⟩;unfold BA at e3 |-;exact e3;grind;grind
    |prs T j=>
     simp only[dec]at h;split at h;rename_i P A;split at h;rename_i xs M g hd;simp only[ARi]at h;obtain⟨rfl,rfl,rfl⟩:=h;obtain⟨u,s,q⟩:=Ca hi J A;unfold Rep at s;refine obj .none (.prs T j []) none (.own E.heap.length) u xs _ q (fun _ _ _ _ _=>by simp[Bnd.id?]) ?_ ?_ hd;simp only[B8];exact⟨BW ..,.inr ⟨T,j,by simp⟩⟩;unfold Rep Bq;simp only[ASK (ARo _),AS3,ASL,BW];grind;grind;rename_i id A;split at h;rename_i T' tgt is tgt' G y S;split at h;rename_i W;simp only[ARl,ARm]at W;obtain⟨rfl,rfl⟩:=W;split at h;rename_i xs M g hd;simp only[ARi]at h;obtain⟨rfl,rfl,rfl⟩:=h;obtain⟨u,s,q⟩:=Ca hi J A;have hbj:=V.ob j _ S;have Q:=hi.obj id _ G;have hcomp:C8 E.heap (E.heap++[.prs T j is]) Y (upd Y E.heap.length (m id)):=by
      intro i x hi hf;have hlt:=BS hi;rcases C8.refl E.heap Y i x hi hf with h|⟨hd,o',h4,h5,_⟩
      grind;exact .inr ⟨hd,o',by grind,h5,Fy (by omega),fun _ _ _=>E1 (by simp)⟩
     have hob':ObI w F (upd Y E.heap.length (m id)) (E.heap++[.prs T j is]) (.prs T j is) (m id):=by
      cases hm:m id with
       |none=>rw[hm]at Q;exact Q
       |some p=>obtain⟨b,cap⟩:=p;rw[hm]at Q hcomp;obtain⟨vs,us,e1,e2,e3,e4,e5,e6⟩:=Q;exact⟨vs,us,e1,e2,e3,e4,BA.mono (fun _ _=>rfl) (fun _ h=>h) hcomp _ (ALB hbj e5),e6⟩
     refine obj (.whole id) (.prs T j is) (m id) (.own E.heap.length) u xs _ q (fun i c C I B => ?_) ?_ ?_ hd;rintro h;simp only[Bnd.id?,ARi]at h;subst h;exact Fe y i c I B;simp only[B8];exact⟨BW ..,.inr (.inr (.inr (.inl ⟨T,tgt,j,is,G,by simp,hob'⟩)))⟩;unfold Rep at s |-;rw[G]at s;rw[ASK (ARo _),AS3,ASL,BW];exact s;grind;grind;grind;grind
    |nil e=>
     simp only[dec]at h;cases A:look tm H U l with
      |none=>grind
      |some v=>
       rw[A]at h;cases v with
        |nils P=>obtain⟨u,s,q⟩:=Ca hi J A;exact D (.nils e) u d Z q (by unfold Rep at *;exact s) h
        |_=>cases h
    |rows T e t=>
     simp only[dec]at h;split at h;rename_i id A;split at h;rename_i T' P t' ys ver G y;simp only[ARl]at y;obtain⟨O,y⟩:=y;split at h;rename_i ys' W K;simp only[ARl,ARm]at W;obtain⟨rfl,rfl⟩:=W;obtain⟨he,X⟩:=DB K;cases he;simp only at X;subst X;split at h;rename_i xs M g hd;simp only[ARi]at h;obtain⟨rfl,rfl,rfl⟩:=h;obtain⟨u,s,q⟩:=Ca hi J A;have N:Rep w F (Nq Y E.heap.length (m id) fun k=>m (.r id k)) (E.heap++[.rows (.arr T) e t ys 0 none]) (.own E.heap.length) u:=by unfold Rep at s |-;rw[G]at s;rw[ASK (ARo _),AS3,ASL,Ks];exact s
     have h1:=V.AQG (b:=.whole id) (o:=.rows (.arr T) e t ys 0 none) (mn:=Nq Y E.heap.length (m id) fun k=>m (.r id k)) (fun x hx=>HY hx)
      (fun i c C I B h=>by simp only[Bnd.id?,ARi]at h;subst h;exact Fe y i c I B)
      (by simp only[B8];exact⟨Ks,.inr (.inr (.inr (.inr ⟨.arr T,e,t,ys,ver,G,by simp,fun k=>dX,C_ O⟩)))⟩)
     have h2:=h1.place (q.app (.whole id)) N;obtain⟨F2,m2,a1,a2,rr,a3⟩:=ih fz (U++[.whole id]) F _ _ xs _ _ hi J h2 hd;exact⟨F2,m2,a1,a2,.whole id::rr,by grind⟩;grind;grind;grind;grind
    |mrows j e t=>
     simp only[dec]at h;split at h;rename_i id A;split at h;rename_i j' ks P t' ys ver G y;simp only[ARl]at y;obtain⟨O,y⟩:=y;split at h;rename_i ys' W K;simp only[ARl,ARm]at W;obtain⟨rfl,rfl⟩:=W;obtain⟨he,X⟩:=DB K;cases he;simp only at X;subst X;split at h;rename_i xs M g hd;simp only[ARi]at h;obtain⟨rfl,rfl,rfl⟩:=h;obtain⟨u,s,q⟩:=Ca hi J A;have N:Rep w F (Nq Y E.heap.length (m id) fun k=>m (.r id k)) (E.heap++[.rows (.map j ks) e t ys 0 none]) (.mp E.heap.length) u:=by unfold Rep at s |-;rw[G]at s;rw[ASK (ARo _),AS3,ASL,Ks];exact s
     have h1:=V.AQG (b:=.whole id) (o:=.rows (.map j ks) e t ys 0 none) (mn:=Nq Y E.heap.length (m id) fun k=>m (.r id k)) (fun x hx=>HY hx)
      (fun i c C I B h=>by simp only[Bnd.id?,ARi]at h;subst h;exact Fe y i c I B)
      (by simp only[B8];exact⟨Ks,.inr (.inr (.inr (.inr ⟨.map j ks,e,t,ys,ver,G,by simp,fun k=>dX,C_ O⟩)))⟩)
     have h2:=h1.place (q.app (.whole id)) N;have hzl:ks.length=List.length (α:=List t.den) ys:=by
      obtain⟨_,h4⟩:=hi.obj id _ G;cases hm:m id with
       |none=>rw[hm]at h4;cases h4.1
       |some p=>obtain⟨b,cap⟩:=p;rw[hm]at h4;obtain⟨_,_,_,_,_,h5,_⟩:=h4;grind
     have he:enc ((l,.mrows j e t)::r) ((List.zip (β:=List t.den) ks ys,xs):BV (leaves ((l,.mrows j e t)::r))) E=enc r xs (place (EW E (.rows (.map j ks) e t ys 0 none)) (.mp E.heap.length) l):=by simp only[enc];rw[List.map_fst_zip (ATZ hzl),List.map_snd_zip (ATZ hzl.symm)]
     grind;grind;grind;grind;grind
    |aptr T e n=>simp only[dec]at h;split at h;rename_i id n' A;split at h;rename_i T' P ys G y;simp only[ARl]at y;obtain⟨O,y⟩:=y;split at h;rename_i ys' W K;simp only[ARl,ARm]at W;obtain⟨rfl,rfl⟩:=W;obtain⟨he,X⟩:=DB K;subst he;simp only at X;subst X;split at h;rename_i xs M g hd;simp only[ARi]at h;obtain⟨rfl,rfl,rfl⟩:=h;obtain⟨u,s,q⟩:=Ca hi J A;refine obj (.whole id) (.arr T P ys) (m id) (.aptr E.heap.length n) u xs _ q (fun i c C I B => ?_) ?_ ?_ hd;rintro h;simp only[Bnd.id?,ARi]at h;subst h;exact Fe y i c I B;simp only[B8];exact⟨BW ..,.inl ⟨T,P,ys,G,by simp,C_ O⟩⟩;unfold Rep at s |-;rw[G]at s;rw[ASK (ARo _),AS3,ASL,BW];exact s;grind;grind;grind;grind
    |bndp f j=>simp only[dec]at h;split at h;rename_i f' id C A S;split at h;rename_i K;simp only[ARl,ARm]at K;obtain⟨rfl,rfl⟩:=K;obtain⟨u,s,q⟩:=Ca hi J A;unfold Rep at s;obtain⟨cs,rfl,hr⟩:=s;refine D (.bnd f [.ptr j 0]) _ d Z q ?_ h;unfold Rep;refine⟨cs,rfl,?_⟩;unfold BA at hr |-;obtain⟨x,xs,e1,e2,e3⟩:=hr;refine⟨x,xs,e1,qn (V.ob j _ S) e2,?_⟩;unfold BA at e3 |-;exact e3;grind;grind
    |nilp=>
     simp only[dec]at h;cases A:look tm H U l with
      |none=>grind
      |some v=>
       rw[A]at h;cases v with
        |nilp=>obtain⟨u,s,q⟩:=Ca hi J A;exact D .nilp u d Z q (by unfold Rep at *;exact s) h
        |_=>cases h
    |aptr' j n=>simp only[dec]at h;split at h;rename_i id n' C A S;split at h;rename_i z;simp only[ARl,ARm]at z;obtain⟨rfl,rfl⟩:=z;obtain⟨u,s,q⟩:=Ca hi J A;exact D (.aptr j n) u d Z q (ANc (V.ob j _ S) s) h;grind;grind
end
structure HT(np:Nat)(w:World)(F:Nat->Prop)(m:Mp)(H:List Ob)(fz:List Bool)(w':World)(F':Nat->Prop)(m':Mp)(H':List Ob)(fz':List Bool):Prop where
 os:w'.os=w.os
 tape:w'.tape=w.tape
 output:w'.output=w.output
 size:w.heap.size<=w'.heap.size
 keep:∀ b,b<w.heap.size->(∀ i c,owned H fz i->m i≠some (b,c))->w'.heap[b]? = w.heap[b]?
 sub:∀ b,F b->F' b
 bnd:∀ b,F' b->F b\/(∃ i c,owned H fz i/\m i=some (b,c))\/w.heap.size<=b
 own:∀ i b c,owned H' fz' i->m' i=some (b,c)->(∃ i c,owned H fz i/\m i=some (b,c))\/w.heap.size<=b
 comp:∀ (i:Nat) o,i<np->H[i]? = some o->o≠.free->H'[i]? = some .dead\/(o≠.dead/\∃ o',H'[i]? = some o'/\sameShape o o'/\m' i=m i/\(B_ o=false->PL o'=PL o->∀ k,m' (.r i k)=m (.r i k)))
theorem Ext.toN{w w':World}{F a:Nat->Prop}{m b:Mp}{H H':List Ob}{fz fz':List Bool}(h:Ext w F m H fz w' a b H' fz')(np:Nat):HT np w F m H fz w' a b H' fz':=
 ⟨h.os,h.tape,h.output,h.size,h.keep,h.sub,h.bnd,h.own,fun i o _=>h.comp i o⟩
theorem HT.refl(np:Nat)(w:World)(F:Nat->Prop)(m:Mp)(H:List Ob)(fz:List Bool):HT np w F m H fz w F m H fz:=(Ext.refl ..).toN np
theorem HT.trans{np:Nat}{w s t:World}{F u v:Nat->Prop}{m x y:Mp}{H z A:List Ob}{fz g j:List Bool}
  (h:HT np w F m H fz s u x z g) (k:HT np s u x z g t v y A j):HT np w F m H fz t v y A j where
 os:=k.os.trans h.os
 tape:=k.tape.trans h.tape
 output:=k.output.trans h.output
 size:=ASz h.size k.size
 keep b hb hn:=by rw[k.keep b (ASm hb h.size) ?_,h.keep b hb hn];intro i c n C;rcases h.own i b c n C with⟨B,c',d,e⟩|d;all_goals grind
 sub b hb:=k.sub b (h.sub b hb)
 bnd b hb:=by
  rcases k.bnd b hb with d|⟨i,c,d,e⟩|d;exact h.bnd b d;·rcases h.own i b c d e with f|f;all_goals grind
  exact .inr (.inr (ASz h.size d))
 own i b c d e:=by rcases k.own i b c d e with⟨B,c',f,l⟩|f;exact h.own B b c' f l;exact .inr (ASz h.size f)
 comp i o hlt n hf:=by
  rcases h.comp i o hlt n hf with d|⟨hd,o',d,e,f,E⟩
  ·rcases k.comp i _ hlt d (by simp)with l|⟨p,_⟩
   all_goals grind
  have q:o'≠.free:=by rintro rfl;cases o<;>simp[sameShape]at e
  rcases k.comp i o' hlt d q with l|⟨_,r,l,p,D,G⟩
  grind;refine .inr ⟨hd,r,l,e.trans p,D.trans f,fun a b k => ?_⟩;have I:=e.ver;have J:=p.ver;grind
section
variable {w:World} {F:Nat->Prop} {m:Mp} {H:List Ob} {fz:List Bool} {bs:List Bnd} {m':Mp} {E:St} {val:Nat->Value}
def Ix.at:Ix->Nat->Ix
 |.o _,i=>.o i
 |.r _ k,i=>.r i k
theorem Ix.AOB(x:Ix)(i:Nat):(x.at i).id=i:=by cases x<;>rfl
theorem Inv.ARU(h:Inv w F m H fz bs m' E val){i b c:Nat}(k:owned E.heap E.frz i)(l:m' i=some (b,c)):∃ x id,bs[i]? = some x/\x.id? = some id/\owned H fz id/\m id=some (b,c):=by
 obtain⟨o,g,_,_⟩:=FI k;have d:=BS g;rw[h.lenH]at d;have f:bs[i]? = some bs[i]:=ARs d;have a:=h.ob i _ f;cases j:bs[i]with
  |none=>rw[j]at a;simp only[B8]at a;grind
  |whole id=>rw[j]at a f;simp only[B8]at a;obtain⟨e,a⟩:=a;refine⟨_,id,f,rfl,?_,by grind⟩;simp only[owned,Cd];grind
  |cut id=>rw[j]at a f;simp only[B8]at a;obtain⟨T,t,xs,n,p,q,r,s⟩:=a;refine⟨_,id,f,rfl,by simp only[owned,Cd];grind,?_⟩;grind
theorem Inv.rowAt(h:Inv w F m H fz bs m' E val){j:Nat}{T:RK}{e:TypeId}{t:Ty}{xs:List (List t.den)}{ver:Nat}{out:Option Nat}(g:E.heap[j]? = some (.rows T e t xs ver out)):
  ∃ id b,bs[j]? = some (.whole id)/\H[id]? = some (.rows T e t xs b none)/\out=none/\m' j=m id/\(∀ k,m' (.r j k)=m (.r id k))/\fz.getD id false=false:=by
 have c:=BS g;rw[h.lenH]at c;have f:bs[j]? = some bs[j]:=ARs c;have a:=h.ob j _ f;cases d:bs[j]with
  |none=>rw[d]at a;simp only[B8]at a;grind
  |whole id=>rw[d]at a f;simp only[B8]at a;grind
  |cut id=>rw[d]at a;simp only[B8]at a;grind
theorem Inv.src(h:Inv w F m H fz bs m' E val){i:Ix}{b c:Nat}(a:owned E.heap E.frz i)(d:m' i=some (b,c)):∃ x id,bs[i.id]? = some x/\x.id? = some id/\owned H fz (i.at id)/\m (i.at id)=some (b,c):=by
 cases i with
  |o i=>exact h.ARU a d
  |r i k=>simp only[owned]at a;split at a;rename_i T e t xs ver out g;obtain⟨id,f,j,n,_,_,l,p⟩:=h.rowAt g;exact⟨_,id,j,rfl,by simp only[owned,Ix.at];grind,(l k).symm.trans d⟩;grind
theorem Inv.hi(hi:HI w F m H fz)(h:Inv w F m H fz bs m' E val):HI w F m' E.heap E.frz where
 obj j o f:=by
  have s:=BS f;rw[h.lenH]at s;have C:bs[j]? = some bs[j]:=ARs s;have g:=h.ob j _ C;cases D:bs[j]with
   |none=>rw[D]at g;simp only[B8]at g;obtain⟨M,⟨T,e,u,Q⟩|⟨T,t,u⟩⟩:=g;rw[f]at u;cases u;exact⟨Q,by rw[M]⟩;rw[f]at u;cases u;rw[M];exact(rfl:([]:List Int)=[])
   |whole id=>
    rw[D]at g;simp only[B8]at g;obtain⟨e,g⟩:=g;rcases g with⟨T,t,xs,l,a,z⟩|⟨k,v,es,l,a⟩|⟨cs,R,b,c,vs,T,l,a,_,q,B,S,U⟩|⟨T,V,j0,is,l,a,z⟩|⟨T,e',t,xs,ver,l,a,z⟩
    rw[f]at a;cases a;rw[e];exact hi.obj id _ l;rw[f]at a;cases a;rw[e];exact hi.obj id _ l;rw[f]at a;cases a;exact⟨b,c,vs,T,e.trans q,B,S,U⟩;grind;rw[f]at a;cases a;rw[e];exact hi.obj id _ l
   |cut id=>
    rw[D]at g;simp only[B8]at g;obtain⟨T,t,xs,n,l,a,z,q⟩:=g;rw[f]at z;cases z;obtain⟨G,d⟩:=hi.obj id _ l;refine⟨G,?_⟩;rcases q with q|⟨q,B⟩
    ·rw[q];cases W:m id with
      |none=>grind
      |some p=>obtain⟨b,cap⟩:=p;rw[W]at d;simp only at d |-;obtain⟨vs,row,X,b2,Y,Z,b5,b6⟩:=d;refine⟨vs,row.take (n*t.size),X,?_,Y,Z,Ea (fun x cs C=>Dat.length t C) n b5,?_⟩;all_goals grind
    grind
 row i:=by intro T e t xs ver out f k ys hk;obtain⟨id,A,l,a,rfl,q,B,_⟩:=h.rowAt f;obtain⟨d,r⟩:=hi.row id T e t xs A none a k ys hk;rw[B k];refine⟨?_,fun _ => ?_⟩;obtain⟨G,d⟩:=d;exact⟨G,d⟩;grind
 rfz i T e t xs ver out f hf:=by rw[h.frz i]at hf;cases hf
 sep i j b c b' c' d r hij h3 h4:=by
  obtain⟨x,id,N,O,I,J⟩:=h.src d h3;obtain⟨y,K,l1,l2,l3,l4⟩:=h.src r h4;refine hi.sep _ _ b c b' c' I l3 ?_ J l4;intro P;have L:id=K:=by rw[<- Ix.AOB i id,P,Ix.AOB]
  subst L;have:=h.inj _ _ x y id N l1 O l2;cases i<;>cases j<;>simp only[Ix.at,Ix.id]at P this<;>(grind)<;>subst this<;>exact hij rfl
 off i b c d r:=by obtain⟨x,id,N,O,I,J⟩:=h.src d r;exact hi.off _ b c I J
 froz i T t xs b c d r:=by rw[h.frz i]at r;cases r
 lt:=hi.lt
 glo:=hi.glo
 len:=h.lenF.symm
theorem kj:∀ (n i:Nat) (bs:List Bnd),pins n i bs=true->∀ k,k<n->bs[k]? = some (.whole (i+k)):=by
 intro n;induction n with
  |zero=>omega
  |succ n a=>
   intro i bs h k c;cases bs with
    |nil=>simp[pins]at h
    |cons b bs=>
     simp only[pins,ARl,ARm]at h;cases k with
      |zero=>grind
      |succ k=>grind
theorem Inv.blank{val:Nat->Value}(n:Nat):Inv w F m H fz [] (fun _=>none) (Pev.blank n) val where
 tmps t:=by rw[show(Pev.blank n).tmps.f t = .Cv from rfl];unfold Rep;trivial
 lenH:=rfl
 lenF:=rfl
 frz i:=by simp[Pev.blank]
 ob j b h:=by simp at h
 inj i j b c id h:=by simp at h
theorem qw(st:St)(v:AV)(l:Loc):(place st v l).tmps.n=st.tmps.n:=by
 cases l with
  |tmp t=>rfl
  |cell j c=>simp only[place];grind
  |cap t i=>rfl
  |obj j=>rfl
theorem AIS:∀ (a:A1) (d:BV (leaves a)) (st:St),(enc a d st).tmps.n=st.tmps.n:=by
 intro a;induction a with
  |nil=>intro d st;rfl
  |cons p r b=>intro d st;obtain⟨l,c⟩:=p;cases c<;>exact(b _ _).trans (qw _ _ _)
theorem Mo(n:Nat)(a:A1)(d:BV (leaves a)):(encode n a d).tmps.n=n:=by unfold encode;rw[AIS];simp[blank]
theorem AAA{y:Nat->Prop}{q:List Bool}{np:Nat}(h:Inv w y m H q bs m' E val)(n:(pins np 0 bs&&(H.take np).all B_)=true):∀ (i:Nat) o,i<np->H[i]? = some o->o≠.free->E.heap[i]? = some .dead\/(o≠.dead/\∃ o',E.heap[i]? = some o'/\sameShape o o'/\m' i=m i/\(B_ o=false->PL o'=PL o->∀ k,m' (.r i k)=m (.r i k))):=by
 intro i o s j B;rw[ARl]at n;obtain⟨n,l⟩:=n;have u:B_ o=true:=AR1.1 l o (ARu (i:=i) (by grind))
 suffices z:E.heap[i]? = some .dead\/(o≠.dead/\∃ o',E.heap[i]? = some o'/\sameShape o o'/\m' i=m i)from
  z.imp id fun ⟨a,o',b,c,d⟩=>⟨a,o',b,c,d,fun e=>by grind⟩
 have x:=kj np 0 bs n i s;rw[ASP]at x;have p:=h.ob i _ x;simp only[B8]at p;obtain⟨e,p⟩:=p;right;rcases p with⟨T,t,xs,f,g,C⟩|⟨k,v,D,f,g⟩|⟨cs,A,b,c,vs,T,f,g,_,G,I,J,K⟩|⟨_,_,_,_,f,g,_⟩|⟨_,_,_,_,_,f,g,_⟩
 rw[j]at f;cases f;exact⟨by simp,_,g,⟨rfl,rfl⟩,e⟩;rw[j]at f;cases f;exact⟨by simp,_,g,trivial,e⟩;rw[j]at f;cases f;exact⟨by simp,_,g,trivial,e⟩;rw[j]at f;cases f;exact⟨by simp,_,g,rfl,e⟩;rw[j]at f;cases f;cases u
theorem GV[DfI]{np e:Nat}{st:St}{a:Act}{d:A1}{v:BV (leaves d)}(f:SI w F m st a)(h:decode np e st d=some v):
  ∃ k m',SI w k m' (encode e d v) a/\HT np w F m st.heap st.frz w k m' (encode e d v).heap (encode e d v).frz:=by
 unfold decode at h;split at h;rename_i l;simp only[ARm]at l;split at h;rename_i n bs o hd;split at h;rename_i p;simp only[ARi]at h;subst h
 obtain⟨q,r,g,j,_⟩:=uD (val:=fun t=>a.tmps.getD t undef) d st.frz [] F (fun _=>none) (blank e) n bs o f.heap
  (fun t v s=>by rw[(Tm.ANX s).1];exact f.tmps t) (Inv.blank e) hd
 refine⟨q,r,⟨j.tmps,by rw[Mo,<- l];exact f.size,j.hi g.2,f.defers⟩,?_⟩;refine⟨rfl,rfl,rfl,ARo _,fun _ _ _=>rfl,g.1.sub,g.1.bnd,fun i b c u y => ?_,AAA j p⟩;obtain⟨x,id,B,C,z,A⟩:=j.src u y;exact g.1.own _ b c z A;grind;grind;grind
end
theorem Mh{R:Type}{all:List Oper}{g:Option (Nat×Bool)}{st:St}{f l:St->Option R}{r:R}(h:guarded R all g st f l=some r):
  ∃ st',(f st'=some r/\∀ (i:Type) (a c:St->Option i),guarded i all g st a c=a st')\/(l st'=some r/\∀ (i:Type) (a c:St->Option i),guarded i all g st a c=c st'):=by
 unfold guarded at h;split at h;exact⟨st,.inl ⟨h,fun _ _ _=>by simp[guarded]⟩⟩;rename_i j e;split at h;cases h;rename_i d k;split at h;rename_i b hd;cases b with
  |true=>
   cases e with
    |true=>exact⟨_,.inl ⟨h,fun _ _ _=>by simp only[guarded,k,hd]⟩⟩
    |false=>exact⟨_,.inr ⟨h,fun _ _ _=>by simp only[guarded,k,hd]⟩⟩
  |false=>
   cases e with
    |true=>exact⟨_,.inr ⟨h,fun _ _ _=>by simp only[guarded,k,hd]⟩⟩
    |false=>exact⟨_,.inl ⟨h,fun _ _ _=>by simp only[guarded,k,hd]⟩⟩
 rename_i hd;exact⟨_,.inr ⟨h,fun _ _ _=>by simp only[guarded,k,hd]⟩⟩;grind
section
variable [DfI] {P:Program} {E:Env}
theorem bP(i:∀ g,BQ P g (E.spec g)){R:Type}{r:R}{all:List Oper}{o:Oper}{φ:List Nat}{slot:Nat}{st:St}{k:St->Option R}(h:Pb P E R all o φ slot st k=some r):
  ∃ st',k st'=some r/\∀ (b:Type) (c:St->Option b),Pb P E b all o φ slot st c=c st':=by
 unfold Pb at h;obtain⟨j,a⟩:=Mh h;rcases a with⟨a,d⟩|⟨a,d⟩
 split at a;rename_i m;obtain⟨v,e,f,n,_⟩:=Ej i o.op _ _ _ _ _ _ _ r a;split at f;rename_i l;exact⟨_,f,fun b c=>by unfold Pb;grind⟩;grind;grind;exact⟨_,a,fun b c=>by unfold Pb;rw[d]⟩
theorem SI.Cv{w:World}{F:Nat->Prop}{m:Mp}{st:St}{a:Act}(h:SI w F m st a)(d:Option Tmp):SI w F m (st.put d .Cv) a:=by
 cases d with
  |none=>exact h
  |some d=>refine⟨fun t => ?_,h.size,h.heap,h.defers⟩;simp only[St.put,Tm.Sm];split;exact(by unfold Rep;trivial:Rep w F m st.heap .Cv _);exact h.tmps t
theorem Eu(st:St)(d:Option Tmp)(v:AV):(st.put d v).heap=st.heap/\(st.put d v).frz=st.frz:=by cases d<;>exact⟨rfl,rfl⟩
theorem sq:∀ (l:List Oper) (st:St),(Fx l st).heap=st.heap/\(Fx l st).frz=st.frz:=by
 intro l;induction l with
  |nil=>exact fun st=>⟨rfl,rfl⟩
  |cons o l a=>intro st;exact⟨(a _).1.trans (Eu ..).1,(a _).2.trans (Eu ..).2⟩
theorem SI.Fx{w:World}{F:Nat->Prop}{m:Mp}{a:Act}:∀ (l:List Oper) {st:St},SI w F m st a->SI w F m (Pev.Fx l st) a:=by
 intro l;induction l with
  |nil=>exact fun h=>h
  |cons o l b=>exact fun h=>b (h.Cv o.dst)
theorem AK9(st:St)(d:Option Tmp)(u v:AV):(st.put d u).put d v=st.put d v:=by
 cases d with
  |none=>rfl
  |some d=>simp only[St.put,Tm.set_set]
theorem cJ:∀ (l:List Oper) (st:St) (x:Oper) (v:AV),x∈l->Pev.Fx l (st.put x.dst v)=Pev.Fx l st:=by
 intro l;induction l with
  |nil=>simp
  |cons o l f=>intro st x v g;simp only[Pev.Fx];by_cases a:o.dst=x.dst;rw[a,AK9];have b:∀ d,x.dst=some d->o.dst≠some d:=fun d c e=>a (e.trans c.symm);rw[St.put_comm st v .Cv b];grind
def Lq(E:Env)(o:Oper)(slot:Nat)(st:St)(p:PV)(e:Eff):Prop:=
 o.guard=none/\((∃ x,o.op = .panic x/\BX st.tmps x = .ifc (some p)/\e = {}) \/
  ∃ f args a s,o.op = .call { callee:=.value (.func f),args:=args,argTypes:=a }/\E.pan f=some s /\
   ∀ (R:Type) (k:AV->Eff->Option R) (kp:PV->Eff->Option R),s R (args.toList.map (BX st.tmps)) st.heap st.frz slot k kp=kp p e)
theorem ZC{w:World}{F:Nat->Prop}{m:Mp}{H:List Ob}{ρ:Operand->AV}{a:Act}(b:∀ x,Rep w F m H (ρ x) (a.eval x))(args:Array Operand):BA w F m H (args.toList.map ρ) (args.map a.eval).toList:=by rw[AS1];exact Dy (by simp) fun i c v d e=>by grind
theorem kW(t:Fu P E){o:Oper}{slot:Nat}{st:St}{p:PV}{e:Eff}(h:Lq E o slot st p e){w:World}{F:Nat->Prop}{m:Mp}{a:Act}(d:SI w F m st a){next:Act->World->Prop}{Q:Exit->Act->World->Prop}
  (u:∀ w' k n,BO w F m st.heap st.frz w' k n (Cp e st.heap) (Eo e st.frz)->Q (.panic [C4 p]) a w'):o.wp P a w next Q:=by
 obtain⟨_,⟨x,i,v,rfl⟩|⟨f,args,C,s,i,y,j⟩⟩:=h;have g:=Ev d.tmps x;rw[v]at g;unfold Rep at g;unfold Oper.wp;have b:(execOp a.eval o).run P w = .halt (.panic (Jq (some p))) w:=by obtain⟨T,l⟩:=p;simp only[Jq]at g;simp[execOp,i,g,Instr.panic,goPanic,Jq]
 rw[b];exact u w F m (BO.refl d.heap);obtain q|q:=t f s y (PV×Eff) (args.toList.map (BX st.tmps)) st.heap st.frz slot (fun _ _=>none) (fun p e=>some (p,e)) (p,e) (j _ _ _);grind;obtain⟨D,G,r,_,z,A⟩:=q;simp only[ARi,ARw]at r;obtain⟨rfl,rfl⟩:=r;have c:=A w F m _ d.heap (ZC (fun x=>Ev d.tmps x) args);rw[ATV]at c;unfold Oper.wp;have b:(execOp a.eval o).run P w = .ok (.enter f (args.map a.eval)) w:=by simp[execOp,i,resolve,Act.eval,Deferred.ofValue,invoke,z _ w]
 rw[b];exact c.mono fun H w' ⟨B,k,n,I⟩=>by grind
theorem G3(n:Fu P E){R:Type}{r:R}{o:Oper}{st:St}{slot:Nat}{q:PV⊕(Kg×List AV)}(h:S1 E (BX st.tmps) o=some q){k:AV->Eff->Option R}{kp:PV->Eff->Option R}
  (i:(match q with
   |.inl p=>kp p {}
   |.inr (s,args)=>s R args st.heap st.frz slot k kp)=some r) :
  (∃ p e,kp p e=some r/\Lq E o slot st p e/\∀ (a:Type) (c:AV->Eff->Option a) (b:PV->Eff->Option a),(match q with
   |.inl p=>b p {}
   |.inr (s,args)=>s a args st.heap st.frz slot c b)=b p e) \/
  (∃ s args v e,q = .inr (s,args)/\o.guard=none/\k v e=some r/\(∀ (a:Type) (c:AV->Eff->Option a),evalOp P E a o.op o.type (BX st.tmps) st.heap st.frz slot c=c v e) /\
   ∀ (a:Type) (c:AV->Eff->Option a) (b:PV->Eff->Option a),s a args st.heap st.frz slot c b=c v e):=by
 unfold S1 at h;split at h;cases h;rename_i j;split at h;rename_i x d;split at h;rename_i p t;simp only[ARi]at h;subst h;exact .inl ⟨p,{},i,⟨j,.inl ⟨x,d,t,rfl⟩⟩,fun _ _ _=>rfl⟩;grind;rename_i f args u d;split at h;rename_i s m;simp only[ARi]at h;subst h;simp only at i;rcases n f s m R _ _ _ _ _ _ _ i with⟨v,e,l,g,w⟩|⟨p,e,l,g,_,_⟩
 refine .inr ⟨s,_,v,e,rfl,j,l,fun a c => ?_,g⟩;rw[d];simp only[evalOp,Jw,BX,ASu];grind;exact .inl ⟨p,e,l,⟨j,.inr ⟨f,args,u,s,d,m,g⟩⟩,g⟩;grind;grind
theorem kq(w:∀ g,BQ P g (E.spec g))(z:Fu P E){R:Type}{r:R}{t:Bool}{all:List Oper}:∀ (b:List Oper) (fp:List (List Nat)) (slot:Nat) (st:St) (k:Exit->St->Option R),Ci P E R t all b fp slot st k=some r ->
  ∃ e st',k e st'=some r/\∀ (d:Type) (f:Exit->St->Option d),Ci P E d t all b fp slot st f=f e st':=by
 intro b;induction b with
  |nil=>intro fp slot st k h;exact⟨_,_,h,fun _ _=>rfl⟩
  |cons o b n=>
   intro fp slot st k h;simp only[Ci]at h;cases a:S1 E (BX st.tmps) o with
    |none=>
     rw[a]at h;cases t with
      |true=>obtain⟨A,c,x⟩:=bP w h;obtain⟨e,i,j,B⟩:=n _ _ _ _ c;exact⟨e,i,j,fun d f=>by simp only[Ci,a];grind⟩
      |false=>
       obtain⟨A,c⟩:=Mh h;rcases c with⟨c,x⟩|⟨c,x⟩
       obtain⟨v,e,j,B,_⟩:=Ej w o.op _ _ _ _ _ _ _ r c;obtain⟨l,i,m,y⟩:=n _ _ _ _ j;exact⟨l,i,m,fun d f=>by simp only[Ci,a];grind⟩;obtain⟨l,i,m,y⟩:=n _ _ _ _ c;exact⟨l,i,m,fun d f=>by simp only[Ci,a];grind⟩
    |some q=>
     rw[a]at h;cases q with
      |inl p=>exact⟨_,_,h,fun d f=>by simp only[Ci,a]⟩
      |inr C=>
       obtain⟨s,args⟩:=C;simp only at h;rcases G3 z (q:=.inr (s,args)) a h with⟨p,e,c,_,j⟩|⟨F,u,v,e,D,_,c,_,j⟩
       exact⟨_,_,c,fun d f=>by simp only[Ci,a];grind⟩;cases D;split at c;rename_i G;obtain⟨l,i,m,y⟩:=n _ _ _ _ c;exact⟨l,i,m,fun d f=>by simp only[Ci,a];grind⟩;grind
theorem Kj{ops:Array Oper}{Q:Exit->Act->World->Prop}{i:Nat}{b:List Nat}{a:Act}{w:World}{o:Oper}(c:ops[i]? = some o)(d:o.guard=none)(h:o.wp P a w (wpOps P ops Q b) Q):wpOps P ops Q (i::b) a w:=by simp only[wpOps,c];rw[ARt (by simp[Region.wanted,d])];grind
theorem ko(hE:∀ g,BQ P g (E.spec g))(T:Fu P E){ops:Array Oper}{Q:Exit->Act->World->Prop}{e:Exit}{st':St}:∀ (b pre:List Oper) (fp:List (List Nat)) (slot:Nat) (st:St) (w:World) (F:Nat->Prop) (m:Mp) (a:Act),ops.toList=pre++b ->
  Ci P E (Exit×St) false ops.toList b fp slot st (fun e s=>some (e,s))=some (e,st')->SI w F m st a ->
  (∀ t w' y z,SI w' y z st' t->Ext w F m st.heap st.frz w' y z st'.heap st'.frz->Q e t w')->wpOps P ops Q (List.range' pre.length b.length) a w:=by
 intro b;induction b with
  |nil=>intro pre fp slot st w F m a _ h A H;simp only[Ci,ARi,ARw]at h;obtain⟨rfl,rfl⟩:=h;exact H a w F m A (Ext.refl ..)
  |cons o b U=>
   intro pre fp slot st w F m a I h A H;have d:ops[pre.length]? = some o:=by rw[<- ASa,I];simp
   have c:ops.toList=(pre++[o])++b:=by grind
   have hlen:(pre++[o]).length=pre.length+1:=by simp
   rw[ARy,ATD];simp only[Ci]at h;cases l:S1 E (BX st.tmps) o with
    |none=>
     rw[l]at h;simp only at h;simp only[wpOps,d];obtain⟨V,n,e1,e2,B⟩:=Oz A h;rcases B with⟨W,hy⟩|⟨W,hn⟩
     rw[ARt W];left;obtain⟨v,j,C,_,X⟩:=Ej hE o.op _ _ _ _ _ _ _ _ hy;refine X w F m a o _ Q rfl rfl n.heap (fun x=>Ev n.tmps x) fun u w' y z D Y => ?_;have f:=(n.go D).put Y o.dst;have:=U (pre++[o]) _ _ _ w' y z (a.put o.dst u) c C f fun t i J K L G=>H t i J K L (by have hx:=D.1;rw[e1,e2]at hx;refine hx.trans ?_;have B:=Eu (V.app j) o.dst v;rw[B.1,B.2]at G;simp only[St.app,e1,e2]at G;exact G)
     grind;rw[ARv (by simp[W])];have f:SI w F m (V.put o.dst CK) (a.put o.dst undef):=n.put Pc o.dst;have:=U (pre++[o]) _ _ _ w F m (a.put o.dst undef) c hn f fun t i J K L G=>H t i J K L (by have B:=Eu V o.dst CK;grind)
     grind
    |some q=>
     rw[l]at h;have stop:∀ p j,Lq E o slot st p j->e = .panic [C4 p]->st'=st.app j->wpOps P ops Q (pre.length::List.range' (pre.length+1) b.length) a w:=by intro p j M he N;subst he;subst N;refine Kj d M.1 (kW T M A fun w' y z D => ?_);exact H a w' y z (A.go D) D.1
     cases q with
      |inl p=>
       simp only[ARi,ARw]at h;rcases G3 T (R:=Unit) (r:=()) (slot:=slot) (k:=fun _ _=>none) (kp:=fun p' e'=>some ()) (q:=.inl p) l rfl with⟨p',j,_,O,X⟩|⟨_,_,_,_,h0,_⟩
       have h4:=X (PV×Eff) (fun _ _=>none) fun p e=>some (p,e);simp only[ARi,ARw]at h4;obtain⟨rfl,rfl⟩:=h4;exact stop p {} O h.1.symm h.2.symm;grind
      |inr sa=>
       obtain⟨s,args⟩:=sa;simp only at h;rcases G3 T (q:=.inr (s,args)) l h with⟨p,j,C,O,_⟩|⟨s',Z,v,j,h0,D,C,O,_⟩
       simp only[ARi,ARw]at C;exact stop p j O C.1.symm C.2.symm;simp only[ASF,Bool.true_or]at C;obtain⟨v',e',c1,_,c3⟩:=Ej hE o.op (AV×Eff) o.type (BX st.tmps) st.heap st.frz slot (fun v e=>some (v,e)) (v,j) (O _ _);simp only[ARi,ARw]at c1;obtain⟨rfl,rfl⟩:=c1;refine Kj d D (c3 w F m a o _ Q rfl rfl A.heap (fun x=>Ev A.tmps x) fun u w' y z S Y => ?_);have f:=(A.go S).put Y o.dst;have:=U (pre++[o]) _ _ _ w' y z (a.put o.dst u) c C f fun t i J K L G=>H t i J K L (by refine S.1.trans ?_;have B:=Eu (st.app e') o.dst v';rw[B.1,B.2]at G;exact G)
       grind
theorem AFo{o:Oper}{φ:List Nat}{st:St}{slot n:Nat}{e:Eff}(a:AFp E o φ st=true)(b:(Kw φ||N2 (writer o.op||Lr φ) φ slot n e)=true):Kw φ=true\/(Kn E st.heap (BX st.tmps) o.op φ/\N2 (writer o.op||Lr φ) φ slot n e=true):=by unfold AFp at a;simp only[ASY,ARl]at a;rw[ASY]at b;rcases a with a|a;grind;rcases b with b|b;grind;refine .inr ⟨?_,b⟩;rcases a with a|a;exact .inl a;exact .inr ⟨a.2.1.1,a.2.1.2,a.2.2⟩
theorem AGw{o:Oper}{ρ:Operand->AV}{q:PV⊕(Kg×List AV)}(h:S1 E ρ o=some q):S2 E [o]=true:=by unfold S1 at h;unfold S2;grind
theorem Zr(I:∀ g,BQ P g (E.spec g))(D:Fu P E){all:List Oper}{fp:List (List Nat)}{base:Nat}{e:Exit}{st':St}:∀ (b pre:List Oper) (d:List (List Nat)) (slot:Nat) (st:St),
  all=pre++b->d=fp.drop pre.length->slot=By all base pre.length->Ci P E (Exit×St) true all b d slot st (fun e s=>some (e,s))=some (e,st') ->
  (e = .normal/\HW P E all (fun i=>fp.getD i []) (By all base) (List.range' pre.length b.length) st st') \/
  ∃ n o p c a,all[pre.length+n]? = some o/\S2 E [o]=true/\HW P E all (fun i=>fp.getD i []) (By all base) (List.range' pre.length n) st a/\Lq E o (By all base (pre.length+n)) a p c/\e = .panic [C4 p]/\st'=Fx all (a.app c):=by
 intro b;induction b with
  |nil=>intro pre d slot st _ _ _ h;simp only[Ci,ARi,ARw]at h;exact .inl ⟨h.1.symm,h.2⟩
  |cons o b J=>
   intro pre d slot st F K w h;have j:(pre++[o]).length=pre.length+1:=by simp
   have x:d.headD []=fp.getD pre.length []:=by simp_all
   have y:d.tail=fp.drop (pre++[o]).length:=by simp_all
   have z:slot+slotsOf o.op=By all base (pre++[o]).length:=by
    rw[w,j];unfold By;have L:all.take (pre.length+1)=pre++[o]:=by grind
    have M:all.take pre.length=pre:=by grind
    rw[L,M,Ic];simp[Cu];omega
   have A:all[pre.length]? = some o:=by grind
   have go:∀ t,DC P E all o (d.headD []) slot st t->Ci P E (Exit×St) true all b d.tail (slot+slotsOf o.op) t (fun e s=>some (e,s))=some (e,st') ->
     (e = .normal/\HW P E all (fun i=>fp.getD i []) (By all base) (List.range' pre.length (o::b).length) st st') \/
     ∃ n o p c a,all[pre.length+n]? = some o/\S2 E [o]=true/\HW P E all (fun i=>fp.getD i []) (By all base) (List.range' pre.length n) st a/\Lq E o (By all base (pre.length+n)) a p c/\e = .panic [C4 p]/\st'=Fx all (a.app c):=by
    intro t f l
    rw[x,w]at f
    rcases J (pre++[o]) _ _ t (by grind) y z l with⟨N,u⟩|⟨n,O,p,c,a,Q,S,G,T,U⟩
    ·rw[j]at u
     exact .inl ⟨N,by rw[ARy,ATD];exact⟨o,t,A,f,u⟩⟩
    ·rw[j]at Q G T
     refine .inr ⟨n+1,O,p,c,a,by grind,S,by rw[ATD];exact⟨o,t,A,f,G⟩,by grind,U⟩
   simp only[Ci]at h;cases m:S1 E (BX st.tmps) o with
    |none=>rw[m]at h;simp only at h;obtain⟨t,f,l⟩:=XF I h;exact go t f l
    |some q=>
     rw[m]at h
     have stop:∀ p c,Lq E o slot st p c->e = .panic [C4 p]->st'=Fx all (st.app c)->∃ n o p c a,all[pre.length+n]? = some o/\S2 E [o]=true/\HW P E all (fun i=>fp.getD i []) (By all base) (List.range' pre.length n) st a/\Lq E o (By all base (pre.length+n)) a p c/\e = .panic [C4 p]/\st'=Fx all (a.app c):=
      fun p c f l B=>⟨0,o,p,c,st,A,AGw m,rfl,by grind,l,B⟩
     cases q with
      |inl p=>
       simp only[ARi,ARw]at h;rcases G3 D (R:=Unit) (r:=()) (slot:=slot) (k:=fun _ _=>none) (kp:=fun V Z=>some ()) (q:=.inl p) m rfl with⟨V,c,_,l,B⟩|⟨_,_,_,_,W,_⟩
       have H:=B (PV×Eff) (fun _ _=>none) fun p e=>some (p,e);simp only[ARi,ARw]at H;obtain⟨rfl,rfl⟩:=H;exact .inr (stop p {} l h.1.symm h.2.symm);grind
      |inr X=>
       obtain⟨s,args⟩:=X;simp only at h;rcases G3 D (q:=.inr (s,args)) m h with⟨p,c,f,l,_⟩|⟨s',C,v,c,W,Y,f,l,_⟩
       simp only[ARi,ARw]at f;exact .inr (stop p c l f.1.symm f.2.symm);split at f;rename_i u;simp only[ARp,ATs,ARl]at u;exact go _ (.inl ⟨by rw[Y];rfl,v,c,AFo u.1 u.2,l,rfl⟩) f;grind
theorem ADC{all:List Oper}{fp:Nat->List Nat}{d:Nat->Nat}:∀ (l b:List Nat) (st a c:St),HW P E all fp d l st a->HW P E all fp d b a c->HW P E all fp d (l++b) st c:=by
 intro l;induction l with
  |nil=>intro b st a c h k;have h:st=a:=h;grind
  |cons i l e=>intro b st a c ⟨o,s,f,g,j⟩ k;exact⟨o,s,f,g,e b s a c j k⟩
theorem kT{all:List Oper}{fp:Nat->List Nat}{m:Nat->Nat}{y:Oper}:∀ (l:List Nat) (st a:St),(∀ j∈l,∀ x,all[j]? = some x->DW x.op=true/\apart? all x y=true)->HW P E all fp m l st a ->
  a.heap=st.heap/\a.frz=st.frz/\(∀ z∈y.op.operands,BX a.tmps z=BX st.tmps z)/\∀ b,Fx all (a.app b)=Fx all (st.app b):=by
 intro l;induction l with
  |nil=>intro st a _ h;have h:st=a:=h;grind
  |cons j l n=>
   intro st a f ⟨x,s,g,o,p⟩;obtain⟨q,c⟩:=f j (by simp) x g;obtain⟨r,t,u,w⟩:=n s a (fun i hi=>f i (by simp[hi])) p;have d:∃ v,s=st.put x.dst v:=by
    rcases o with⟨_,v,e,_,A,rfl⟩|⟨_,rfl⟩
    have:=Mq q _ _ _ _ _ A;subst this;exact⟨v,rfl⟩;grind
   obtain⟨v,rfl⟩:=d;refine⟨r.trans (Eu ..).1,t.trans (Eu ..).2,fun z k=>(u z k).trans (Cb c st v z k),fun b=>(w b).trans ?_⟩;rw[St.Hl];exact cJ all _ x v (ARu g)
theorem Lq.congr{y:Oper}{slot:Nat}{st a:St}{p:PV}{c:Eff}(h:Lq E y slot a p c)(m:a.heap=st.heap)(n:a.frz=st.frz)(d:∀ z∈y.op.operands,BX a.tmps z=BX st.tmps z):Lq E y slot st p c:=by obtain⟨e,⟨x,b,g,i⟩|⟨f,args,j,s,b,l,o⟩⟩:=h;exact⟨e,.inl ⟨x,b,by rw[<- d x (by rw[b];simp[Op.operands])];exact g,i⟩⟩;refine⟨e,.inr ⟨f,args,j,s,b,l,fun R k kp => ?_⟩⟩;have:args.toList.map (BX st.tmps)=args.toList.map (BX a.tmps):=K7 fun x g=>(d x (by rw[b];simp[Op.operands,Call.operands];grind)).symm;grind
theorem nw(hE:∀ g,BQ P g (E.spec g))(hL:EX E)(hP:Fu P E){ops:Array Oper}{fp:Nat->List Nat}{base:Nat}{Q:Exit->Act->World->Prop}{st':St}{p:Nat}{y:Oper}{pv:PV}{V:Eff}(hy:ops.toList[p]? = some y)
  (K:∀ i y,ops.toList[i]? = some y->(∀ e∈y.after.toList,Region.binds .any e=true->e.on<i) /\
   ∀ j x,j<i->ops.toList[j]? = some x->reach ops.toList 8 y j=true\/indep ops.toList x y (fp j) (fp i) (By ops.toList base j) (By ops.toList base i)=true)
  (hpre:∀ j x,j<p->ops.toList[j]? = some x->reach ops.toList 8 y j=true\/DW x.op=true)
  (L:∀ j x,p<j->ops.toList[j]? = some x->reach ops.toList 8 x p=true\/(x.guard=none/\∃ z,x.op = .move z)) :
  ∀ (f:Nat) (b:Array Bool) (st c:St) (w:World) (F:Nat->Prop) (m:Mp) (a:Act),b.size=ops.size->Se ops.toList (fun i=>b.getD i false)->(BJ ops.size b).length<=f->p∈BJ ops.size b->SI w F m st a ->
   HW P E ops.toList fp (By ops.toList base) ((BJ ops.size b).filter fun j=>decide (j<p)) st c->Lq E y (By ops.toList base p) c pv V->st'=Fx ops.toList (c.app V) ->
   (∀ A w' G H,SI w' G H st' A->Ext w F m st.heap st.frz w' G H st'.heap st'.frz->Q (.panic [C4 pv]) A w')->wpAny P .any ops Q f b a w:=by
 intro f;have n:∀ (b:Array Bool) (i:Nat),i∈Region.ready .any ops b↔i∈BJ ops.size b/\((ops[i]?).map (·.after.all fun e => !Region.binds .any e||b.getD e.on false)).getD false=true:=by intro b i;unfold Region.ready BJ;grind
 induction f with
  |zero=>grind
  |succ f ih=>
   intro b st c w F m a hsz W hl hp hs hc M o hq;have unl:∀ {j:Nat},j∈BJ ops.size b->b.getD j false=false:=by intro j t;unfold BJ at t;grind
   refine⟨fun hnil => ?_,fun i hi => ?_⟩;exfalso;cases hu:BJ ops.size b with
    |nil=>grind
    |cons i l=>
     have q:i∈BJ ops.size b:=by grind
     have N:i<ops.size:=by unfold BJ at q;grind
     have:i∈Region.ready .any ops b:=by
      refine(n b i).2 ⟨q,?_⟩;rw[ASv N];simp only[AS6,ASM];rw[<- AUH,AR1];intro e he;cases hb:Region.binds .any e with
       |false=>rfl
       |true=>
        have hlt:=(K i ops[i] (by simp)).1 e he hb;simp only[ARp,ATs];cases hg:b.getD e.on false with
         |true=>rfl
         |false=>
          exfalso;have hon:e.on<ops.size:=by omega
          have:e.on∈BJ ops.size b:=by unfold BJ;grind
          rw[hu]at this;have hpw:(BJ ops.size b).Pairwise (· < ·):=ATr _ AUE
          rw[hu,ASc]at hpw;grind
     grind
   obtain⟨q,O⟩:=(n b i).1 hi;have N:i<ops.size:=by grind
   obtain⟨l1,l2,r⟩:=AT3 q;have B:ops[i]? = some ops[i]:=ASv N;have d:ops.toList[i]? = some ops[i]:=by simp
   rw[B]at O;simp only[AS6,ASM]at O;rw[<- AUH,AR1]at O;have X:∀ e∈(ops[i]).after.toList,Region.binds .any e=true->(fun i=>b.getD i false) e.on=true:=by grind
   have Y:∀ j,j∈BJ ops.size b->reach ops.toList 8 ops[i] j=true->False:=by intro j t h;have h1:=Po W 8 _ j X h;grind
   have hnext:=PM hsz l1 l2 r;have I:(BJ ops.size (b.setIfInBounds i true)).length<=f:=by grind
   have J:Se ops.toList (fun k=>(b.setIfInBounds i true).getD k false):=by
    have Z:∀ k,(b.setIfInBounds i true).getD k false=true↔(k=i\/b.getD k false=true):=by
     intro k;have hil:i<b.size:=by omega
     rw[ASA,ASA,Array.getElem?_setIfInBounds];by_cases hki:i=k;grind;grind
    intro k z U hk e he hb;simp only[Z]at hk |-;right;rcases hk with rfl|hk;grind;exact W k z U hk e he hb
   have C:∀ j∈(BJ ops.size b).filter (fun j=>decide (j<p)),j∈BJ ops.size b/\j<p:=by simp
   rcases Nat.lt_trichotomy i p with u|u|u;-- one ahead of it
   have hub:(BJ ops.size b).filter (fun j=>decide (j<p))=l1.filter (fun j=>decide (j<p))++i::l2.filter (fun j=>decide (j<p)):=by grind
   rw[hub]at hc;obtain⟨z,s1,U,h1,h2⟩:=M3 hL d _ _ st c (fun j t=>by have hj1:j∈l1:=(AS8.1 t).1;have hji:=Lg r j hj1;grind) hc
   rw[d]at U;cases U;have S:p∈BJ ops.size (b.setIfInBounds i true):=by grind
   exact dz hE B h1 hs fun A w' G H T hx=>ih _ s1 c w' G H A (by grind) J I S T (by grind) M o fun A w2 F2 m2 q1 q2=>hq A w2 F2 m2 q1 (hx.trans q2);-- it
   subst u;rw[d]at hy;cases hy;obtain⟨k1,k2,k3,k4⟩:=kT (y:=ops[i]) _ st c (fun j t x hx=>by obtain⟨hj1,hj2⟩:=C j t;refine⟨?_,?_⟩;grind;rcases(K i _ d).2 j x hj2 hx with h|h;grind;exact(MV h).1) hc
   have s:=M.congr k1 k2 k3;unfold wpOp;rw[B];simp only;rw[ARt (by simp[Region.wanted,s.1])];left;refine kW hP s hs fun w' G H hg => ?_;have t:=sq ops.toList (st.app V);rw[k4]at o;subst o;refine hq a w' G H ((hs.go hg).Fx _) ?_;rw[t.1,t.2];exact hg.1;-- a move that stands behind it
   obtain⟨hg0,z,D⟩:ops[i].guard=none/\∃ z,ops[i].op = .move z:=by rcases L i _ u d with h|h;grind;omega
   have hev:∃ v,∀ (R:Type) (k:AV->Eff->Option R),evalOp P E R ops[i].op ops[i].type (BX c.tmps) c.heap c.frz (By ops.toList base i) k=k v {}:=by rw[D];simp only[evalOp];split;exact⟨_,fun _ _=>rfl⟩;exact⟨_,fun _ _=>rfl⟩
   obtain⟨v,hv⟩:=hev;have hs1:DC P E ops.toList ops[i] (fp i) (By ops.toList base i) c (c.put ops[i].dst v):=by refine .inl ⟨by rw[hg0];rfl,v,{},.inr ⟨.inr ⟨?_,?_,?_⟩,?_⟩,hv,rfl⟩;rw[D];rfl;rw[D];rfl;rw[D];rfl;simp[N2,within]
   have hc2:=ADC _ [i] st c (c.put ops[i].dst v) hc ⟨ops[i],_,d,hs1,rfl⟩;obtain⟨z',s1,hz',h1,h2⟩:=M3 hL d _ [] st _ (fun j t=>by grind) hc2
   rw[d]at hz';cases hz';rw[ASu]at h2;have hub:(BJ ops.size (b.setIfInBounds i true)).filter (fun j=>decide (j<p))=(BJ ops.size b).filter (fun j=>decide (j<p)):=by grind
   have S:p∈BJ ops.size (b.setIfInBounds i true):=by grind
   have hap:apart? ops.toList ops[i] y=true:=by rcases(K i _ d).2 p y u hy with h|h;grind;exact I5 (MV h).1
   have s:Lq E y (By ops.toList base p) (c.put ops[i].dst v) pv V:=M.congr (Eu ..).1.symm (Eu ..).2.symm fun z U=>(Cb hap c v z U).symm;have t:st'=Fx ops.toList ((c.put ops[i].dst v).app V):=by rw[o,St.Hl,cJ _ _ _ _ (ARu d)]
   exact dz hE B h1 hs fun A w' G H T hx=>ih _ s1 _ w' G H A (by grind) J I S T (by grind) s t fun A w2 F2 m2 q1 q2=>hq A w2 F2 m2 q1 (hx.trans q2)
theorem l6{all:List Oper}{i:Nat}{o:Oper}(h:wR E all i o=true)(b:S2 E [o]=true):(∀ j x,j<i->all[j]? = some x->reach all 8 o j=true\/DW x.op=true) /\
  ∀ j x,i<j->all[j]? = some x->reach all 8 x i=true\/(x.guard=none/\∃ z,x.op = .move z):=by
 unfold wR at h;rw[b]at h;simp only[AR1,ASW]at h;refine⟨fun j x c a => ?_,fun j x c a => ?_⟩;grind;have:=h j (ASU.1 a).1;rw[a]at this;have d:¬ j<i:=by omega
 have e:¬ j=i:=by omega
 simp only[d,e,AR8,ATs,ASY,ARl,Option.isNone_iff_eq_none]at this;grind
theorem Zp(u:∀ g,BQ P g (E.spec g))(U:EX E)(G:Fu P E){R:Type}{r:R}{id:Nat}{fp:List (List Nat)}{H:Bool}{ops:Array Oper}{st:St}{k:Exit->St->Option R}(h:IZ P E R fp H ops.toList st k=some r):
  ∃ e st',k e st'=some r/\(∀ (I:Type) (J:Exit->St->Option I),IZ P E I fp H ops.toList st J=J e st') /\
   ∀ (w:World) (F:Nat->Prop) (m:Mp) (a:Act) (Q:Exit->Act->World->Prop),SI w F m st a->(∀ l w' q t,SI w' q t st' l->Ext w F m st.heap st.frz w' q t st'.heap st'.frz->Q e l w')->(Code.region id ops H).wp P Q a w:=by
 unfold IZ at h;rw[MM]at h;split at h
 ·rename_i c;obtain⟨e,st',K,V⟩:=kq u G _ _ _ _ _ h;refine⟨e,st',K,fun I J=>by unfold IZ;rw[MM,c];grind,fun w F m a Q W L => ?_⟩;have X:=V (Exit×St) fun e s=>some (e,s);cases H with
   |false=>obtain⟨d,f⟩:=W.pad (Cu ops.toList);have:=ko u G ops.toList [] _ _ _ w F m a (by simp) X d fun l w' q t v A=>L l w' q t v (f.trans A);rw[ASD,ARz,<- ATW]at this;exact wp_region this
   |true=>
    simp only[ARp,ATs,ARl]at c;obtain⟨hm,c,Y⟩:=c;obtain⟨M,B⟩:=W.drew;obtain⟨d,f⟩:=M.pad (Cu ops.toList);have C:ops.toList=[]++ops.toList:=by simp
    refine wp_region_any hm ?_;have hu:BJ ops.size (Array.replicate ops.size false)=List.range' 0 ops.toList.length:=by
     unfold BJ;rw[ARz,<- ATW];rw[ATe];intro i hi;have:i<ops.size:=by grind
     simp[ASA,this]
    have D:Se ops.toList (fun i=>(Array.replicate ops.size false).getD i false):=fun k z _ N=>by exfalso;have N:(Array.replicate ops.size false).getD k false=true:=N;rw[ASA,Array.getElem?_replicate]at N;grind
    have b:=fun i y hy=>Pv (all:=ops.toList) (fp:=fp) (base:=st.heap.length) ops.toList [] fp _ [] C rfl (by simp[By,Cu]) (fun j x hj=>by grind) c i y (ATX _) hy;rcases Zr u G (all:=ops.toList) (fp:=fp) (base:=st.heap.length) ops.toList [] fp st.heap.length _ C rfl (by simp[By,Cu]) X with⟨rfl,hc⟩|⟨n,o,p,ef,O,S,g2,g3,Z,rfl,g6⟩
    exact c8 (ops:=ops) u U (fp:=fun i=>fp.getD i []) (base:=st.heap.length) (st':=st') b ops.size _ _ w.drew F m a (by simp) D (by grind) d (by grind) fun l w' q t v A=>L l w' q t v (B.trans (f.trans A))
    ·simp only[ASD,ASP]at S g3 Z;have hn:n<ops.toList.length:=(ASU.1 S).1;have T:wR E ops.toList n o=true:=by grind
     obtain⟨o1,o2⟩:=l6 T g2;refine nw u U G (ops:=ops) (fp:=fun i=>fp.getD i []) (base:=st.heap.length) S b o1 o2 ops.size _ _ O w.drew F m a (by simp) D (by grind) ?_ d ?_ Z g6 fun l w' q t v A=>L l w' q t v (B.trans (f.trans A));grind
     ·have:(List.range' 0 ops.toList.length).filter (fun j=>decide (j<n))=List.range' 0 n:=by
       have K:List.range' 0 ops.toList.length=List.range' 0 n++List.range' n (ops.toList.length-n):=by have V:=List.range'_append_1 (s:=0) (m:=n) (n:=ops.toList.length-n);grind
       rw[K,ATh,ATe.2,List.filter_eq_nil_iff.2,ASu];all_goals grind
      grind
 grind
end
section
variable [DfI] {P:Program} {E:Env} {h:Hints}
theorem Xo(j:∀ g,BQ P g (E.spec g)){R:Type}{r:R}{all:List Oper}:∀ (ops:List Oper) (slot:Nat) (st:St) (k:St->Option R),FV P E R all ops slot st k=some r ->
  ∃ st',k st'=some r/\∀ (c:Type) (d:St->Option c),FV P E c all ops slot st d=d st':=by
 intro ops;induction ops with
  |nil=>intro slot st k h;exact⟨st,h,fun _ _=>rfl⟩
  |cons o ops i=>
   intro slot st k h;simp only[FV]at h;obtain⟨l,b⟩:=Mh h;rcases b with⟨b,m⟩|⟨b,m⟩
   obtain⟨v,e,n,q,_⟩:=Ej j o.op _ _ _ _ _ _ _ r b;obtain⟨a,f,p⟩:=i _ _ _ n;exact⟨a,f,fun c d=>by simp only[FV];grind⟩;obtain⟨a,f,p⟩:=i _ _ _ b;exact⟨a,f,fun c d=>by simp only[FV];grind⟩
theorem kr(d:∀ g,BQ P g (E.spec g)){R:Type}{r:R}{all:List Oper}:∀ (ops:List Oper) (fp:List (List Nat)) (slot:Nat) (st:St) (k:St->Option R),JK P E R all ops fp slot st k=some r ->
  ∃ st',k st'=some r/\∀ (a:Type) (b:St->Option a),JK P E a all ops fp slot st b=b st':=by
 intro ops;induction ops with
  |nil=>intro fp slot st k h;exact⟨st,h,fun _ _=>rfl⟩
  |cons o ops e=>intro fp slot st k h;simp only[JK]at h;obtain⟨f,i,l⟩:=bP d h;obtain⟨c,j,m⟩:=e _ _ _ _ i;exact⟨c,j,fun a b=>by simp only[JK];grind⟩
def ARN(P:Program)(np:Nat)(c:Code)(st:St)(e:Exit)(st':St):Prop:=
 ∀ (w:World) (F:Nat->Prop) (m:Mp) (a:Act) (Q:Exit->Act->World->Prop),SI w F m st a ->
  (∀ b w' d f,SI w' d f st' b->HT np w F m st.heap st.frz w' d f st'.heap st'.frz->Q e b w')->c.wp P Q a w
def I7(P:Program)(np:Nat)(c:Code)(go:(R:Type)->St->(Exit->St->Option R)->Option R):Prop:=
 ∀ (R:Type) (st:St) (k:Exit->St->Option R) (r:R),go R st k=some r->∃ e st',k e st'=some r/\(∀ (a:Type) (b:Exit->St->Option a),go a st b=b e st')/\ARN P np c st e st'
def Bu(P:Program)(np:Nat)(h:Hints):Code->Nat->Prop
 |.seq a b,n=>Bu P np h a n/\Bu P np h b (n+loops a)
 |.cond _ a b,n=>Bu P np h a n/\Bu P np h b (n+loops a)
 |.block _ c,n=>Bu P np h c n
 |.scope c,n=>Bu P np h c n
 |.loop c,n=>I7 P np (.loop c) (h.loop n)
 |_,_=>True
theorem xU{w:World}{F:Nat->Prop}{m:Mp}{st:St}{a:Act}(e:SI w F m st a){c:Operand}{x:Bool}(j:BX st.tmps c = .data .bool x):
  a.eval c = .bool x/\SI w F m { st with tmps:=OK st.tmps c x } a:=by
 have i:Rep w F m st.heap (BX st.tmps c) (a.eval c):=Ev e.tmps c;rw[j]at i;refine⟨?_,?_⟩;unfold Rep CX at i;simp only[Ty.isAgg,AR0,AR3]at i;simpa [Dat]using i;cases c with
  |tmp t=>exact e.lit (d:=t) (b:=x) j
  |const v=>exact e
  |func f=>exact e
  |global g=>exact e
theorem C'(L:∀ g,BQ P g (E.spec g))(hL:EX E)(hP:Fu P E){np:Nat}:∀ (c:Code) (n:Nat),Bu P np h c n->I7 P np c (fun R=>BZ P E h R c n):=by
 intro c;induction c with
  |skip=>intro n _ R st k r f;simp only[BZ]at f;exact⟨_,_,f,fun _ _=>rfl,fun w F m a Q s d=>wp_skip (d a w F m s (HT.refl ..))⟩
  |region id ops M=>
   intro n _ R st k r f;have hk0:=f;simp only[BZ]at f;split at f;rename_i y;obtain⟨e,st',q,u,v⟩:=Zp L hL hP (id:=id) f;exact⟨e,st',q,fun j o=>by simp only[BZ,y];grind,fun w F m a Q s d=>v w F m a Q s fun p w' z A N O=>d p w' z A N (O.toN np)⟩;rename_i y;cases M with
    |false=>
     simp only[GF,MM]at f;obtain⟨st',q,u⟩:=Xo L _ _ _ _ f;refine⟨.normal,st',q,fun j o=>by simp only[BZ,y,GF,MM];grind,fun w F m a Q s d => ?_⟩;have v:GF P E St ops.toList st some=some st':=by simp only[GF,MM];grind
     refine fD L v s fun p w' hp => ?_;obtain⟨i,z,A,e1,S,e3⟩:=hp;cases e1;exact d p w' z A S (e3.toN np)
    |true=>
     simp only at f;have hk':=f;unfold E5 at f;rw[MM]at f;split at f;rename_i T;obtain⟨st',q,u⟩:=kr L _ _ _ _ _ f;refine⟨.normal,st',q,fun j o=>by simp only[BZ,y,E5,MM,T];grind,fun w F m a Q s d => ?_⟩;have v:E5 P E St (h.fp id) ops.toList st some=some st':=by simp only[E5,MM,T];grind
     refine Zq L hL v s fun p w' hp => ?_;obtain⟨i,z,A,e1,S,e3⟩:=hp;cases e1;exact d p w' z A S (e3.toN np);grind
  |seq a b D G=>
   intro n B R st k r f;simp only[BZ]at f;obtain⟨e,i,q,C,v⟩:=D n B.1 R st _ r f;have u:∀ (j:Type) (o:Exit->St->Option j),BZ P E h j a n st o=o e i:=C;by_cases he:e = .normal;subst he;simp only at q;obtain⟨S,st2,U,Y,V⟩:=G _ B.2 R i _ r q;refine⟨S,st2,U,fun j o => ?_,fun w F m t Q s d=>wp_seq ?_⟩;simp only[BZ];grind;refine v w F m t _ s fun p w' z A H I => ?_;exact V w' z A p Q H fun a2 w2 F2 m2 s2 x2=>d a2 w2 F2 m2 s2 (I.trans x2);have h1':k e i=some r:=by grind
   refine⟨e,i,h1',fun j o => ?_,fun w F m t Q s d=>wp_seq ?_⟩;simp only[BZ];grind;refine v w F m t _ s fun p w' z A H I => ?_;have:=d p w' z A H I;cases e<;>first|grind|exact this
  |cond c a b D G=>
   intro n B R st k r f;simp only[BZ]at f;split at f;rename_i x Z;cases x with
    |true=>obtain⟨e,i,q,u,v⟩:=D _ B.1 R _ _ r f;refine⟨e,i,q,fun j o=>by simp only[BZ,Z];grind,fun w F m t Q s d => ?_⟩;obtain⟨N,O⟩:=xU s Z;exact wp_cond_true N (v w F m t Q O d)
    |false=>obtain⟨e,i,q,u,v⟩:=G _ B.2 R _ _ r f;refine⟨e,i,q,fun j o=>by simp only[BZ,Z];grind,fun w F m t Q s d => ?_⟩;obtain⟨N,O⟩:=xU s Z;exact wp_cond_false N (v w F m t Q O d)
   grind
  |block id c ih=>
   intro n B R st k r f;simp only[BZ]at f;obtain⟨e,i,q,C,v⟩:=ih n B R st _ r f;have u:∀ (j:Type) (o:Exit->St->Option j),BZ P E h j c n st o=o e i:=C;have J:∃ W,k W i=some r/\(∀ (j:Type) (o:Exit->St->Option j),BZ P E h j (.block id c) n st o=o W i)/\∀ (Q:Exit->Act->World->Prop) p w',Q W p w'->Exit.inBlock id Q e p w':=by
    cases e with
     |exit X=>simp only at q;by_cases K:X=id;subst K;simp only[ARx]at q;exact⟨.normal,q,fun j o=>by simp only[BZ];grind,fun Q p w' d=>by simp[Exit.inBlock,d]⟩;simp only[K,AR8]at q;exact⟨.exit X,q,fun j o=>by simp only[BZ];grind,fun Q p w' d=>by simp[Exit.inBlock,K,d]⟩
     |normal=>exact⟨_,q,fun j o=>by simp only[BZ];rw[u],fun Q p w' d=>d⟩
     |goto l=>exact⟨_,q,fun j o=>by simp only[BZ];rw[u],fun Q p w' d=>d⟩
     |ret=>exact⟨_,q,fun j o=>by simp only[BZ];rw[u],fun Q p w' d=>d⟩
     |panic l=>exact⟨_,q,fun j o=>by simp only[BZ];rw[u],fun Q p w' d=>d⟩
     |outgrown=>exact⟨_,q,fun j o=>by simp only[BZ];rw[u],fun Q p w' d=>d⟩
   obtain⟨W,U,Y,V⟩:=J;exact⟨W,i,U,Y,fun w F m t Q s d=>wp_block (v w F m t _ s fun p w' z A H I=>V Q p w' (d p w' z A H I))⟩
  |scope c ih=>
   intro n B R st k r f;simp only[BZ]at f;obtain⟨e,i,q,C,v⟩:=ih n B R st _ r f;have u:∀ (j:Type) (o:Exit->St->Option j),BZ P E h j c n st o=o e i:=C;have ng:∀ l,e≠.goto l:=by rintro l rfl;cases q
   have J:k e i=some r/\(∀ (j:Type) (o:Exit->St->Option j),BZ P E h j (.scope c) n st o=o e i)/\∀ (Q:Exit->Act->World->Prop) p w',Q e p w'->Exit.noGoto Q e p w':=by
    cases e with
     |goto l=>exact absurd rfl (ng l)
     |normal=>exact⟨q,fun j o=>by simp only[BZ];rw[u],fun Q p w' d=>d⟩
     |exit l=>exact⟨q,fun j o=>by simp only[BZ];rw[u],fun Q p w' d=>d⟩
     |ret=>exact⟨q,fun j o=>by simp only[BZ];rw[u],fun Q p w' d=>d⟩
     |panic l=>exact⟨q,fun j o=>by simp only[BZ];rw[u],fun Q p w' d=>d⟩
     |outgrown=>exact⟨q,fun j o=>by simp only[BZ];rw[u],fun Q p w' d=>d⟩
   obtain⟨U,Y,V⟩:=J;exact⟨e,i,U,Y,fun w F m t Q s d=>wp_scope_straight (v w F m t _ s fun p w' z A H I=>V Q p w' (d p w' z A H I))⟩
  |label l=>intro n _ R st k r f;simp only[BZ]at f;exact⟨_,_,f,fun _ _=>rfl,fun w F m a Q s d=>wp_label (d a w F m s (HT.refl ..))⟩
  |loop c ih=>intro n B R st k r f;exact B R st k r f
  |exit id=>intro n _ R st k r f;simp only[BZ]at f;exact⟨_,_,f,fun _ _=>rfl,fun w F m a Q s d=>wp_exit (d a w F m s (HT.refl ..))⟩
  |ret=>intro n _ R st k r f;simp only[BZ]at f;exact⟨_,_,f,fun _ _=>rfl,fun w F m a Q s d=>wp_ret (d a w F m s (HT.refl ..))⟩
  |_=>intro n _ R st k r f;simp[BZ]at f
theorem cV{R:Type}{r:R}{c:Nat}{k:Exit->St->Option R}:∀ (os:BB) (x:ZH os),YT c k os x=some r->∃ e st',k e st'=some r/\∀ (b:Type) (a:Exit->St->Option b),YT c a os x=a e st':=by
 intro os;induction os with
  |nil=>intro x h;simp[YT]at h
  |cons o os f=>
   intro x h;cases x with
    |inl d=>exact⟨_,_,h,fun _ _=>rfl⟩
    |inr x=>obtain⟨e,st',g,i⟩:=f x h;exact⟨e,st',g,fun b a=>i b a⟩
theorem kE{e a:Exit}(h:XV e a=true):e=a:=by cases e<;>cases a<;>simp_all [XV]
theorem lz{np c:Nat}{e:Exit}{st:St}:∀ (os:BB) (x:ZH os),S3 np c e st os=some x->∃ a d,decode np c st a=some d/\∀ (f:Type) (b:Exit->St->Option f),YT c b os x=b e (encode c a d):=by
 intro os;induction os with
  |nil=>intro x h;simp[S3]at h
  |cons o os g=>intro x h;simp only[S3]at h;split at h;rename_i i;split at h;rename_i d hd;simp only[ARi]at h;subst h;exact⟨o.2,d,hd,fun f b=>by rw[kE i];rfl⟩;grind;split at h;rename_i y j;simp only[ARi]at h;subst h;obtain⟨a,d,k,l⟩:=g y j;exact⟨a,d,k,fun f b=>l f b⟩;grind
theorem ABQ{C:Hints}(hE:∀ g,BQ P g (E.spec g))(hL:EX E)(hP:Fu P E){np i n:Nat}{b:Code}{f:A1}{os:BB}{stp:BV (leaves f)->Option (BV (leaves f)⊕ZH os)}
  (j:∀ v,stp v=roundOf P E C n np i b f os v) (hl:Bu P np C b n):I7 P np (.loop b) (K9 np i f os stp):=by
 intro R st k r o;unfold K9 at o;split at o;cases o;rename_i v V;split at o;cases o;rename_i x W;obtain⟨e,st',h1,h2⟩:=cV os x o;refine⟨e,st',h1,fun R' k'=>by simp only[K9,V,W];grind,?_⟩
 have D:∀ (c:Nat) (v:BV (leaves f)),BC stp c v=some x->∀ (w:World) (F:Nat->Prop) (m:Mp) (a:Act) (Q:Exit->Act->World->Prop),SI w F m (encode i f v) a ->
   (∀ p w' G H,SI w' G H st' p->HT np w F m (encode i f v).heap (encode i f v).frz w' G H st'.heap st'.frz->Q e p w')->Code.rounds P b Q c a w:=by
  intro c
  induction c with
  |zero=>intro v h;simp[BC]at h
  |succ c ih=>
   intro v h w F m a Q I B
   simp only[BC]at h
   rw[j v]at h
   cases J:roundOf P E C n np i b f os v with
   |none=>grind
   |some y=>
    rw[J]at h
    unfold roundOf at J
    obtain⟨K,L,q,_,g3⟩:=C' hE hL hP b n hl _ _ _ _ J
    show b.wp P (Exit.then (Code.rounds P b Q c) Q) a w
    refine g3 w F m a _ I fun p w' G H X Y => ?_
    by_cases he:K = .normal
    ·subst he
     simp only[kL]at q
     split at q
     ·rename_i d hd
      simp only[ARi]at q;subst q
      obtain⟨s,t,u,A⟩:=GV X hd
      show Code.rounds P b Q c p w'
      exact ih d h w' s t p Q u fun M N O S T U=>B M N O S T (Y.trans (A.trans U))
     grind
    ·have l:(match S3 np i K L os with
      |some x=>some (Sum.inr x)
      |none=>none)=some y:=by
      cases K<;>first|grind|exact q
     split at l
     ·rename_i z hz
      simp only[ARi]at l;subst l
      simp only[ARi]at h;subst h
      obtain⟨Z,d,o1,o2⟩:=lz os _ hz
      obtain⟨s,t,u,A⟩:=GV X o1
      have e3:=(h2 (Exit×St) fun e st=>some (e,st)).symm.trans (o2 (Exit×St) fun e st=>some (e,st))
      simp only[ARi,ARw]at e3
      obtain⟨rfl,rfl⟩:=e3
      have:=B p w' s t u (Y.trans A)
      cases e<;>first|grind|exact this
     grind
 intro w F m a Q I B;obtain⟨s,t,u,A⟩:=GV I V;exact wp_loop_rounds many (D many v (by rw[<- Bj];exact W) w s t a Q u fun M N O S T U=>B M N O S T (A.trans U))
end
section
variable {w:World} {F F0:Nat->Prop} {m m2:Mp} {H H2:List Ob} {ids:List Nat}
theorem Dat.flat:∀ (t:Ty),t.flat=true->∀ {d:t.den} {cs:List Value} {c:World},Dat w F t d cs->Dat c F0 t d cs:=by
 intro t;induction t with
  |unit=>exact fun _ _ _ _ h=>h
  |bool=>exact fun _ _ _ _ h=>h
  |int k=>exact fun _ _ _ _ h=>h
  |slice e _=>intro h;simp[Ty.flat]at h
  |mapi j e _=>intro h;simp[Ty.flat]at h
  |nul e=>exact fun _ _ _ _ h=>h
  |prod a b f g=>intro h d cs c hd;simp only[Ty.flat,ARl]at h;obtain⟨o,c2,i,l,p⟩:=hd;exact⟨o,c2,i,f h.1 l,g h.2 p⟩
  |arr n e q=>intro h d cs c hd;obtain⟨i,l⟩:=hd;exact⟨i,B6 (fun x _ cs r=>q (by simpa [Ty.flat]using h) r) l⟩
theorem CX.flat{t:Ty}(b:t.flat=true){d:t.den}{v:Value}{c:World}(h:CX w F t d v):CX c F0 t d v:=by unfold CX at *;split;rename_i a;simp only[a,ASR]at h;obtain⟨vs,e,hd⟩:=h;exact⟨vs,e,hd.flat t b⟩;rename_i a;simp only[a]at h;exact Dat.flat t b h
theorem ACL{k v:Ty}(d:k.flat=true)(f:v.flat=true){g:World}:∀ {a:List (k.den×v.den)} {b:List MapEntry},I' w F k v a b->I' g F0 k v a b:=by
 intro a;induction a with
  |nil=>exact fun h=>h
  |cons e a i=>rintro b ⟨j,c,l,⟨n,o⟩,p⟩;exact⟨j,c,l,⟨n.flat d,o.flat f⟩,i p⟩
mutual
theorem Rep.flat:∀ (a:AV) {v:Value},Jt a=true->Rep w F m H a v->Rep w F0 m H a v
 |.Cv,_,_,_=>by unfold Rep;trivial
 |.data t d,v,hf,h=>by unfold Rep at *;exact h.flat (by simpa [Jt]using hf)
 |.nils _,v,_,h=>by unfold Rep at *;exact h
 |.agg cs,v,hf,h=>by unfold Rep at *;obtain⟨vs,e,h,b⟩:=h;exact⟨vs,e,BA.flat cs (by simpa [Jt]using hf) h,b⟩
 |.own id,v,_,h=>by unfold Rep at *;exact h
 |.win id off n,v,_,h=>by unfold Rep at *;exact h
 |.ptr id off,v,_,h=>by unfold Rep at *;exact h
 |.eptr id i sub,v,_,h=>by unfold Rep at *;exact h
 |.dptr cs,v,hf,h=>by simp[Jt]at hf
 |.clo f caps,v,hf,h=>by unfold Rep at *;obtain⟨cs,e,h⟩:=h;exact⟨cs,e,BA.flat caps (by simpa [Jt]using hf) h⟩
 |.bnd f caps,v,hf,h=>by unfold Rep at *;obtain⟨cs,e,h⟩:=h;exact⟨cs,e,BA.flat caps (by simpa [Jt]using hf) h⟩
 |.str _,v,_,h=>by unfold Rep at *;exact h
 |.clip _ _,v,hf,h=>by simp[Jt]at hf
 |.mp id,v,_,h=>by unfold Rep at *;exact h
 |.rowp _ _ _,v,_,h=>by unfold Rep at *;exact h
 |.glob _,v,_,h=>by unfold Rep at *;exact h
 |.nilp,v,_,h=>by unfold Rep at *;exact h
 |.ifc _,v,_,h=>by unfold Rep at *;exact h
 |.aptr _ _,v,_,h=>by unfold Rep at *;exact h
 |.tup vs,v,hf,h=>by unfold Rep at *;obtain⟨us,e,h⟩:=h;exact⟨us,e,BA.flat vs (by simpa [Jt]using hf) h⟩
theorem BA.flat:∀ (cs:List AV) {vs:List Value},Ja cs=true->BA w F m H cs vs->BA w F0 m H cs vs
 |[],vs,_,h=>by unfold BA at *;exact h
 |c::cs,vs,hf,h=>by unfold BA at *;simp only[Ja,ARl]at hf;obtain⟨v,a,e,b,d⟩:=h;exact⟨v,a,e,Rep.flat c hf.1 b,BA.flat cs hf.2 d⟩
end
def oI(ids:List Nat)(H H2:List Ob)(m m2:Mp):Prop:=∀ j o,H[j]? = some o->H2[ids.getD j 0]? = some (EA ids o)/\m2 (ids.getD j 0)=m j
theorem FJ(f:oI ids H H2 m m2)(Q:Option Ob->Option (Nat×Nat)->Prop)(c:∀ l,¬ Q none l)(a:∀ cs l,Q (some (.box cs)) l->Q (some (.box (I9 ids cs))) l)(b:∀ T t t' d l,Q (some (.prs T t d)) l->Q (some (.prs T t' d)) l)(j:Nat)(h:Q H[j]? (m j)):Q H2[ids.getD j 0]? (m2 (ids.getD j 0)):=by
 cases e:H[j]? with
  |none=>grind
  |some o=>rw[e]at h;obtain⟨g,i⟩:=f j o e;rw[g,i];cases o<;>first|exact h|exact a _ _ h|exact b _ _ _ _ _ h
mutual
theorem Rep.ren(b:oI ids H H2 m m2):∀ (a:AV) {v:Value},Rep w F m H a v->Rep w F m2 H2 (EH ids a) v
 |.Cv,_,_=>by simp only[EH];unfold Rep;trivial
 |.rowp _ _ _,_,_=>by simp only[EH];unfold Rep;trivial
 |.glob g,v,h=>by simp only[EH];unfold Rep at *;exact h
 |.nilp,v,h=>by simp only[EH];unfold Rep at *;exact h
 |.ifc _,v,h=>by simp only[EH];unfold Rep at *;exact h
 |.aptr id n,v,h=>by simp only[EH];unfold Rep at *;exact FJ b (fun o l=>Fs o l n v) (fun l h=>h) (fun cs l h=>h) (fun _ _ _ _ l h=>h) id h
 |.data t d,v,h=>by simp only[EH];unfold Rep at *;exact h
 |.nils _,v,h=>by simp only[EH];unfold Rep at *;exact h
 |.agg cs,v,h=>by simp only[EH];unfold Rep at *;obtain⟨vs,e,h,c⟩:=h;exact⟨vs,e,BA.ren b cs h,c⟩
 |.own id,v,h=>by simp only[EH];unfold Rep at *;exact FJ b (fun o l=>Bq o l v) (fun l h=>h) (fun cs l h=>h) (fun _ _ _ _ l h=>h) id h
 |.win id off n,v,h=>by simp only[EH];unfold Rep at *;exact FJ b (fun o l=>HS o l off n v) (fun l h=>h) (fun cs l h=>h) (fun _ _ _ _ l h=>h) id h
 |.ptr id off,v,h=>by simp only[EH];unfold Rep at *;exact FJ b (fun o l=>Ge o l off v) (fun l h=>h) (fun cs l h=>h) (fun _ _ _ _ l h=>h) id h
 |.eptr id i sub,v,h=>by simp only[EH];unfold Rep at *;exact FJ b (fun o l=>Dc o l i sub v) (fun l h=>h) (fun cs l h=>h) (fun _ _ _ _ l h=>h) id h
 |.dptr cs,v,h=>by simp only[EH];unfold Rep at *;obtain⟨ad,us,e,c,k,p,q⟩:=h;refine⟨ad,us,e,fun j=>c (by rintro rfl;exact j rfl),BA.ren b cs k,p,q⟩
 |.clo f caps,v,h=>by simp only[EH];unfold Rep at *;obtain⟨cs,e,h⟩:=h;exact⟨cs,e,BA.ren b caps h⟩
 |.bnd f caps,v,h=>by simp only[EH];unfold Rep at *;obtain⟨cs,e,h⟩:=h;exact⟨cs,e,BA.ren b caps h⟩
 |.str _,v,h=>by simp only[EH];unfold Rep at *;exact h
 |.clip _ _,v,h=>by simp only[EH];unfold Rep at *;exact h
 |.mp id,v,h=>by simp only[EH];unfold Rep at *;exact FJ b (fun o l=>Lp o l v) (fun l h=>h) (fun cs l h=>h) (fun _ _ _ _ l h=>h) id h
 |.tup vs,v,h=>by simp only[EH];unfold Rep at *;obtain⟨us,e,h⟩:=h;exact⟨us,e,BA.ren b vs h⟩
theorem BA.ren(b:oI ids H H2 m m2):∀ (cs:List AV) {vs:List Value},BA w F m H cs vs->BA w F m2 H2 (I9 ids cs) vs
 |[],vs,h=>by simp only[I9];unfold BA at *;exact h
 |c::cs,vs,h=>by simp only[I9];unfold BA at *;obtain⟨v,a,e,d,f⟩:=h;exact⟨v,a,e,Rep.ren b c d,BA.ren b cs f⟩
end
theorem AFW(a:Nat)(b:List Int):I9 ids (GD a b)=GD (ids.getD a 0) b:=by
 induction b with
  |nil=>rfl
  |cons x xs c=>have:I9 ids (GD a (x::xs))=EH ids (.eptr a x.toNat 0)::I9 ids (GD a xs):=rfl;rw[this,c];rfl
theorem ACA(a:Nat)(b:List Int):Ja (GD a b)=true:=by
 induction b with
  |nil=>rfl
  |cons x xs c=>have:Ja (GD a (x::xs))=(Jt (.eptr a x.toNat 0)&&Ja (GD a xs)):=rfl;rw[this,c];rfl
theorem sL{i j k:Nat}:∀ {ids:List Nat},Er ids=true->ids[i]? = some k->ids[j]? = some k->i=j:=by
 intro ids h;have:ids.Nodup:=by
  induction ids with
   |nil=>simp
   |cons a ids d=>simp only[Er,ARl,ASk,List.contains_eq_mem,ASf]at h;grind
 intro b c;exact(List.getElem?_inj (se b) this).1 (b.trans c.symm)
theorem jv{i:Nat}{o:Ob}:∀ (ids:List Nat) (os:List Ob) (H:List Ob) (j:Nat),Er ids=true->ids[j]? = some i->os[j]? = some o->i<H.length->(Bi (ids.zip os) H)[i]? = some o:=by
 intro ids;induction ids with
  |nil=>simp
  |cons a ids g=>
   intro os H j b c d e;cases os with
    |nil=>grind
    |cons x os=>
     simp only[Er,ARl,ASk,List.contains_eq_mem,ASf]at b;simp only[List.zip_cons_cons,Bi];cases j with
      |zero=>simp only[ASL,ARi]at c d;subst c;subst d;rw[CO _ _ fun p f => ?_,ATl e];rintro rfl;exact b.1 (List.of_mem_zip f).1
      |succ j=>grind
def Ju:List Nat->Nat->Option Nat
 |[],_=>none
 |x::xs,i=>if x=i then some 0 else(Ju xs i).map (· + 1)
theorem TD{i j:Nat}:∀ {ids:List Nat},Ju ids i=some j->ids[j]? = some i:=by
 intro ids;induction ids generalizing j with
  |nil=>intro h;simp[Ju]at h
  |cons a ids b=>intro h;simp only[Ju]at h;split at h;grind;rw[ARr]at h;grind
theorem m0{i:Nat}:∀ {ids:List Nat},Ju ids i=none->i∉ids:=by
 intro ids;induction ids with
  |nil=>simp
  |cons a ids c=>intro h;simp only[Ju]at h;split at h;cases h;rename_i b;rw[Option.map_eq_none_iff]at h;grind
theorem ACE{i j:Nat}{ids:List Nat}(b:Er ids=true)(h:ids[j]? = some i):Ju ids i=some j:=by
 cases a:Ju ids i with
  |none=>exact absurd (ARu h) (m0 a)
  |some k=>rw[sL b h (TD a)]
def mOf(ids:List Nat)(a m:Mp):Mp
 |.o i=>match Ju ids i with
  |some j=>a j
  |none=>m i
 |.r i k=>m (.r i k)
theorem cT{fz:List Bool}:∀ {ids:List Nat} {c:List Bnd},Fb H fz ids c=true->∀ {j i:Nat},ids[j]? = some i->c[j]? = some (.whole i)\/((∀ id,c[j]?≠some (.whole id))/\Bb H fz i=true):=by
 intro ids;induction ids with
  |nil=>simp
  |cons a ids g=>
   intro c h j i d;simp only[Fb,ARl]at h;obtain⟨e,k⟩:=h;cases j with
    |zero=>
     simp only[ASL,ARi]at d;subst d;split at e;grind;rename_i f;refine .inr ⟨fun id l => ?_,e⟩;cases c with
      |nil=>grind
      |cons b c=>simp_all
    |succ j=>grind
theorem ABp:∀ (n:Nat) (a:List Bnd) (slot:Nat),(DE n a slot).length=n:=by
 intro n;induction n with
  |zero=>intro a slot;cases a<;>rfl
  |succ n c=>
   intro a slot;cases a with
    |nil=>simp[DE,c]
    |cons b a=>cases b<;>simp[DE,c]
theorem B'(st:St)(v:AV)(l:Loc):(place st v l).heap.length=st.heap.length:=by
 cases l with
  |tmp t=>rfl
  |cell j c=>simp only[place];grind
  |cap t i=>rfl
  |obj j=>rfl
theorem AIT:∀ (b:A1) (d:BV (leaves b)) (st:St),(enc b d st).heap.length=st.heap.length+DN b:=by
 intro b;induction b with
  |nil=>intro d st;rfl
  |cons p r a=>
   intro d st;obtain⟨l,c⟩:=p;cases c with
    |dat t=>exact(a _ _).trans (by rw[B'];rfl)
    |own T e=>exact(a _ _).trans (by rw[B'];simp[EW,DN];omega)
    |box n=>exact(a _ _).trans (by rw[B'];simp[EW,DN];omega)
    |map k v=>exact(a _ _).trans (by rw[B'];simp[EW,DN];omega)
    |prs T j=>exact(a _ _).trans (by rw[B'];simp[EW,DN];omega)
    |rows T e t=>exact(a _ _).trans (by rw[B'];simp[EW,DN];omega)
    |mrows j e t=>exact(a _ _).trans (by rw[B'];simp[EW,DN];omega)
    |aptr T e n=>exact(a _ _).trans (by rw[B'];simp[EW,DN];omega)
    |aptr' j n=>exact(a _ _).trans (by rw[B'];rfl)
    |bndp f j=>exact(a _ _).trans (by rw[B'];rfl)
    |nilp=>exact(a _ _).trans (by rw[B'];rfl)
    |own' j=>exact(a _ _).trans (by rw[B'];rfl)
    |ptr' j o=>exact(a _ _).trans (by rw[B'];rfl)
    |map' j=>exact(a _ _).trans (by rw[B'];rfl)
    |win' j=>exact(a _ _).trans (by rw[B'];rfl)
    |sub' j=>exact(a _ _).trans (by rw[B'];rfl)
    |clo f g=>exact(a _ _).trans (by rw[B'];rfl)
    |bnd f j=>exact(a _ _).trans (by rw[B'];rfl)
    |nil e=>exact(a _ _).trans (by rw[B'];rfl)
end
theorem X0{H:List Ob}{fz:List Bool}{i:Nat}{o:Ob}(h:H[i]? = some o)(a:alive o)(b:fz.getD i false=false):owned H fz i:=by
 simp only[owned,Cd];rw[h];cases o with
  |free=>exact a.elim
  |dead=>exact a.elim
  |box cs=>trivial
  |arr T t xs=>exact b
  |map k v c=>trivial
  |prs T t d=>trivial
  |rows T e t xs ver out=>exact b
theorem oC{o:Ob}(h:alive o):o≠.free/\o≠.dead:=by constructor<;>rintro rfl<;>exact h
theorem K4{H:List Ob}{fz:List Bool}{ids:List Nat}{i:Ix}(h:owned H (BF ids fz) i):owned H fz i:=Nw h
theorem Zm{o a:Ob}{ids:List Nat}(h:sameShape o a):sameShape o (EA ids a):=by cases o<;>cases a<;>simp only[sameShape,EA]at *<;>exact h
theorem R6{i:Nat}:∀ {a:List Bnd},i∈given a↔∃ j:Nat,a[j]? = some (.whole i):=by
 intro a;induction a with
  |nil=>simp[given]
  |cons b a c=>
   have step:(∃ j:Nat,(b::a)[j]? = some (.whole i))↔b = .whole i\/∃ j:Nat,a[j]? = some (.whole i):=by constructor;grind;rintro (h|⟨j,d⟩);exact⟨0,by grind⟩;exact⟨j+1,by grind⟩
   rw[step];cases b with
    |whole id=>simp only[given,AR4,c,Bnd.whole.injEq];grind
    |none=>simp[given,c]
    |cut id=>simp[given,c]
theorem So(a b:List (Nat×Ob)):∀ H,Bi (a++b) H=Bi b (Bi a H):=by
 induction a with
  |nil=>intro H;rfl
  |cons p a c=>intro H;obtain⟨i,o⟩:=p;simp only[ASG,Bi];grind
def Ds(a:List Nat)(H:List Ob):List Ob:=Bi (a.map fun i=>(i,.dead)) H
theorem X'{a:List Nat}{i:Nat}{H:List Ob}(h:i∉a):(Ds a H)[i]? = H[i]? :=
 CO _ _ fun p b=>by grind
theorem ABY:∀ {b:List Nat} {i:Nat} {H:List Ob},i∈b->i<H.length->(Ds b H)[i]? = some .dead:=by
 intro b;induction b with
  |nil=>simp
  |cons a b d=>intro i H h e;by_cases c:i∈b;exact d (H:=H.set a .dead) c (by grind);have:(Ds b (H.set a .dead))[i]? = (H.set a .dead)[i]? := X' c;rcases AR4.1 h with rfl|h;show(Ds b (H.set i .dead))[i]? = _;grind;grind
theorem YA(a:List Nat)(H:List Ob):(Ds a H).length=H.length:=Sn ..
section
variable {w w':World} {F F2 F3 FR:Nat->Prop} {m m3:Mp} {H H1:List Ob} {fz fz1 fzR:List Bool} {bs:List Bnd} {ids fr:List Nat} {np:Nat}
theorem ADI(hiC:HI w F m H fz)(gA:BO w F m H fz w F2 m H (BF fr fz))
  (O:∀ (j id:Nat),bs[j]? = some (.whole id)->owned H (BF fr fz) id)
  (inj:∀ (i j id:Nat),bs[i]? = some (.whole id)->bs[j]? = some (.whole id)->i=j)
  (pin:∀ (j id:Nat),(bs.take np)[j]? = some (.whole id)->∃ o d,H[id]? = some o/\alive o/\H1[j]? = some d/\sameShape o d/\m3 j=m id)
  (blk:∀ (j b c:Nat),owned H1 fz1 j->m3 j=some (b,c)->(∃ id c':Nat,(bs.take np)[j]? = some (.whole id)/\m id=some (b,c'))\/(∃ k id c':Nat,np<=k/\bs[k]? = some (.whole id)/\m id=some (b,c'))\/w.heap.size<=b)
  (os:w'.os=w.os) (tape:w'.tape=w.tape) (output:w'.output=w.output) (size:w.heap.size<=w'.heap.size)
  (S:∀ b,b<w.heap.size->(∀ (j id:Nat) (c:Nat),bs[j]? = some (.whole id)->m id≠some (b,c))->w'.heap[b]? = w.heap[b]?)
  (sub:∀ b,F2 b->F3 b) (bnd:∀ b,F3 b->F2 b\/(∃ (j id c:Nat),bs[j]? = some (.whole id)/\m id=some (b,c))\/w.heap.size<=b)
  (hi1:HI w' F3 m3 H1 fz1) (al1:∀ (j:Nat) (o:Ob),H1[j]? = some o->alive o) (pl1:∀ (j:Nat) (o:Ob),H1[j]? = some o->B_ o=true) (fr1:∀ j,fz1.getD j false=false)
  (hlen:ids.length=H1.length) (hok:Fb H fzR ids (bs.take np)=true) (hnd:Er ids=true)
  (hR:(FR=F/\fzR=fz/\H1.all Mk=true)\/(FR=F3/\fzR=BF fr fz)) :
  BO w F m H fz w' FR (mOf ids m3 m) (Bi (ids.zip (H1.map (EA ids))) (Ds (given (bs.drop np)) H)) fzR/\oI ids H1 (Bi (ids.zip (H1.map (EA ids))) (Ds (given (bs.drop np)) H)) m3 (mOf ids m3 m):=by
 have hiR:∃ FB,HI w FB m H fzR/\(∀ b,F b->FB b)/\(∀ b,FB b->FR b)/\(∀ b,FB b->F2 b):=by
  rcases hR with⟨G,X,_⟩|⟨G,X⟩
  exact⟨F,by grind,fun _ h=>h,fun _ h=>by grind,gA.1.sub⟩;exact⟨F2,by rw[X];exact gA.2,gA.1.sub,fun b h=>by grind,fun _ h=>h⟩
 obtain⟨FB,P,Y,V,hB2⟩:=hiR;have ownR:∀ {i},owned H fzR i->owned H fz i:=by
  intro i h;rcases hR with⟨_,X,_⟩|⟨_,X⟩
  grind;rw[X]at h;exact K4 h
 have pinR:∀ {id},owned H (BF fr fz) id->owned H fzR id:=by
  intro id h;rcases hR with⟨_,X,_⟩|⟨_,X⟩
  rw[X];exact K4 h;grind
 have FR3:∀ b,FR b->F3 b:=by grind
 have tk:∀ {j id:Nat},(bs.take np)[j]? = some (.whole id)->j<np/\bs[j]? = some (.whole id):=by grind
 have tk':∀ {j id:Nat},j<np->bs[j]? = some (.whole id)->(bs.take np)[j]? = some (.whole id):=by grind
 have gvI:∀ {i:Nat},i∈given (bs.drop np)->∃ k,np<=k/\bs[k]? = some (.whole i):=by intro i h;obtain⟨j,f⟩:=R6.1 h;grind
 have gvO:∀ {i k:Nat},np<=k->bs[k]? = some (.whole i)->i∈given (bs.drop np):=by intro i k hk h;refine R6.2 ⟨k-np,?_⟩;grind
 have U:∀ {j i:Nat},ids[j]? = some i->(∃ o,H[i]? = some o)/\((bs.take np)[j]? = some (.whole i)\/((∀ (id:Nat),(bs.take np)[j]?≠some (.whole id))/\H[i]? = some .free/\fzR.getD i false=false)):=by
  intro j i f;rcases cT hok f with h|⟨M,N⟩
  grind;obtain⟨h3,h4⟩:=B7 N;grind
 have gvN:∀ {i:Nat},i∈ids->i∉given (bs.drop np):=by
  intro i hi g;obtain⟨j,f⟩:=List.getElem?_of_mem hi;obtain⟨k,hk,u⟩:=gvI g;rcases(U f).2 with h|⟨_,h,_⟩
  grind;obtain⟨o,M,N,_⟩:=FI (O k i u);grind
 have hunf:∀ {j i:Nat},ids[j]? = some i->∀ {d:Ob},H1[j]? = some d->∀ {T:TypeId} {t:Ty} {xs:List t.den},d = .arr T t xs->fzR.getD i false=false:=by
  intro j i f d a T t xs W;rcases(U f).2 with h|⟨_,_,h⟩
  obtain⟨o,o2,n,_,Z,hs,_⟩:=pin j i h;rw[a]at Z;cases Z;subst W;have N:=pinR (O j i (tk h).2);simp only[owned,Cd]at N;rw[n]at N;cases o<;>simp only[sameShape]at hs;exact N;omega
 have hwhole:∀ {j id:Nat},(bs.take np)[j]? = some (.whole id)->ids[j]? = some id:=by
  intro j id u;obtain⟨o,d,_,_,a,_⟩:=pin j id u;have hl:=BS a;rw[<- hlen]at hl;have g:ids[j]? = some ids[j]:=ARs hl;rcases cT hok g with h|⟨h,_⟩
  all_goals grind
 have hgv:∀ {i:Nat},i∈given (bs.drop np)->(Ds (given (bs.drop np)) H)[i]? = some .dead:=by intro i hi;obtain⟨k,_,u⟩:=gvI hi;obtain⟨o,n,_⟩:=FI (O k i u);exact ABY hi (BS n)
 have y:∀ {j i:Nat} {d:Ob},ids[j]? = some i->H1[j]? = some d->(Bi (ids.zip (H1.map (EA ids))) (Ds (given (bs.drop np)) H))[i]? = some (EA ids d):=by intro j i d f a;obtain⟨⟨o,n⟩,_⟩:=U f;exact jv ids _ _ j hnd f (by grind) (by rw[YA];grind)
 have getOut0:∀ {i:Nat},i∉ids->(Bi (ids.zip (H1.map (EA ids))) (Ds (given (bs.drop np)) H))[i]? = (Ds (given (bs.drop np)) H)[i]? := by intro i hi;exact CO _ _ fun p hp=>by rintro rfl;exact hi (List.of_mem_zip hp).1
 have q:∀ {i:Nat},i∉ids->i∉given (bs.drop np)->(Bi (ids.zip (H1.map (EA ids))) (Ds (given (bs.drop np)) H))[i]? = H[i]? := by intro i hi g;rw[getOut0 hi,X' g]
 have getGv:∀ {i:Nat},i∈given (bs.drop np)->(Bi (ids.zip (H1.map (EA ids))) (Ds (given (bs.drop np)) H))[i]? = some .dead:=by grind
 have mIn:∀ {j i:Nat},ids[j]? = some i->mOf ids m3 m i=m3 j:=by intro j i f;simp only[mOf];rw[ACE hnd f]
 have A:∀ {x:Ix},x.id∉ids->mOf ids m3 m x=m x:=by
  intro x hi;cases x with
   |r i k=>rfl
   |o i=>
    simp only[mOf];cases hf:Ju ids i with
     |none=>rfl
     |some j=>exact absurd (ARu (TD hf)) hi
 have z:∀ i:Nat,(∃ j:Nat,ids[j]? = some i)\/i∈given (bs.drop np)\/(i∉ids/\i∉given (bs.drop np)):=by intro i;by_cases h:i∈ids;obtain⟨j,f⟩:=List.getElem?_of_mem h;grind;grind
 have notGv:∀ {i:Ix},i.id∈given (bs.drop np)->¬ owned (Bi (ids.zip (H1.map (EA ids))) (Ds (given (bs.drop np)) H)) fzR i:=by intro i g n;obtain⟨o,M,_,h3⟩:=Dr n;grind
 have I:∀ {j i:Nat},ids[j]? = some i->∃ d,H1[j]? = some d:=by grind
 have plR:∀ {d:Ob},B_ d=true->B_ (EA ids d)=true:=by intro d h;cases d<;>first|exact h|rfl
 have cls:∀ x:Ix,owned (Bi (ids.zip (H1.map (EA ids))) (Ds (given (bs.drop np)) H)) fzR x->(∃ i j:Nat,∃ d,x = .o i/\ids[j]? = some i/\H1[j]? = some d)\/(x.id∉ids/\x.id∉given (bs.drop np)):=by
  intro x hx;rcases z x.id with⟨j,f⟩|g|h;obtain⟨d,a⟩:=I f;cases x with
   |o i=>exact .inl ⟨i,j,d,rfl,f,a⟩
   |r i k=>exact absurd hx (FG (y f a) (plR (pl1 j d a)))
  all_goals grind
 have J:∀ {j:Nat} {d:Ob},H1[j]? = some d->owned H1 fz1 j:=fun h=>X0 h (al1 _ _ h) (fr1 _);have blkNe:∀ {i b c:Nat},i∉ids->i∉given (bs.drop np)->(∃ o,H[i]? = some o/\o≠.free/\o≠.dead)->m i=some (b,c)->∀ {j id c':Nat},bs[j]? = some (.whole id)->m id≠some (b,c'):=by
  intro i b c hi g ⟨o,n,M,N⟩ K j id c' u W;have hp:=O j id u;have hne:i≠id:=by grind
  exact gA.2.ne hp W n M N K hne rfl
 have Q:C8 H (Bi (ids.zip (H1.map (EA ids))) (Ds (given (bs.drop np)) H)) m (mOf ids m3 m):=by
  intro i o n hf;rcases z i with⟨j,f⟩|g|⟨hi,g⟩
  rcases(U f).2 with h|⟨_,h,_⟩
  obtain⟨o',d,ho',ha,a,hs,K⟩:=pin j i h;rw[n]at ho';cases ho';exact .inr ⟨(oC ha).2,_,y f a,Zm hs,by grind,fun _ _ _=>rfl⟩;grind;grind;rcases C8.refl H m i o n hf with h|⟨hd,o',M,N,_⟩
  grind;exact .inr ⟨hd,o',by grind,N,A (x:=.o i) hi,fun _ _ _=>rfl⟩
 have C:oI ids H1 (Bi (ids.zip (H1.map (EA ids))) (Ds (given (bs.drop np)) H)) m3 (mOf ids m3 m):=by intro j o n;grind
 have hkeepF:∀ b,FB b->w'.heap[b]? = w.heap[b]? := by intro b u;refine S b (P.lt b u) fun j id c f W => ?_;exact gA.2.off id b c (O j id f) W (hB2 b u)
 have R:∀ k,F k->w'.heap[k]? = w.heap[k]? := fun k ha=>hkeepF _ (Y _ ha);have D:∀ {i:Ix},i.id∉ids->i.id∉given (bs.drop np)->owned (Bi (ids.zip (H1.map (EA ids))) (Ds (given (bs.drop np)) H)) fzR i->owned H fzR i:=by intro i hi g h;exact(DM (q hi g)).1 h
 have blkNe':∀ {x:Ix} {b c:Nat},x.id∉ids->x.id∉given (bs.drop np)->owned H fzR x->m x=some (b,c)->∀ {j id c':Nat},bs[j]? = some (.whole id)->m id≠some (b,c'):=by
  intro x b c hi g n K j id c' u W;cases x with
   |o i=>exact blkNe hi g (FI n) K u W
   |r i k=>exact gA.2.neX (O j id u) W n.there K (by simp) rfl
 have bOut:∀ {x:Ix} {b c:Nat},x.id∉ids->x.id∉given (bs.drop np)->owned H fzR x->m x=some (b,c)->∀ {j:Nat} {d:Ob} {c':Nat},H1[j]? = some d->m3 j≠some (b,c'):=by intro x b c hi g n K j d c' a W;rcases blk j b c' (J a) W with⟨id,c2,u,hm2⟩|⟨k,id,c2,_,u,hm2⟩|hge;grind;grind;have:=P.Ie n K;omega
 refine⟨⟨⟨os,tape,output,size,fun b u hn=>S b u fun j id c f W => ?_,fun b h=>V b (Y b h),?_,?_,Q⟩,⟨?_,?_,?_,?_,?_,?_,?_,hiC.glo.mono R (fun b h=>V b (Y b h)),?_⟩⟩,C⟩;grind
 ·-- what is frozen
  intro b u;rcases hR with⟨G,_,_⟩|⟨G,_⟩
  grind;·rw[G]at u;rcases bnd b u with h|⟨j,id,c,M,N⟩|h;exact gA.1.bnd b h;all_goals grind
 intro i b c n K;rcases cls i n with⟨i,j,d,rfl,f,a⟩|⟨hi,g⟩
 rw[mIn f]at K;rcases blk j b c (J a) K with⟨id,c',M,N⟩|⟨k,id,c',_,M,N⟩|h;grind;grind;omega;grind;-- objects
 intro i o n;rcases z i with⟨j,f⟩|g|⟨hi,g⟩
 obtain⟨d,a⟩:=I f;rw[y f a]at n;cases n;rw[mIn f];have L:=hi1.obj j d a;cases d with
  |free=>trivial
  |dead=>trivial
  |box cs=>
   obtain⟨b,c,vs,T,a1,a2,a3,a4⟩:=L;refine⟨b,c,vs,T,a1,a2,BA.ren C cs ?_,a4⟩;rcases hR with⟨G,_,E⟩|⟨G,_⟩
   rw[AR1]at E;exact BA.flat cs (by simpa [Mk]using E _ (ARu a)) a3;grind
  |arr T t xs=>
   rcases hR with⟨G,_,E⟩|⟨G,_⟩
   rw[AR1]at E;have hft:t.flat=true:=by simpa [Mk]using E _ (ARu a)
   obtain⟨h0,M⟩:=L;refine⟨h0,?_⟩;cases hm3:m3 j with
    |none=>grind
    |some p=>obtain⟨b,cap⟩:=p;rw[hm3]at M;obtain⟨vs,row,a1,a2,a3,a4,a5,a6⟩:=M;exact⟨vs,row,a1,a2,a3,a4,B6 (fun x _ cs hx=>hx.flat t hft) a5,a6⟩
   rw[G];exact L
  |map k v es=>
   obtain⟨b,c,ms,clock,a1,a2,a3,a4⟩:=L;refine⟨b,c,ms,clock,a1,a2,?_,a4⟩;rcases hR with⟨G,_,E⟩|⟨G,_⟩
   rw[AR1]at E;have hft:k.flat=true/\v.flat=true:=by simpa [Mk]using E _ (ARu a)
   exact ACL hft.1 hft.2 a3;grind
  |prs T tgt is=>
   simp only[EA];cases hm3:m3 j with
    |none=>rw[hm3]at L;exact L
    |some p=>
     obtain⟨b,cap⟩:=p;rw[hm3]at L;obtain⟨vs,us,a1,a2,a3,a4,a5,a6,a7⟩:=L;refine⟨vs,us,a1,a2,a3,a4,?_,a6,a7⟩;rw[<- AFW];refine BA.ren C _ ?_;rcases hR with⟨G,_,E⟩|⟨G,_⟩
     exact BA.flat _ (ACA tgt is) a5;grind
  |rows T e t xs ver out=>exact absurd (pl1 j _ a) (by simp[B_])
 rw[getGv g]at n;cases n;trivial;rw[q hi g]at n;rw[A (x:=.o i) hi];refine ObI.mono R (fun b h=>V b (Y b h)) Q (fun M N b c K hlt=>S b hlt fun j id c' f=>blkNe hi g ⟨o,n,M,N⟩ K f) (hiC.obj i o n);-- rows
 intro i;rcases z i with⟨j,f⟩|g|⟨hi,g⟩
 obtain⟨d,a⟩:=I f;exact Cq.plain (y f a) (plR (pl1 j d a));exact Cq.plain (getGv g) rfl
 refine Cq.mono R (fun b h=>V b (Y b h)) Q (q hi g) (fun x hx=>A (by grind))
  (fun x hx hox b c K hlt=>S b hlt fun j id c' f W => ?_) (hiC.row i)
 refine gA.2.neX (O j id f) W hox K ?_ rfl;grind;intro i T e t xs ver out B hf x hx ht b c K;rcases z i with⟨j,f⟩|g|⟨hi,g⟩
 obtain⟨d,a⟩:=I f;rw[y f a]at B;have:=plR (pl1 j d a);rw[Option.some.inj B]at this;cases this;grind;rw[A (x:=x) (by grind)]at K;have M:=q hi g;exact V b (P.rfz i T e t xs ver out (M▸B) hf x hx ((DK (by grind)).1 ht) b c K);-- apart
 intro i j b c b' c' hoi hoj hij s hmj;rcases cls i hoi with⟨i,k,d,rfl,hk,a⟩|⟨hi,hgi⟩
 rw[mIn hk]at s;rcases cls j hoj with⟨j,l,o2,rfl,hl,Z⟩|⟨f,hgj⟩
 rw[mIn hl]at hmj;have hkl:k≠l:=by grind
 exact hi1.sep k l b c b' c' (J a) (J Z) (ALr hkl) s hmj;grind;rw[A hi]at s;rcases cls j hoj with⟨j,l,o2,rfl,hl,Z⟩|⟨f,hgj⟩
 grind;rw[A f]at hmj;exact P.sep i j b c b' c' (D hi hgi hoi) (D f hgj hoj) hij s hmj;-- none of them frozen
 intro i b c hoi s u;rcases cls i hoi with⟨i,k,d,rfl,hk,a⟩|⟨hi,g⟩
 rw[mIn hk]at s;exact hi1.off k b c (J a) s (FR3 b u);rw[A hi]at s;have n:=D hi g hoi;rcases hR with⟨G,X,_⟩|⟨G,X⟩
 rw[G]at u;exact hiC.off i b c (ownR n) s u;rw[G]at u;rcases bnd b u with h|⟨j,id,c',M,N⟩|h;rw[X]at n;exact gA.2.off i b c n s h;grind;have:=P.Ie n s;omega;intro i T t xs b c B hf s;rcases z i with⟨k,hk⟩|g|⟨hi,g⟩
 obtain⟨d,a⟩:=I hk;rw[y hk a]at B;have:d = .arr T t xs:=by cases d<;>simp only[EA,ARi]at B<;>first|exact B|cases B
 grind;grind;rw[q hi g]at B;rw[A (x:=.o i) hi]at s;exact V b (P.froz i T t xs b c B hf s);intro b u;exact hi1.lt b (FR3 b u);rw[Sn,YA];exact P.len
end
end Go.Pev
end
