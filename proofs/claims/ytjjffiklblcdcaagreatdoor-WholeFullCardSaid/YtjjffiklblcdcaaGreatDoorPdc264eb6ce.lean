/- A part of the proofs of this seat: PevOps8 PevOps9 PevOps10 PevKeep PevPrs PevRows2 PevOps12 PevMore PevKeys PevKeys2 PevIface PevOps11 PevCode PevLocal PevDraw PevDraw2 PevDec PevDec2 PevFlow PevPan PevFlow2 PevCall. -/
import Derived.Test.YtjjffiklblcdcaaGreatDoorPec041967f8
import Derived.IntWalk
import Derived.Laws.StructEq
import Derived.Laws.BytesArg
import Derived.LoopN
import Derived.Scope
set_option linter.unusedVariables false
set_option linter.unusedSimpArgs false
set_option linter.unusedSectionVars false
set_option maxRecDepth 100000
section
namespace Go.Pev
open Go.RowKit
section
variable {P:Program} {E:Env}
theorem AKs{α:Type}{a:Array α}{x:α}(h:a.toList=[x]):a = #[x]:=by grind
theorem AVk{α:Type}{a:Array α}{x y:α}(h:a.toList=[x,y]):a = #[x,y]:=by grind
theorem eZ{w:World}{F:Nat->Prop}{a b:Ty}:∀ {c:List (a.den×b.den)} {d:List MapEntry},K3 w F a b c d->d.length=c.length:=by
 intro c;induction c with
  |nil=>rintro d rfl;rfl
  |cons e c g=>rintro d ⟨i,f,rfl,_,h⟩;grind
theorem Gw{w w':World}{ρc:Operand->Value}{o:Oper}{T:TypeId}{x:Operand}{v u:Value}(b:o.op = .call { callee:=.builtin .len,args:=#[x],argTypes:=#[T] })(d:ρc x=v)
  (a:(Builtin.len_ #[T] o.type #[v]).run P w = .ok u w'):(execOp ρc o).run P w = .ok (.value u) w':=by simp[execOp,b,resolve,invoke,builtin,d,a]
theorem Cc{w:World}{T e ty:TypeId}(b:P.underlying T=some (.slice e))(a:Option Addr)(n c:Nat):(Builtin.len_ #[T] ty #[.slice a n c]).run P w = .ok (.int .i64 n) w:=by simp[Builtin.len_,run_underlying b,goInt]
theorem AKP(args:Array Operand)(ts:Array TypeId):Claim P E (.call { callee:=.builtin .len,args:=args,argTypes:=ts }):=by
 intro R ty ρ H fz slot k r h;simp only[evalOp,Pw]at h;split at h;rename_i x T J B;obtain rfl:=AKs J;obtain rfl:=AKs B;split at h;rename_i e i;split at h;rename_i t xs j;refine⟨_,_,h,fun z A=>by simp only[evalOp,Pw,i,j],BD fun w F m ρc o f s hi v => ?_⟩;have d:=v x;rw[j]at d;have d:Dat w F (.slice t) xs [ρc x]:=d;obtain⟨a,cap,q,_⟩:=d;simp only[AbR,AdG]at q;exact⟨_,Gw f q (Cc i _ _ _),Bj _ _⟩;rename_i j;refine⟨_,_,h,fun z A=>by simp only[evalOp,Pw,i,j],BD fun w F m ρc o f s hi v => ?_⟩;have d:=v x;rw[j]at d;unfold Rep at d;exact⟨_,Gw f d (Cc i _ _ _),Bj _ _⟩;rename_i id j;split at h;rename_i D t xs l;refine⟨_,_,h,fun z A=>by simp only[evalOp,Pw,i,j,l],BD fun w F m ρc o f s hi v => ?_⟩;have d:=v x;rw[j]at d;unfold Rep at d;rw[l]at d;obtain⟨_,g⟩:=hi.obj id _ l;cases y:m id with
  |none=>rw[y]at d g;obtain⟨a,q⟩:=d;simp only at g;subst g;exact⟨_,Gw f q (Cc i _ _ _),Bj _ _⟩
  |some p=>rw[y]at d;exact⟨_,Gw f d (Cc i _ _ _),Bj _ _⟩
 rename_i D K L l;refine⟨_,_,h,fun z A=>by simp only[evalOp,Pw,i,j,l],BD fun w F m ρc o f s hi v => ?_⟩;have d:=v x;rw[j]at d;unfold Rep at d;rw[l]at d;have g:=hi.obj id _ l;cases y:m id with
  |none=>rw[y]at d g;obtain⟨a,q⟩:=d;have g:L=[]:=g;subst g;exact⟨_,Gw f q (Cc i _ _ _),Bj _ _⟩
  |some p=>rw[y]at d;exact⟨_,Gw f d (Cc i _ _ _),Bj _ _⟩
 grind;rename_i id off n j;split at h;rename_i G;obtain⟨D,t,xs,l⟩:=FN G;refine⟨_,_,h,fun z A=>by simp only[evalOp,Pw,i,j,G],BD fun w F m ρc o f s hi v => ?_⟩;have d:=v x;rw[j]at d;unfold Rep at d;rw[l]at d;obtain⟨_,d⟩:=d;cases y:m id with
  |none=>rw[y]at d;obtain⟨a,q⟩:=d;exact⟨_,Gw f q (Cc i _ _ _),Bj _ _⟩
  |some p=>rw[y]at d;obtain⟨a,q,_⟩:=d;exact⟨_,Gw f q (Cc i _ _ _),Bj _ _⟩
 grind;grind;rename_i S U i;split at h;rename_i id j;split at h;rename_i a b V l;refine⟨_,_,h,fun z A=>by simp only[evalOp,Pw,i,j,l],BD fun w F m ρc o f s hi v => ?_⟩;have d:=v x;rw[j]at d;unfold Rep at d;rw[l]at d;obtain⟨W,c,q,M⟩:=d;obtain⟨b',c',N,C,I,O,Q,_⟩:=hi.obj id _ l;rw[q]at I;cases I;refine⟨_,Gw f M (u:=.int .i64 (N.size:Int)) ?_,?_⟩;simp[Builtin.len_,run_underlying i,goInt,getObj,Sem.run,O];have:=eZ Q;rw[AbH]at this;rw[this];exact Bj _ _;grind;grind;grind;grind
theorem E8{w:World}{F:Nat->Prop}{m:Mp}{H:List Ob}{fz:List Bool}(hi:HI w F m H fz){t:Ty}{v:AV}{ys:List t.den}{K:List Nat}(h:GW H (.slice t) v=some (ys,K)){u:Value}(f:Rep w F m H v u):
  ∃ a cap,u = .slice a ys.length cap/\ys.length<=cap/\(ys≠[]->a.isSome=true)/\∃ news,rows (Dat w F t) ys news/\∀ ad,a=some ad->∀ j u,news[j]? = some u->w.cell? (ad.add j)=some u:=by
 change E9 H (.slice t) v=some (ys,K)at h;unfold E9 at h;split at h;rename_i t' d;simp only[Aa0,Aa4]at h;obtain⟨y,l,rfl,rfl⟩:=h;obtain⟨e,i⟩:=EB l;subst e;simp only at i;subst i;have C:Dat w F (.slice t) d [u]:=f;obtain⟨a,cap,k,q,D⟩:=C;simp only[AbR,AdG]at k;refine⟨a,cap,k,q,fun g => ?_,?_⟩;grind;by_cases g:d=[]
 subst g;exact⟨[],rfl,fun ad _ j u r=>by grind⟩;grind;rename_i t' d;simp only[Aa0,Aa4]at h;obtain⟨y,l,rfl,rfl⟩:=h;obtain⟨e,i⟩:=EB l;injection e with e;subst e;simp only at i;subst i;unfold Rep at f;obtain⟨a,cap,k,q,D⟩:=f.1;simp only[AbR,AdG]at k;refine⟨a,cap,k,q,fun g => ?_,?_⟩;grind;by_cases g:d=[]
 subst g;exact⟨[],rfl,fun ad _ j u r=>by grind⟩;grind;simp only[Aas,Aa4]at h;obtain⟨rfl,rfl⟩:=h;unfold Rep at f;exact⟨none,0,f,Aax _,fun h=>absurd rfl h,[],rfl,fun ad _ j u r=>by grind⟩;rename_i id;split at h;rename_i T e xs s;simp only[Aa0,Aa4]at h;obtain⟨y,l,rfl,rfl⟩:=h;obtain⟨o,i⟩:=EB l;injection o with o;subst o;simp only at i;subst i;unfold Rep at f;rw[s]at f;obtain⟨_,c⟩:=hi.obj id _ s;cases z:m id with
  |none=>rw[z]at f c;obtain⟨a,rfl⟩:=f;simp only at c;subst c;exact⟨a,0,rfl,Aax _,fun h=>absurd rfl h,[],rfl,fun ad _ j u r=>by grind⟩
  |some p=>obtain⟨b,cap⟩:=p;rw[z]at f c;obtain⟨vs,A,k,q,D,M,G,N⟩:=c;refine⟨_,cap,f,q,fun _=>rfl,A,G,fun ad h j u r => ?_⟩;cases h;rw[DG,Abo,ET k];grind
 grind;rename_i id off n;split at h;rename_i T e xs s;simp only[Aa0,Aa4]at h;obtain⟨y,l,rfl,rfl⟩:=h;obtain⟨o,i⟩:=EB l;injection o with o;subst o;simp only at i;subst i;unfold Rep at f;rw[s]at f;obtain⟨O,f⟩:=f;have B:(Iq off n xs).length=n:=by unfold Iq;grind
 obtain⟨_,c⟩:=hi.obj id _ s;cases z:m id with
  |none=>
   rw[z]at f c;obtain⟨a,rfl⟩:=f;simp only at c;subst c;have I:n=0:=by grind
   subst I;have hd:Iq off 0 ([]:List e.den)=[]:=by grind
   exact⟨a,0,by rw[B],by omega,fun h=>absurd hd h,[],by rw[hd];rfl,fun ad _ j u r=>by grind⟩
  |some p=>
   obtain⟨b,cap⟩:=p;rw[z]at f c;obtain⟨vs,A,k,q,D,M,G,N⟩:=c;obtain⟨a,rfl,Q⟩:=f;have L:=fun(x:e.den) cs (h:Dat w F e x cs)=>Dat.length e h;have J:=FF L n (Jr L off G);refine⟨a,cap-off,by rw[B],by omega,fun g => ?_,_,J,fun ad h j u r => ?_⟩;have I:0<n:=by grind
   grind;have I:0<n:=by grind
   rw[Q (by omega)]at h;cases h;rw[DG,ET k];grind
 grind;split at h;simp[cast]at h;grind;grind
end
section
variable {P:Program} {E:Env}
theorem BU.kill{w:World}{F:Nat->Prop}{m:Mp}{H:List Ob}{fz:List Bool}(hi:HI w F m H fz){j:Nat}(s:owned H fz j):BU w F m H fz w F m (H.set j .dead) fz:=by
 obtain⟨I,z,A,B⟩:=GJ s;have u:=BW z;have n:(H.set j .dead)[j]? = some .dead:=Bs u;have d:DT H (H.set j .dead) m m:=by
  intro i x g p;by_cases a:i=j;grind
  ·rcases DT.refl H m i x g p with h|⟨hd,J,K,L,_⟩
   all_goals grind
 have f:∀ i:Ix,owned (H.set j .dead) fz i->owned H fz i:=fun i q=>by by_cases a:i.id=j;obtain⟨o,M,_,hd⟩:=EK q;grind;exact(Dm (Bn a)).1 q
 refine⟨⟨rfl,rfl,rfl,Aax _,fun _ _ _=>rfl,fun _ h=>h,fun _ h=>.inl h,fun i b c r v=>.inl ⟨i,c,f i r,v⟩,d⟩,⟨?_,?_,?_,?_,?_,?_,hi.lt,hi.glo,by simpa using hi.len⟩⟩;intro id x g;by_cases a:id=j;subst a;rw[n]at g;cases g;trivial;rw[Bn a]at g;exact ObI.mono (fun _ _=>rfl) (fun _ h=>h) d (fun _ _ _ _ _ _=>rfl) (hi.obj id x g);intro i;by_cases a:i=j;subst a;exact C7.plain n rfl;exact C7.mono (fun _ _=>rfl) (fun _ h=>h) d (Bn a) (fun _ _=>rfl) (fun _ _ _ _ _ _ _=>rfl) (hi.row i);intro i T e t xs ver out l p x C D b c G;by_cases a:i=j;grind;rw[Bn a]at l;exact hi.rfz i T e t xs ver out l p x C ((Dk (by grind)).1 D) b c G;exact fun i k b c b' c' r v=>hi.sep i k b c b' c' (f i r) (f k v);exact fun i b c r=>hi.off i b c (f i r);intro i T t xs b c l p y;by_cases a:i=j;grind;rw[Bn a]at l;exact hi.froz i T t xs b c l p y
theorem Nu{H:List Ob}{fz:List Bool}{slot j:Nat}{o:Ob}(h:Bi H fz slot=true)(a:slot≠j):Bi (H.set j o) fz slot=true:=by unfold Bi at *;grind
theorem C4{w w':World}{ρc:Operand->Value}{o:Oper}{T:TypeId}{s x:Operand}{v n u:Value}(b:o.op = .call { callee:=.builtin .append,args:=#[s,x],argTypes:=#[T,T] })(d:ρc s=v)(e:ρc x=n)
  (a:(Builtin.append_ #[T,T] o.type #[v,n]).run P w = .ok u w'):(execOp ρc o).run P w = .ok (.value u) w':=by simp[execOp,b,resolve,invoke,builtin,d,e,a]
theorem I2{w:World}{T e ty:TypeId}{i:TypeInfo}(b:P.underlying T=some (.slice e))(hi:P.info? e=some i)(a:Option Addr){n cap:Nat}(d:n<=cap)(A:Option Addr)(c:Nat):
  (Builtin.append_ #[T,T] ty #[.slice a n cap,.slice A 0 c]).run P w = .ok (.slice a n cap) w:=by
 have f:(Builtin.firstCells i.size 0 (.slice A 0 c)).run P w = .ok #[] w:=by
  cases A with
   |none=>simp[Builtin.firstCells]
   |some ad=>simp[Builtin.firstCells,Go.loadCells,loadCellsFrom]
 cases a with
  |none=>simp[Builtin.append_,run_underlying b,run_sizeOf hi,Builtin.lenOf,d,f]
  |some ad=>simp[Builtin.append_,run_underlying b,run_sizeOf hi,Builtin.lenOf,d,f,storeCells]
structure Aan(w:World)(a:Option Addr)(n cap:Nat)(e:TypeId)(sz:Nat)(m:Nat)(old news:List Value)(v:Value)(w':World):Prop where
 os:w'.os=w.os
 tape:w'.tape=w.tape
 output:w'.output=w.output
 size:w.heap.size<=w'.heap.size
 keep:∀ k,k<w.heap.size->(∀ b,a=some ⟨b,0,none⟩->k≠b)->w'.heap[k]? = w.heap[k]?
 res:(m=0/\v = .slice a n cap/\w'=w)\/(∃ g cap' vs,v = .slice (some ⟨g,0,none⟩) (n+m) cap'/\w'.heap[g]? = some (.cells vs e (0,0))/\n+m<=cap'/\cap'<=maxLen/\vs.size=cap'*sz /\
   vs.toList.take ((n+m)*sz)=old++news/\(w.heap.size<=g\/a=some ⟨g,0,none⟩))
theorem TK{w:World}{T e ty:TypeId}{i:TypeInfo}{z:Value}(F:P.underlying T=some (.slice e))(hi:P.info? e=some i)(H:i.zero=some z)(t:z.cells.size=i.size)(x:0<i.size)
  {b n cap:Nat} {vs:Array Value} (I:w.heap[b]? = some (.cells vs e (0,0))) (G:n<=cap) (f:cap<=maxLen) (y:vs.size=cap*i.size) {A:Option Addr} {m c:Nat} {news:List Value} (J:news.length=m*i.size)
  (X:0<m->A.isSome=true) (d:∀ ad,A=some ad->∀ j u,news[j]? = some u->w.cell? (ad.add j)=some u) (K:∀ u∈news,u.oneCell'=true) (l:n+m<=4294967296) (B:i.bytes<=1024) :
  ∃ v w',(Builtin.append_ #[T,T] ty #[.slice (some ⟨b,0,none⟩) n cap,.slice A m c]).run P w = .ok v w'/\Aan w (some ⟨b,0,none⟩) n cap e i.size m (vs.toList.take (n*i.size)) news v w':=by
 have a:(n+m)*i.bytes<=140737488355328:=Abk (Aca l B) (by omega);have o:w.ownsRow 0 e i.size (.slice (some ⟨b,0,none⟩) n cap) n (vs.toList.take (n*i.size)):=by refine⟨?_,.inr ⟨b,cap,vs,rfl,Acq _,I,G,f,y,rfl⟩⟩;simp_all
 cases A with
  |none=>
   have L:m=0:=by grind
   subst L;exact⟨_,w,I2 F hi _ G none c,rfl,rfl,rfl,Aax _,fun _ _ _=>rfl,.inl ⟨rfl,rfl,rfl⟩⟩
  |some ad=>
   obtain⟨M,w',p,⟨N,q⟩,r,_,C⟩:=run_append_own_at (P:=P) w 0 T ty e i z i.size i.bytes F hi H rfl rfl t x _ n _ o ad m c news J (d ad rfl) K (by simp only[maxLen];omega) a (Acq _);refine⟨M,w',p,r.os,r.tape,r.output,r.size,fun k O Q=>r.block k O (by simp[Value.ownBlock];grind),.inr ?_⟩;rcases q with⟨rfl,Y⟩|⟨g,s,D,rfl,_,R,S,U,V,W⟩
   grind;refine⟨g,s,D,rfl,R,S,U,V,W,?_⟩;rcases C with h|h;simp only[Value.ownBlock,Aas]at h;grind;simp only[Value.ownBlock,Aas]at h;omega
theorem La{w:World}{T e ty:TypeId}{i:TypeInfo}{z:Value}(q:P.underlying T=some (.slice e))(hi:P.info? e=some i)(F:i.zero=some z)(r:z.cells.size=i.size)
  (a:Option Addr) {A:Option Addr} {m c:Nat} {news:List Value} (s:news.length=m*i.size)
  (G:0<m->A.isSome=true) (f:∀ ad,A=some ad->∀ j u,news[j]? = some u->w.cell? (ad.add j)=some u) (g:m<=4294967296) (t:i.bytes<=1024) :
  ∃ v w',(Builtin.append_ #[T,T] ty #[.slice a 0 0,.slice A m c]).run P w = .ok v w'/\w'.os=w.os/\w'.tape=w.tape/\w'.output=w.output/\w.heap.size<=w'.heap.size/\(∀ k,k<w.heap.size->w'.heap[k]? = w.heap[k]?) /\
   ((m=0/\v = .slice a 0 0)\/(∃ d vs,v = .slice (some ⟨w.heap.size,0,none⟩) m d/\w'.heap[w.heap.size]? = some (.cells vs e (0,0))/\m<=d/\d<=maxLen/\vs.size=d*i.size/\vs.toList.take (m*i.size)=news)):=by
 rcases Abz m with l|l;subst l;exact⟨_,w,I2 q hi a (Aax _) A c,rfl,rfl,rfl,Aax _,fun _ _=>rfl,.inl ⟨rfl,rfl⟩⟩;obtain⟨ad,rfl⟩:=Ab0.1 (G l);have x:m*i.bytes<=281474976710656:=Abk (Aca g t) (by omega);have n:=grownCap_ge w m 0 e;have o:=grownCap_le_maxLen w m 0 e (by simp only[maxLen];omega);have fin:∀ vs:Array Value,vs.toList=news++(Builtin.zeroCells z.cells (grownCap w m 0 e-m)).toList->vs.size=grownCap w m 0 e*i.size/\vs.toList.take (m*i.size)=news:=by intro vs y;refine⟨?_,?_⟩;rw[<- AbH,y,Aa3,s,AbH,size_zeroCells,r,<- AcF];grind;grind
 cases a with
  |none=>have p:=run_append_nil (P:=P) w T ty e i z q hi F ad m c news s (f ad rfl) l (by omega) x;obtain⟨B,C⟩:=fin (news.toArray++Builtin.zeroCells z.cells (grownCap w m 0 e-m)) (by simp);exact⟨_,_,p,rfl,rfl,rfl,by simp,fun k D=>heap_alloc_old w.drew _ k D,.inr ⟨_,_,rfl,heap_alloc_new w.drew _,n,o,B,C⟩⟩
  |some b=>
   have p:=run_append_grow (P:=P) w T ty e i z q hi F b 0 0 [] (by simp) (fun j v h=>by simp at h) ad m c news s (f ad rfl) (by omega) (by omega) (by rw[Abo];have:Builtin.nextslicecap m 0=m:=nextslicecap_zero l;grind)
   simp only[Abo]at p;obtain⟨B,C⟩:=fin (([]:List Value).toArray++news.toArray++Builtin.zeroCells z.cells (grownCap w m 0 e-m)) (by simp);exact⟨_,_,p,rfl,rfl,rfl,by simp,fun k D=>heap_alloc_old w.drew _ k D,.inr ⟨_,_,rfl,heap_alloc_new w.drew _,n,o,B,C⟩⟩
end
section
variable {P:Program} {E:Env}
theorem pF{H:List Ob}{fz:List Bool}{slot id:Nat}{T:TypeId}{t:Ty}{xs:List t.den}(b:Bi H fz slot=true)(a:H[id]? = some (.arr T t xs)):slot≠id:=by rintro rfl;rw[(CF b).1]at a;cases a
theorem G4{w:World}{F:Nat->Prop}{m:Mp}{H:List Ob}{fz:List Bool}(hi:HI w F m H fz){slot:Nat}(s:Bi H fz slot=true){T e ty:TypeId}{t:Ty}{i:TypeInfo}{z:Value}(K:P.underlying T=some (.slice e))
  (p:P.info? e=some i) (L:i.zero=some z) (q:z.cells.size=i.size) (M:i.size=t.size) (d:0<t.size) (r:i.bytes<=1024) {ys:List t.den} (k:ys.length<=4294967296) (a:Option Addr)
  {A:Option Addr} {c:Nat} {news:List Value} (N:ys≠[]->A.isSome=true) (b:rows (Dat w F t) ys news) (g:∀ ad,A=some ad->∀ j u,news[j]? = some u->w.cell? (ad.add j)=some u) :
  ∃ v w' l,(Builtin.append_ #[T,T] ty #[.slice a 0 0,.slice A ys.length c]).run P w = .ok v w'/\BU w F m H fz w' F l (H.set slot (.arr e t ys)) fz/\Rep w' F l (H.set slot (.arr e t ys)) (.own slot) v:=by
 have O:=fun(x:t.den) cs (h:Dat w F t x cs)=>Dat.length t h;have X:=B5 O b;obtain⟨v,w',n,y,B,C,D,G,Q⟩:=La (P:=P) (w:=w) (ty:=ty) K p L q a (A:=A) (m:=ys.length) (c:=c) (news:=news) (by grind) (fun h=>N (by grind)) g k r;rcases Q with⟨R,rfl⟩|⟨I,vs,rfl,S,U,V,Y,Z⟩
 have W:ys=[]:=AbQ R;subst W;have o:=BU.grow hi y B C D G;obtain⟨l,J,f⟩:=E4 o.2 s e d a;exact⟨_,w',l,n,o.trans J,f⟩;obtain⟨l,J,f⟩:=Gs hi s d S y B C D G U V (by grind) b (by grind);grind
theorem xE{w:World}{F:Nat->Prop}{m:Mp}{H:List Ob}{fz:List Bool}(hi:HI w F m H fz){slot:Nat}(J:Bi H fz slot=true){T e ty:TypeId}{t:Ty}{i:TypeInfo}{z:Value}(K:P.underlying T=some (.slice e))
  (n:P.info? e=some i) (L:i.zero=some z) (o:z.cells.size=i.size) (p:i.size=t.size) (k:0<t.size) (q:i.bytes<=1024) {xs ys:List t.den} (r:xs.length+ys.length<=4294967296) (y:ys≠[])
  {s:Value} (M:Rep w F m H (.clip t xs) s) {A:Option Addr} {c:Nat} {news:List Value} (N:ys≠[]->A.isSome=true) (d:rows (Dat w F t) ys news) (f:∀ ad,A=some ad->∀ j u,news[j]? = some u->w.cell? (ad.add j)=some u) :
  ∃ v w' C,(Builtin.append_ #[T,T] ty #[s,.slice A ys.length c]).run P w = .ok v w'/\BU w F m H fz w' F C (H.set slot (.arr e t (xs++ys))) fz/\Rep w' F C (H.set slot (.arr e t (xs++ys))) (.own slot) v:=by
 have O:=fun(x:t.den) cs (h:Dat w F t x cs)=>Dat.length t h;unfold Rep at M;obtain⟨⟨a0,Q,R,_,X⟩,a,rfl⟩:=M;simp only[AbR,Value.slice.injEq,AdG]at R;obtain⟨rfl, -, -⟩:=R;by_cases S:xs=[]
 subst S;exact G4 hi J K n L o p k q (by omega) a N d f;obtain⟨ad,l,rfl,hF,B,D⟩:=X S;obtain⟨U,rfl⟩:=Ab0.1 (N y);have Y:=B5 O d;have G:=B5 O B;have Z:0<ys.length:=List.length_pos_iff.2 y;have g:(xs.length+ys.length)*i.bytes<=140737488355328:=Abk (Aca r q) (by omega);have hr:=run_append_grow (P:=P) w T ty e i z K n L ad xs.length xs.length l (by grind) D U ys.length c news (by grind) (f U rfl) (by omega) (by omega) (growslice_fits (by omega) g);have hge:=grownCap_ge w (xs.length+ys.length) xs.length e;have I:=grownCap_le_maxLen w (xs.length+ys.length) xs.length e (by simp only[maxLen];omega);have V:(l++news).length=(xs.length+ys.length)*t.size:=by grind
 obtain⟨C,hg,W⟩:=Gs hi J (w':=w.drew.alloc (.cells (l.toArray++news.toArray++Builtin.zeroCells z.cells (grownCap w (xs.length+ys.length) xs.length e-(xs.length+ys.length))) e)) k (xs:=xs++ys) (heap_alloc_new w.drew _) rfl rfl rfl (by simp) (fun b hb=>heap_alloc_old w.drew _ b hb)
  (cap:=grownCap w (xs.length+ys.length) xs.length e) (by grind) I (by
   rw[Array.size_append,Array.size_append,Ab9,Ab9,size_zeroCells,o,p,G,Y,<- AcF,<- AcF];grind) (KR B d) (by
   grind)
 grind
theorem ZF{w:World}{F:Nat->Prop}{m:Mp}{H:List Ob}{fz:List Bool}(hi:HI w F m H fz){slot:Nat}(V:Bi H fz slot=true){T e ty:TypeId}{t:Ty}{i:TypeInfo}{z:Value}(K:P.underlying T=some (.slice e))
  (L:P.info? e=some i) (hz:i.zero=some z) (M:z.cells.size=i.size) (N:i.size=t.size) (s:0<t.size) (O:i.bytes<=1024) {id:Nat} {xs:List t.den} (Q:H[id]? = some (.arr e t xs)) (y:BO fz id=true)
  {b cap:Nat} (hm:m id=some (b,cap)) {n:Nat} (hn:n<=xs.length) {ys:List t.den} (B:n+ys.length<=4294967296)
  {A:Option Addr} {c:Nat} {news:List Value} (hA:ys≠[]->A.isSome=true) (f:rows (Dat w F t) ys news) (o:∀ ad,A=some ad->∀ j u,news[j]? = some u->w.cell? (ad.add j)=some u) :
  ∃ v w' r,(Builtin.append_ #[T,T] ty #[.slice (some ⟨b,0,none⟩) n cap,.slice A ys.length c]).run P w = .ok v w' /\
   BU w F m H fz w' F r ((H.set id .dead).set slot (.arr e t (xs.take n++ys))) fz/\Rep w' F r ((H.set id .dead).set slot (.arr e t (xs.take n++ys))) (.own slot) v:=by
 have C:=fun(x:t.den) cs (h:Dat w F t x cs)=>Dat.length t h;have hl:=B5 C f;obtain⟨_,D⟩:=hi.obj id _ Q;rw[hm]at D;obtain⟨vs,p,W,e2,X,e4,Y,e6⟩:=D;have R:=B5 C Y;have G:vs.toList.take (n*i.size)=p.take (n*t.size):=by rw[<- e6,AdL,N,AcG (by rw[R];exact AbY _ hn)]
 obtain⟨v,w',Z,d⟩:=TK (P:=P) (w:=w) (ty:=ty) K L hz M (by omega) W (n:=n) (by omega) X (by grind) (A:=A) (m:=ys.length) (c:=c) (news:=news) (by grind) (fun h=>hA (by grind)) o
  (fun u K=>Tx (fun x cs (h:Dat w F t x cs)=>Dat.JH t h) f u K) B O
 rw[G]at d;have I:(xs.take n++ys).length=n+ys.length:=by grind
 have S:=KR (FF C n Y) f;have q:∀ k,F k->w'.heap[k]? = w.heap[k]? := fun k ha=>by
  have h1:k≠b:=by rintro h;exact hi.off id b cap (DS Q y) hm (h▸ha)
  exact d.keep _ (hi.lt _ ha) (fun b' h=>by grind)
 have hlts:=BW (CF V).1;have U:((H.set id .dead).set slot (.arr e t (xs.take n++ys)))[slot]? = some (.arr e t (xs.take n++ys)):=Bs (by grind)
 have J:∀ (g a:Nat) (l:Array Value),(w.heap.size<=g\/g=b)->w'.heap[g]? = some (.cells l e (0,0))->n+ys.length<=a->a<=maxLen->l.size=a*t.size->l.toList.take ((n+ys.length)*t.size)=p.take (n*t.size)++news ->
   ∃ r,BU w F m H fz w' F r ((H.set id .dead).set slot (.arr e t (xs.take n++ys))) fz/\Rep w' F r ((H.set id .dead).set slot (.arr e t (xs.take n++ys))) (.own slot) (.slice (some ⟨g,0,none⟩) (n+ys.length) a):=by
  intro g a l hg q1 q2 q3 q4 q5
  have:=BU.move (w':=w') hi (DS Q y) hm V (ob:=.arr e t (xs.take n++ys)) trivial (b':=g) (c':=a) hg.symm d.os d.tape d.output d.size (fun k C hne=>d.keep k C (fun b' h=>by grind))
   (fun _=>⟨s,l,p.take (n*t.size)++news,q1,by omega,q3,q4,CC (fun x _ cs hx=>hx.mono q (fun _ h=>h) t) S,by
    grind⟩)
  refine⟨_,this,?_⟩
  unfold Rep
  rw[U,Ba,<- I]
  rfl
 rcases d.res with⟨h0,rfl,rfl⟩|⟨g,a,l,rfl,q1,q2,q3,q4,q5,q6⟩
 have hy:ys=[]:=AbQ h0;subst hy;obtain⟨r,hg,hrep⟩:=J b cap vs (.inr rfl) W (by omega) X e4 (by simp_all)
 grind;grind
theorem pN{w w':World}{ρc:Operand->Value}{o:Oper}{T d:TypeId}{s x:Operand}{v n u:Value}(b:o.op = .call { callee:=.builtin .append,args:=#[s,x],argTypes:=#[T,d] })(e:ρc s=v)(f:ρc x=n)
  (a:(Builtin.append_ #[T,d] o.type #[v,n]).run P w = .ok u w'):(execOp ρc o).run P w = .ok (.value u) w':=by simp[execOp,b,resolve,invoke,builtin,e,f,a]
theorem xC{w:World}{F:Nat->Prop}{m:Mp}{H:List Ob}{fz:List Bool}(hi:HI w F m H fz){slot:Nat}(J:Bi H fz slot=true){T r e ty:TypeId}{t:Ty}{i:TypeInfo}{z:Value}(K:P.underlying T=some (.slice e))
  (d:P.info? e=some i) (Q:i.zero=some z) (s:C1 (zeroCells t) z.cells.toList=true) (R:i.size=t.size) (c:0<t.size) (u:i.bytes<=1024) {S kx:IntKind} (L:P.underlying r=some (.int S)) {n:Nat} (f:n<=4294967296) :
  ∃ v w' g,(Builtin.append_ #[T,r] ty #[.slice none 0 0,.int kx n]).run P w = .ok v w'/\BU w F m H fz w' F g (H.set slot (.arr e t (List.replicate n t.zero))) fz/\Rep w' F g (H.set slot (.arr e t (List.replicate n t.zero))) (.own slot) v:=by
 have j:=Ca (w:=w) (F:=F) t _ s;have y:z.cells.size=t.size:=by rw[<- AbH];exact Dat.length t j
 have M:IntKind.i64.wrap (n:Int)=n:=IntWalk.i64_in _ (by omega);have U:(n:Int)*(i.bytes:Int)<=281474976710656:=by have:n*i.bytes<=4294967296*1024:=Aca f u;omega
 rcases Abz n with A|A;subst A;obtain⟨g,V,l⟩:=E4 (w:=w) hi J e c none;refine⟨.slice none 0 0,w,g,?_,by grind,by grind⟩;have B:IntKind.i64.wrap 0=0:=M;simp[Builtin.append_,run_underlying K,run_underlying L,sizeOf,typeInfo,d,asInt,asIntOf,B];have W:=grownCap_ge w n 0 e;have C:=grownCap_le_maxLen w n 0 e (by simp only[maxLen];omega);have a:=Gd (w:=w) (F:=F) j n;have D:=B5 (fun x cs (h:Dat w F t x cs)=>Dat.length t h) a;rw[Aba]at D;have q:∀ k,(Builtin.zeroCells z.cells k).toList=(List.replicate k z.cells.toList).flatten:=D2 z.cells;have N:(Builtin.append_ #[T,r] ty #[.slice none 0 0,.int kx n]).run P w = .ok (.slice (some ⟨w.heap.size,0,none⟩) n (grownCap w n 0 e)) (w.drew.alloc (.cells (Builtin.zeroCells z.cells n++Builtin.zeroCells z.cells (grownCap w n 0 e-n)) e)):=by
  have X:n≠0:=by omega
  have G:¬ ((n:Int)<0):=by omega
  have I:¬ (281474976710656<(n:Int)*(i.bytes:Int)):=by omega
  have o:¬ (9223372036854775807<(n:Int)):=by omega
  have p:¬ (281474976710656<Builtin.nextslicecap n 0*i.bytes):=by rw[nextslicecap_zero A];omega
  have O:¬ (i.size=0):=by omega
  simp[Builtin.append_,run_underlying K,run_underlying L,sizeOf,typeInfo,zeroValue,d,Q,asInt,asIntOf,M,X,G,I,o,p,Question.forced,run_firstCells_none,newRow,grownCap];grind
 obtain⟨g,V,l⟩:=Gs hi J (w':=w.drew.alloc (.cells (Builtin.zeroCells z.cells n++Builtin.zeroCells z.cells (grownCap w n 0 e-n)) e)) c (xs:=List.replicate n t.zero) (heap_alloc_new w.drew _) rfl rfl rfl (by simp) (fun b Y=>heap_alloc_old w.drew _ b Y)
  (cap:=grownCap w n 0 e) (by grind) C (by
   rw[Array.size_append,size_zeroCells,size_zeroCells,y,<- AcF];grind) a (by
   grind)
 grind
end
section
variable {P:Program}
theorem R4{H:List Ob}{fz:List Bool}{ids:List Nat}{i:Ix}(h:owned H (BN ids fz) i):owned H fz i:=by
 cases i with
  |r i k=>simp only[owned]at *;split at h;rw[Bm]at h;grind;omega
  |o i=>
   simp only[owned,Cs]at *;cases a:H[i]? with
    |none=>grind
    |some o=>
     rw[a]at h;cases o with
      |free=>omega
      |dead=>omega
      |box cs=>trivial
      |map k v b=>trivial
      |prs T t c=>trivial
      |rows T e t xs ver out=>simp only at h |-;rw[Bm]at h;grind
      |arr T t xs=>simp only at h |-;rw[Bm]at h;grind
theorem kK{w w':World}{F:Nat->Prop}{m:Mp}{H:List Ob}{fz:List Bool}(hi:HI w F m H fz){id:Nat}{e:TypeId}{t:Ty}{xs:List t.den}(z:H[id]? = some (.arr e t xs))(A:BO fz id=true)
  (os:w'.os=w.os) (tape:w'.tape=w.tape) (output:w'.output=w.output) (size:w.heap.size<=w'.heap.size) (G:Nat->Prop)
  (M:∀ k,G k->k<w'.heap.size/\((∃ c,m id=some (k,c))\/w.heap.size<=k)) (X:∀ b c,m id=some (b,c)->G b)
  (d:∀ k,k<w.heap.size->(∀ c,m id≠some (k,c))->w'.heap[k]? = w.heap[k]?)
  (N:ObI w' (fun k=>F k\/G k) m H (.arr e t xs) (m id)):BU w F m H fz w' (fun k=>F k\/G k) m H (BN [id] fz):=by
 have g:=DS z A;have a:∀ i:Ix,owned H (BN [id] fz) i->owned H fz i/\i≠.o id:=by
  intro i h;refine⟨R4 h,?_⟩;rintro rfl;simp only[owned,Cs]at h;rw[z]at h;simp only at h;rw[Bm]at h;have y:id<fz.length:=by rw[<- hi.len];grind
  grind
 have f:∀ k,F k->w'.heap[k]? = w.heap[k]? := fun k K=>d _ (hi.lt _ K) (fun c B=>hi.off id _ c g B K);refine⟨⟨os,tape,output,size,fun b C l=>d b C (fun c B=>l id c g B),fun _ h=>.inl h,?_,fun i b c q r=>.inl ⟨i,c,(a i q).1,r⟩,DT.refl H m⟩,⟨?_,?_,?_,?_,?_,?_,?_,hi.glo.mono f (fun _ h=>.inl h),by rw[EG];exact hi.len⟩⟩;grind;intro j o L;by_cases D:j=id;grind;exact ObI.mono f (fun _ h=>.inl h) (DT.refl H m) (fun p hd b c y s=>d b s (fun c' n=>hi.ne g n L p hd y D rfl)) (hi.obj j o L);intro i;by_cases l:i=id;subst l;exact C7.plain z rfl;exact C7.mono f (fun _ h=>.inl h) (DT.refl H m) rfl (fun _ _=>rfl) (fun x E I b c y s=>d b s (fun c' n=>hi.neX g n I y (by rintro rfl;exact l E.symm) rfl)) (hi.row i);intro i O Q t' u ver out v p x E R b c S;have l:i≠id:=by grind
 rw[Bm]at p;simp only[Abt,Aau,Aat,AcJ]at p;rcases p with p|⟨p,_⟩
 exact .inl (hi.rfz i O Q t' u ver out v p x E R b c S);omega;exact fun i j b c b' c' q r=>hi.sep i j b c b' c' (a i q).1 (a j r).1;rintro i b c q r (U|V);exact hi.off i b c (a i q).1 r U;rcases(M b V).2 with⟨c',n⟩|h;exact hi.sep i id b c b c' (a i q).1 g (a i q).2 r n rfl;have:=hi.KX (a i q).1 r;omega;intro i T t' u b c v p J;by_cases W:i=id;grind;refine .inl (hi.froz i T t' u b c v ?_ J);rw[Bm]at p;grind;rintro b (h|h);exact AcI (hi.lt b h) size;grind
theorem AQR{w':World}{f:Nat->Prop}{m:Mp}{H:List Ob}{g cap:Nat}{vs:Array Value}{e:TypeId}{t:Ty}{c:List t.den}{a:List Value}(h:w'.heap[g]? = some (.cells vs e (0,0)))(l:vs.toList.take a.length=a)
  (b:rows (Dat w' f t) c a) (hle:c.length<=cap) (i:f g) {n:Nat} (k:n=c.length):Rep w' f m H (.data (.slice t) c) (.slice (some ⟨g,0,none⟩) n cap):=by
 subst k;unfold Rep;show Dat w' f (.slice t) c [_];refine⟨some ⟨g,0,none⟩,cap,rfl,hle,fun _=>⟨⟨g,0,none⟩,a,rfl,i,b,fun j u o => ?_⟩⟩;rw[Addr.add_lit,Abo];have d:vs.toList[j]? = some u:=by grind
 rw[Abw]at d;simp[World.cell?,h,d]
theorem xD{w:World}{F:Nat->Prop}{m:Mp}{H:List Ob}{fz:List Bool}(hi:HI w F m H fz){T e ty:TypeId}{t:Ty}{i:TypeInfo}{z:Value}(O:P.underlying T=some (.slice e))
  (E:P.info? e=some i) (hz:i.zero=some z) (hzs:z.cells.size=i.size) (hsz:i.size=t.size) (I:0<t.size) (Q:i.bytes<=1024) {id:Nat} {xs:List t.den} (R:H[id]? = some (.arr e t xs)) (K:BO fz id=true)
  {ys:List t.den} (S:xs.length+ys.length<=4294967296)
  {A:Option Addr} {c:Nat} {news:List Value} (hA:ys≠[]->A.isSome=true) (l:rows (Dat w F t) ys news) (o:∀ ad,A=some ad->∀ j u,news[j]? = some u->w.cell? (ad.add j)=some u)
  {s:Value} (L:Rep w F m H (.own id) s) :
  ∃ v w' F',(Builtin.append_ #[T,T] ty #[s,.slice A ys.length c]).run P w = .ok v w'/\BU w F m H fz w' F' m H (BN [id] fz)/\Rep w' F' m H (.data (.slice t) (xs++ys)) v:=by
 have y:=fun(x:t.den) cs (h:Dat w F t x cs)=>Dat.length t h;have hl:=B5 y l;have hid:=DS R K;unfold Rep at L;rw[R]at L;have hob:=hi.obj id _ R;obtain⟨_,n⟩:=hob;cases U:m id with
  |none=>
   rw[U]at L n;obtain⟨a,rfl⟩:=L;simp only at n;subst n;obtain⟨v,w',V,h1,h2,h3,h4,W,h6⟩:=La (P:=P) (w:=w) (ty:=ty) O E hz hzs a (A:=A) (m:=ys.length) (c:=c) (news:=news) (by grind) (fun h=>hA (by grind)) o (by omega) Q;have hg:=kK (w':=w') hi R K h1 h2 h3 h4 (fun k=>k=w.heap.size/\k<w'.heap.size) (fun k y=>⟨y.2,.inr (Ac5 y.1.symm)⟩) (fun b c h=>by grind) (fun k y _=>W k y) (by rw[U];exact⟨I,rfl⟩)
   refine⟨v,w',_,V,hg,?_⟩;rw[AbW];rcases h6 with⟨h0,rfl⟩|⟨r,vs,rfl,q1,q2,q3,q4,q5⟩
   have hy:ys=[]:=AbQ h0;subst hy;unfold Rep;exact⟨a,0,rfl,Aax _,fun h=>absurd rfl h⟩;have d:∀ k,F k->w'.heap[k]? = w.heap[k]? := fun k ha=>W _ (hi.lt _ ha);exact AQR q1 (by grind) (CC (fun x _ cs X=>X.mono d (fun _ h=>.inl h) t) l) q2 (.inr ⟨rfl,CR q1⟩) rfl
  |some p=>
   obtain⟨b,cap⟩:=p;rw[U]at L n;simp only[By]at L;obtain⟨vs,f,J,e2,e3,e4,e5,e6⟩:=n;subst L;have hrl:=B5 y e5;have Y:b<w.heap.size:=CR J;have hG:∀ (w':World),w.heap.size<=w'.heap.size->∀ k,(k=b\/(k=w.heap.size/\k<w'.heap.size))->k<w'.heap.size/\((∃ c,m id=some (k,c))\/w.heap.size<=k):=by grind
   have B:∀ (w':World) (C:Array Value),w'.os=w.os->w'.tape=w.tape->w'.output=w.output->w.heap.size<=w'.heap.size->(∀ k,k<w.heap.size->k≠b->w'.heap[k]? = w.heap[k]?)->w'.heap[b]? = some (.cells C e (0,0))->C.size=cap*t.size->C.toList.take f.length=f ->
     (∀ k,F k->w'.heap[k]? = w.heap[k]?)/\BU w F m H fz w' (fun k=>F k\/(k=b\/(k=w.heap.size/\k<w'.heap.size))) m H (BN [id] fz):=by
    intro w' C h1 h2 h3 h4 W h6 h7 h8
    have d:∀ k,F k->w'.heap[k]? = w.heap[k]? := fun k ha=>W _ (hi.lt _ ha) (by rintro h;exact hi.off id b cap hid U (h▸ha))
    refine⟨d,kK hi R K h1 h2 h3 h4 _ (hG w' h4) (fun b' c' h=>by grind) (fun k y hne=>W k y (by grind)) ?_⟩
    rw[U]
    exact⟨I,C,f,h6,e2,e3,h7,CC (fun x _ cs X=>X.mono d (fun _ h=>.inl h) t) e5,h8⟩
   have hrr:=KR e5 l;have hlen:(f++news).length=(xs.length+ys.length)*t.size:=by grind
   have fin:∀ (w':World) (g r:Nat) (M:Array Value),(∀ k,F k->w'.heap[k]? = w.heap[k]?)->(g=b\/(g=w.heap.size/\g<w'.heap.size))->w'.heap[g]? = some (.cells M e (0,0))->xs.length+ys.length<=r->M.toList.take (f++news).length=f++news ->
     Rep w' (fun k=>F k\/(k=b\/(k=w.heap.size/\k<w'.heap.size))) m H (.data (.slice t) (xs++ys)) (.slice (some ⟨g,0,none⟩) (xs.length+ys.length) r):=by
    intro w' g r M d hg hgv hle htk
    exact AQR hgv htk (CC (fun x _ cs X=>X.mono d (fun _ h=>.inl h) t) hrr) (by grind) (.inr hg) (by simp)
   cases A with
    |none=>
     have hy:ys=[]:=by grind
     subst hy;obtain⟨Z,D⟩:=B w vs rfl rfl rfl (Aax _) (fun _ _ _=>rfl) J e4 e6;have hn0:news=[]:=AbQ (by grind);subst hn0;exact⟨_,w,_,I2 O E _ e2 none c,D,fin w b cap vs Z (.inl rfl) J (by omega) (by grind)⟩
    |some ad=>
     have hone:∀ u∈news,u.oneCell'=true:=fun u O=>Tx (fun x cs (h:Dat w F t x cs)=>Dat.JH t h) l u O;by_cases q:xs.length+ys.length<=cap;have hnl:news.length=ys.length*i.size:=by grind
     have hsum:xs.length*i.size+news.length<=vs.size:=by rw[hnl,e4,hsz,<- AcF];exact AbY _ q
     have hr:=run_append_room (P:=P) w T ty e i O E b xs.length cap vs J ad ys.length c news hnl (o ad rfl) hone q hsum;have hrow:vs.toList.take (xs.length*i.size)=f:=by grind
     rw[hrow]at hr;obtain⟨Z,D⟩:=B (w.setRow b (f++news++vs.toList.drop (xs.length*i.size+news.length)).toArray) (f++news++vs.toList.drop (xs.length*i.size+news.length)).toArray rfl rfl rfl (by simp) (fun k _ y=>setRow_other w b k _ y) (setRow_heap w b vs (f++news++vs.toList.drop (xs.length*i.size+news.length)).toArray e _ J) (by grind) (by simp)
     exact⟨_,_,_,hr,D,fin _ b cap _ Z (.inl rfl) (setRow_heap w b vs _ e _ J) q (by grind)⟩;have G:(xs.length+ys.length)*i.bytes<=140737488355328:=Abk (Aca S Q) (by omega);have N:∀ j u,f[j]? = some u->w.cell? ((⟨b,0,none⟩:Addr).add j)=some u:=fun j u hj=>by
      rw[Addr.add_lit,Abo];have hj':vs.toList[j]? = some u:=by grind
      rw[Abw]at hj';simp[World.cell?,J,hj']
     have hr:=run_append_grow (P:=P) w T ty e i z O E hz ⟨b,0,none⟩ xs.length cap f (by grind) N ad ys.length c news (by grind) (o ad rfl) (by omega) (by omega) (growslice_fits (by omega) G);obtain⟨Z,D⟩:=B (w.drew.alloc (.cells (f.toArray++news.toArray++Builtin.zeroCells z.cells (grownCap w (xs.length+ys.length) cap e-(xs.length+ys.length))) e)) vs rfl rfl rfl (by simp) (fun k y _=>heap_alloc_old w.drew _ k y) ((heap_alloc_old w.drew _ b Y).trans J) e4 e6;have hge:=grownCap_ge w (xs.length+ys.length) cap e;exact⟨_,_,_,hr,D,fin _ w.heap.size _ _ Z (.inr ⟨rfl,CR (heap_alloc_new w.drew _)⟩) (heap_alloc_new w.drew _) hge (by grind)⟩
end
section
variable {P:Program}
theorem AXT{w:World}{F:Nat->Prop}{m:Mp}{H:List Ob}{fz:List Bool}(hi:HI w F m H fz){id:Nat}{T:TypeId}{f:Nat}{g:List Int}(i:H[id]? = some (.prs T f g)){v:Value}(e:Rep w F m H (.own id) v):
  ∃ A c,v = .slice A g.length c/\(g≠[]->A.isSome=true)/\∃ us,BG w F m H (Ha f g) us/\(∀ u∈us,u.oneCell'=true)/\∀ ad,A=some ad->∀ j u,us[j]? = some u->w.cell? (ad.add j)=some u:=by
 have d:=hi.obj id _ i;unfold Rep at e;rw[i]at e;cases k:m id with
  |none=>rw[k]at e d;obtain⟨a,rfl⟩:=e;have d:g=[]:=d;subst d;exact⟨a,0,rfl,fun h=>absurd rfl h,[],by show BG w F m H [] [];unfold BG;rfl,(by simp),fun _ _ j u h=>by simp at h⟩
  |some p=>obtain⟨b,cap⟩:=p;rw[k]at e d;simp only[By]at e;obtain⟨vs,us,l,q,r,s,n,o,t⟩:=d;refine⟨some ⟨b,0,none⟩,cap,e,fun _=>rfl,us,n,o,fun ad h j u x => ?_⟩;cases h;rw[DG,ET l];grind
theorem ND{w:World}{F:Nat->Prop}{m:Mp}{H:List Ob}{fz:List Bool}(hi:HI w F m H fz){slot:Nat}(r:Bi H fz slot=true){T e ty:TypeId}{i:TypeInfo}{z:Value}(G:P.underlying T=some (.slice e))
  (p:P.info? e=some i) (I:i.zero=some z) (J:z.cells.size=1) (K:i.size=1) (q:i.bytes<=1024) {b:Nat} {ys:List Int} (g:ys.length<=4294967296) (a:Option Addr)
  {A:Option Addr} {c:Nat} {news:List Value} (L:ys≠[]->A.isSome=true) (s:BG w F m H (Ha b ys) news) (k:∀ u∈news,u.oneCell'=true) (f:∀ ad,A=some ad->∀ j u,news[j]? = some u->w.cell? (ad.add j)=some u) :
  ∃ v w' l,(Builtin.append_ #[T,T] ty #[.slice a 0 0,.slice A ys.length c]).run P w = .ok v w'/\BU w F m H fz w' F l (H.set slot (.prs e b ys)) fz/\Rep w' F l (H.set slot (.prs e b ys)) (.own slot) v:=by
 have U:news.length=ys.length:=by rw[Be s,cr]
 obtain⟨v,w',n,t,x,y,B,C,M⟩:=La (P:=P) (w:=w) (ty:=ty) G p I (by omega) a (A:=A) (m:=ys.length) (c:=c) (news:=news) (by grind) (fun h=>L (by grind)) f g q;rcases M with⟨N,rfl⟩|⟨D,vs,rfl,O,Q,R,V,W⟩
 have S:ys=[]:=AbQ N;subst S;have o:=BU.grow hi t x y B C;obtain⟨l,E,d⟩:=g9 o.2 r e b a;exact⟨_,w',l,n,o.trans E,d⟩;obtain⟨l,E,d⟩:=VC hi r O t x y B C Q R (by grind) s k (by grind);grind
theorem Zf{w:World}{F:Nat->Prop}{m:Mp}{H:List Ob}{fz:List Bool}(hi:HI w F m H fz){slot:Nat}(L:Bi H fz slot=true){T e ty:TypeId}{i:TypeInfo}{z:Value}(M:P.underlying T=some (.slice e))
  (D:P.info? e=some i) (Y:i.zero=some z) (Z:z.cells.size=1) (hsz:i.size=1) (E:i.bytes<=1024) {d id:Nat} {xs:List Int} (N:H[id]? = some (.prs e d xs))
  {b cap:Nat} (hm:m id=some (b,cap)) {ys:List Int} (s:xs.length+ys.length<=4294967296)
  {A:Option Addr} {c:Nat} {news:List Value} (hA:ys≠[]->A.isSome=true) (O:BG w F m H (Ha d ys) news) (t:∀ u∈news,u.oneCell'=true) (o:∀ ad,A=some ad->∀ j u,news[j]? = some u->w.cell? (ad.add j)=some u) :
  ∃ v w' r,(Builtin.append_ #[T,T] ty #[.slice (some ⟨b,0,none⟩) xs.length cap,.slice A ys.length c]).run P w = .ok v w' /\
   BU w F m H fz w' F r ((H.set id .dead).set slot (.prs e d (xs++ys))) fz/\Rep w' F r ((H.set id .dead).set slot (.prs e d (xs++ys))) (.own slot) v:=by
 have hl:news.length=ys.length:=by rw[Be O,cr]
 have x:=hi.obj id _ N;rw[hm]at x;obtain⟨vs,us,e1,e2,e3,e4,Q,e6,e7⟩:=x;have hul:us.length=xs.length:=by rw[Be Q,cr]
 have y:vs.toList.take (xs.length*i.size)=us:=by grind
 obtain⟨v,w',R,f⟩:=TK (P:=P) (w:=w) (ty:=ty) M D Y (by omega) (by omega) e1 (n:=xs.length) e2 e3 (by grind) (A:=A) (m:=ys.length) (c:=c) (news:=news) (by grind) (fun h=>hA (by grind)) o
  t s E
 rw[y]at f;have B:(xs++ys).length=xs.length+ys.length:=Aa3 ..;have G:BG w F m H (Ha d (xs++ys)) (us++news):=by rw[ANC];exact Is Q O
 have p:∀ u∈us++news,u.oneCell'=true:=fun u M=>by grind
 have S:=BW (CF L).1;have I:((H.set id .dead).set slot (.prs e d (xs++ys)))[slot]? = some (.prs e d (xs++ys)):=Bs (by grind);have hnl:(us++news).length=xs.length+ys.length:=by grind
 have C:∀ (g a:Nat) (l:Array Value),(w.heap.size<=g\/g=b)->w'.heap[g]? = some (.cells l e (0,0))->xs.length+ys.length<=a->a<=maxLen->l.size=a->l.toList.take (xs.length+ys.length)=us++news ->
   ∃ r,BU w F m H fz w' F r ((H.set id .dead).set slot (.prs e d (xs++ys))) fz/\Rep w' F r ((H.set id .dead).set slot (.prs e d (xs++ys))) (.own slot) (.slice (some ⟨g,0,none⟩) (xs.length+ys.length) a):=by
  intro g a l U J V K W q5
  have:=BU.move (w':=w') hi (j8 N) hm L (ob:=.prs e d (xs++ys)) trivial (b':=g) (c':=a) U.symm f.os f.tape f.output f.size (fun k hk hne=>f.keep k hk (fun b' h=>by grind))
   (fun q=>⟨l,us++news,J,by omega,K,W,xK q G,p,by grind⟩)
  refine⟨_,this,?_⟩
  unfold Rep
  rw[I,Ba,<- B]
  rfl
 rcases f.res with⟨h0,rfl,rfl⟩|⟨g,a,l,rfl,J,V,K,W,q5,q6⟩
 grind;obtain⟨r,U,X⟩:=C g a l (by grind) J V K (by grind) (by grind);grind
end
section
variable {P:Program}
theorem ACz{w:World}{F:Nat->Prop}{m:Mp}{H:List Ob}{fz:List Bool}(hi:HI w F m H fz){T e ty:TypeId}{t:Ty}{i:TypeInfo}{z:Value}(hu:P.underlying T=some (.slice e))
  (V:P.info? e=some i) (hz:i.zero=some z) (W:z.cells.size=i.size) (hsz:i.size=t.size) (B:0<t.size) (X:i.bytes<=1024) {id k ver:Nat} {o:RK} {xs:List (List t.den)} (Y:H[id]? = some (.rows o e t xs ver none)) (Z:fz.getD id false=false)
  {v:Value} (hv:Rep w F m H (.rowp id k ver) v) {ys:List t.den} (N:(A9 xs k []).length+ys.length<=4294967296)
  {A:Option Addr} {c:Nat} {news:List Value} (hA:ys≠[]->A.isSome=true) (q:rows (Dat w F t) ys news) (G:∀ ad,A=some ad->∀ j u,news[j]? = some u->w.cell? (ad.add j)=some u) :
  ∃ O w' J,(Builtin.append_ #[T,T] ty #[v,.slice A ys.length c]).run P w = .ok O w'/\BU w F m H fz w' F J (H.set id (.rows o e t (o.put xs k (B2 (A9 xs k []) ys)) (ver+1) (some k))) fz /\
   Rep w' F J (H.set id (.rows o e t (o.put xs k (B2 (A9 xs k []) ys)) (ver+1) (some k))) (.rowp id k (ver+1)) O:=by
 have hk:=fun(x:t.den) cs (h:Dat w F t x cs)=>Dat.length t h
 have hl:=B5 hk q
 unfold Rep at hv
 rw[Y]at hv
 obtain⟨_,_,h7⟩:=hv
 obtain⟨s,Q,hzz,hnx,C,K,S,hle⟩:∃ (s:List t.den) (Q:Option (Nat×Nat)),A9 xs k []=s/\(xs[k]? = some s\/(o.LL=false/\k=xs.length))/\By (some (.arr 0 t s)) Q v/\ObI w F m H (.arr e t s) Q /\
   (∀ b c,Q=some (b,c)->owned H fz (.r id k)/\m (.r id k)=some (b,c))/\k<=xs.length:=by
  rcases h7 rfl with⟨s,E,R⟩|⟨h0,E,R⟩
  ·exact⟨s,m (.r id k),by unfold A9;grind,.inl E,R,(hi.row id o e t xs ver none Y k s E).1,fun b c h=>⟨XS Y Z (Jy E),h⟩,Acj (Jy E)⟩
  ·refine⟨[],none,?_,.inr ⟨h0,E⟩,⟨_,R⟩,⟨B,rfl⟩,(fun b c h=>by cases h),Ac5 E⟩
   unfold A9
   grind
 rw[hzz]at N |-
 have hput:∀ y:List t.den,(o.put xs k y)[k]? = some y/\(∀ L,L≠k->(o.put xs k y)[L]? = xs[L]?)/\(o.LL=true->xs.length=(o.put xs k y).length)/\(xs.length=(o.put xs k y).length\/(o.LL=false/\k=xs.length/\(o.put xs k y).length=xs.length+1)):=by
  intro y
  have hlt:k<xs.length->((xs.set k y)[k]? = some y/\(∀ L,L≠k->(xs.set k y)[L]? = xs[L]?)/\(o.LL=true->xs.length=(xs.set k y).length)/\(xs.length=(xs.set k y).length\/(o.LL=false/\k=xs.length/\(xs.set k y).length=xs.length+1))):=fun h=>
   ⟨Adl h,fun L hk'=>Ac1 (Acd hk'),fun _=>List.length_set.symm,.inl List.length_set.symm⟩
  cases o with
  |arr T=>exact hlt (by rcases hnx with h|⟨h,_⟩;exact Jy h;cases h)
  |map j ks=>
   simp only[RK.put,Oo]
   grind
 have fin:∀ (w':World) (l:Option (Nat×Nat)) (O:Value),(∀ b c,l=some (b,c)->(∃ c0,Q=some (b,c0))\/w.heap.size<=b)->w'.os=w.os->w'.tape=w.tape->w'.output=w.output->w.heap.size<=w'.heap.size ->
   (∀ b,b<w.heap.size->(∀ c,Q≠some (b,c))->w'.heap[b]? = w.heap[b]?)->((∀ {d:t.den} {cs:List Value},Dat w F t d cs->Dat w' F t d cs)->ObI w' F m H (.arr e t (s++ys)) l)->By (some (.arr e t (s++ys))) l O ->
   ∃ J,BU w F m H fz w' F J (H.set id (.rows o e t (o.put xs k (B2 s ys)) (ver+1) (some k))) fz/\Rep w' F J (H.set id (.rows o e t (o.put xs k (B2 s ys)) (ver+1) (some k))) (.rowp id k (ver+1)) O:=by
  intro w' l O hl' E R h3 h4 h5 h6 h8
  obtain⟨p1,p2,p3,p4⟩:=hput (B2 s ys)
  have hg:=BU.Aae hi Y Z l p1 p2 p3 (fun b cap _ h=>by
    rcases p4 with p4|⟨p4,p5,p6⟩
    ·rw[<- p4];exact h.out (by grind)
    ·cases o with
     |arr T=>cases p4
     |map j ks=>
      obtain⟨ms,U,e1,e2,e3,e4,_⟩:=h
      have e4:=e4.resolve_right fun h=>by cases h.1
      exact⟨ms,U,e1,e2,e3,.inr ⟨by grind,by omega⟩,fun L h=>by grind⟩)
   (fun ha hx=>AbQ (by grind))
   (fun b c h=>(hl' b c h).imp (fun ⟨c0,h⟩=>⟨c0,S b c0 h⟩) (fun h=>h)) E R h3 h4 (fun b hb hn=>h5 b hb fun c hc=>(hn c (S b c hc).1 (S b c hc).2)) h6
  refine⟨_,hg,?_⟩
  unfold Rep
  rw[Bs (BW Y),Ja]
  exact⟨h8.one,Aax _,fun _=>.inl ⟨s++ys,p1,h8⟩⟩
 cases hm:Q with
 |none=>
  rw[hm]at K C
  obtain⟨a,rfl⟩:=C
  obtain⟨_,hzn⟩:=K
  simp only at hzn
  subst hzn
  obtain⟨O,w',hrun,E,R,h3,h4,h5,h6⟩:=La (P:=P) (w:=w) (ty:=ty) hu V hz W a (A:=A) (m:=ys.length) (c:=c) (news:=news) (by grind) (fun h=>hA (by grind)) G (by omega) X
  rcases h6 with⟨h0,rfl⟩|⟨D,vs,rfl,q1,q2,q3,q4,q5⟩
  ·have hy:ys=[]:=AbQ h0
   subst hy
   obtain⟨J,hg,hr⟩:=fin w' none _ (fun b c h=>by cases h) E R h3 h4 (fun b hb _=>h5 b hb) (fun _=>⟨B,rfl⟩) ⟨a,rfl⟩
   grind
  ·obtain⟨J,hg,hr⟩:=fin w' (some (w.heap.size,D)) _ (fun b c h=>by grind) E R h3 h4 (fun b hb _=>h5 b hb)
    (fun hd=>⟨B,vs,news,q1,q2,q3,by grind,CC (fun x _ cs hx=>hd hx) q,by grind⟩) rfl
   grind
 |some p=>
  obtain⟨b,cap⟩:=p
  rw[hm]at K C
  obtain⟨_,vs,M,e1,e2,e3,e4,e5,e6⟩:=K
  simp only[By]at C
  subst C
  have hrl:=B5 hk e5
  obtain⟨O,w',hrun,f⟩:=TK (P:=P) (w:=w) (ty:=ty) hu V hz W (by omega) e1 (n:=s.length) e2 e3 (by grind) (A:=A) (m:=ys.length) (c:=c) (news:=news) (by grind) (fun h=>hA (by grind)) G
   (fun u hu=>Tx (fun x cs (h:Dat w F t x cs)=>Dat.JH t h) q u hu) N X
  have hold:vs.toList.take (s.length*i.size)=M:=by grind
  rw[hold]at f
  have hr0:=KR e5 q
  have hlen:(M++news).length=(s.length+ys.length)*t.size:=by grind
  have I:∀ b',b'<w.heap.size->(∀ c,Q≠some (b',c))->w'.heap[b']? = w.heap[b']? := fun b' hb' hn=>f.keep b' hb' fun b0 h=>by
   grind
  rcases f.res with⟨h0,rfl,rfl⟩|⟨g,D,vs',rfl,q1,q2,q3,q4,q5,q6⟩
  ·have hy:ys=[]:=AbQ h0
   subst hy
   obtain⟨J,hg,hr⟩:=fin w' (some (b,cap)) _ (fun b c h=>by grind) f.os f.tape f.output f.size I
    (fun _=>⟨B,vs,M,e1,by grind,e3,e4,by grind,e6⟩) (by rw[Abd];rfl)
   grind
  ·obtain⟨J,hg,hr⟩:=fin w' (some (g,D)) (.slice (some ⟨g,0,none⟩) (s.length+ys.length) D) (fun b' c h=>by
     grind) f.os f.tape f.output f.size I
    (fun hd=>⟨B,vs',M++news,q1,by grind,q3,by grind,CC (fun x _ cs hx=>hd hx) hr0,by grind⟩) (by simp only[By,Aa3])
   grind
end
section
variable {P:Program} {E:Env}
theorem qJ(args:Array Operand)(ts:Array TypeId):Claim P E (.call { callee:=.builtin .append,args:=args,argTypes:=ts }):=by
 intro R ty ρ H fz slot k r h;simp only[evalOp,D7]at h;split at h;rename_i s x T T' ha hts;obtain rfl:=AVk ha;obtain rfl:=AVk hts;split at h;rename_i e t M hTT;simp only[Aat]at hTT;subst hTT;split at h;rename_i ys fr zz Q hz S;obtain⟨hu,hty0,D⟩:=Cy M;obtain⟨t',cs'⟩:=zz;obtain⟨hty',hcs',i,z,J,K,hok,I,hza⟩:=Ci hz;subst hcs';have:t'=t:=by grind
 subst this;have U:z.cells.size=i.size:=by have hzd:=Ca (w:=default) (F:=fun _=>False) t' _ hok;rw[I,<- AbH];exact Dat.length t' hzd
 have G:i.bytes<=1024:=by grind
 split at h;rename_i et V;split at h;rename_i f;split at h;rename_i N;refine⟨_,_,h,fun R' k'=>by simp only[evalOp,D7,M,Aa6,Q,hz,S,V,f,N],Bt fun w F m ρc o y hty hi O => ?_⟩;have d:=O s;rw[V]at d;unfold Rep at d;obtain⟨A,c,q1,q2,q3,news,q4,q5⟩:=E8 hi Q (O x);obtain⟨v,w',X,l,Y,g⟩:=G4 (P:=P) (ty:=o.type) hi N hu J K U I D G (by have:(ys.length:Int)<=4294967296:=(Gv _).1 f;omega) none (c:=c) q3 q4 q5;exact⟨v,w',F,X,C4 y d q1 l,Y,g⟩;grind;grind;rename_i t2 xs V;split at h;rename_i xs' hc hne;split at h;rename_i f;split at h;rename_i N;refine⟨_,_,h,fun R' k'=>by simp only[evalOp,D7,M,Aa6,Q,hz,S,V,hc,hne,f,N],Bt fun w F m ρc o y hty hi O => ?_⟩;obtain⟨et,Z⟩:=DX hc;subst et;simp only at Z;subst Z;have d:=O s;rw[V]at d;obtain⟨A,c,q1,q2,q3,news,q4,q5⟩:=E8 hi Q (O x);have q:xs.length+ys.length<=4294967296:=by have:((xs.length:Int)+(ys.length:Int))<=4294967296:=(Gv _).1 f;omega
 obtain⟨v,w',X,l,Y,g⟩:=xE (P:=P) (ty:=o.type) hi N hu J K U I D G q (by grind) d (c:=c) q3 q4 q5;exact⟨v,w',F,X,C4 y rfl q1 l,Y,g⟩;grind;grind;grind;rename_i id V;split at h;rename_i e' t2 xs W;split at h;rename_i C;split at h;rename_i xs' hc;split at h;rename_i f;split at h;rename_i hkp;refine⟨_,_,h,fun R' k'=>by simp only[evalOp,D7,M,Aa6,Q,hz,S,V,W,C,hc,f,hkp],Bt fun w F m ρc o y hty hi O => ?_⟩;simp only[Aau,Aat]at C;obtain⟨hun,rfl⟩:=C;obtain⟨et,Z⟩:=DX hc;subst et;simp only at Z;subst Z;have d:=O s;rw[V]at d;obtain⟨A,c,q1,q2,q3,news,q4,q5⟩:=E8 hi Q (O x);have q:xs.length+ys.length<=4294967296:=by have:((xs.length:Int)+(ys.length:Int))<=4294967296:=(Gv _).1 f;omega
 obtain⟨v,w',F',l,Y,g⟩:=xD (P:=P) (ty:=o.type) hi hu J K U I D G W hun q (c:=c) q3 q4 q5 d;exact⟨v,w',F',m,C4 y rfl q1 l,Y,g⟩;rename_i hkp;split at h;rename_i N;refine⟨_,_,h,fun R' k'=>by simp only[evalOp,D7,M,Aa6,Q,hz,S,V,W,C,hc,f,hkp,N],Bt fun w F m ρc o y hty hi O => ?_⟩;simp only[Aau,Aat]at C;obtain⟨hun,rfl⟩:=C;obtain⟨et,Z⟩:=DX hc;subst et;simp only at Z;subst Z;have d:=O s;rw[V]at d;unfold Rep at d;rw[W]at d;obtain⟨A,c,q1,q2,q3,news,q4,q5⟩:=E8 hi Q (O x);have q:xs.length+ys.length<=4294967296:=by have:((xs.length:Int)+(ys.length:Int))<=4294967296:=(Gv _).1 f;omega
 have hsn:=pF N W;cases hm:m id with
  |none=>obtain⟨_,L⟩:=hi.obj id _ W;rw[hm]at d L;obtain⟨a,e1⟩:=d;simp only at L;subst L;have B:=BU.kill hi (DS W hun);obtain⟨v,w',X,l,Y,g⟩:=G4 (P:=P) (ty:=o.type) B.2 (Nu N hsn) hu J K U I D G (by omega) a (c:=c) q3 q4 q5;exact⟨v,w',F,X,C4 y e1 q1 l,B.trans Y,g⟩
  |some p=>obtain⟨b,cap⟩:=p;rw[hm]at d;simp only[By]at d;obtain⟨v,w',X,l,Y,g⟩:=ZF (P:=P) (ty:=o.type) hi N hu J K U I D G W hun hm (Aax _) q (c:=c) q3 q4 q5;rw[AbM]at Y g;exact⟨v,w',F,X,C4 y d q1 l,Y,g⟩
 grind;grind;grind;grind;grind;rename_i id kx ver V;split at h;rename_i T0 e' t2 xs ver' W;split at h;rename_i C;split at h;rename_i xs' hc;split at h;rename_i f;refine⟨_,_,h,fun R' k'=>by simp only[evalOp,D7,M,Aa6,Q,hz,S,V,W,C,hc,f],Bt fun w F m ρc o y hty hi O => ?_⟩;simp only[Aau,Aat]at C;obtain⟨hun,rfl,rfl⟩:=C;obtain⟨et,Z⟩:=DX hc;cases et;simp only at Z;subst Z;have hun':fz.getD id false=false:=by unfold BO at hun;grind
 have d:=O s;rw[V]at d;obtain⟨A,c,q1,q2,q3,news,q4,q5⟩:=E8 hi Q (O x);have q:(A9 xs kx []).length+ys.length<=4294967296:=by have:(((A9 xs kx []).length:Int)+(ys.length:Int))<=4294967296:=(Gv _).1 f;omega
 obtain⟨v,w',X,l,Y,g⟩:=ACz (P:=P) (ty:=o.type) hi hu J K U I D G W hun' d q (c:=c) q3 q4 q5;exact⟨v,w',F,X,C4 y rfl q1 l,Y,g⟩;grind;grind;grind;grind;rename_i id n V;split at h;rename_i e' t2 xs W;split at h;rename_i C;split at h;rename_i xs' hc;split at h;rename_i f;split at h;rename_i N;refine⟨_,_,h,fun R' k'=>by simp only[evalOp,D7,M,Aa6,Q,hz,S,V,W,C,hc,f,N],Bt fun w F m ρc o y hty hi O => ?_⟩;simp only[Aau,Aat]at C;obtain⟨hun,rfl⟩:=C;obtain⟨et,Z⟩:=DX hc;subst et;simp only at Z;subst Z;have d:=O s;rw[V]at d;unfold Rep at d;rw[W]at d;obtain⟨hle,d⟩:=d;obtain⟨A,c,q1,q2,q3,news,q4,q5⟩:=E8 hi Q (O x);have q:n+ys.length<=4294967296:=by have:((n:Int)+(ys.length:Int))<=4294967296:=(Gv _).1 f;omega
 have hsn:=pF N W;obtain⟨_,L⟩:=hi.obj id _ W
 have zero:∀ a,n=0->ρc s = .slice a 0 0->∃ u w' F' X,(execOp ρc o).run P w = .ok (.value u) w'/\BU w F m H fz w' F' X ((H.set id .dead).set slot (.arr e _ (B2 (C5 n xs) ys))) fz /\
   Rep w' F' X ((H.set id .dead).set slot (.arr e _ (B2 (C5 n xs) ys))) (.own slot) u:=by
  intro a h0 e1
  subst h0
  have B:=BU.kill hi (DS W hun)
  obtain⟨v,w',X,l,Y,g⟩:=G4 (P:=P) (ty:=o.type) B.2 (Nu N hsn) hu J K U I D G (by omega) a (c:=c) q3 q4 q5
  exact⟨v,w',F,X,C4 y e1 q1 l,B.trans Y,g⟩
 cases hm:m id with
  |none=>
   rw[hm]at d L;obtain⟨a,e1⟩:=d;simp only at L;subst L;have hn:n=0:=by grind
   exact zero a hn (by grind)
  |some p=>obtain⟨b,cap⟩:=p;rw[hm]at d L;obtain⟨a,e1,e2⟩:=d;obtain⟨vs,row,o1,o2,_⟩:=L;rcases Abz cap with hcap|hcap;exact zero a (by omega) (by grind);have ha:=e2 hcap;rw[Ack]at ha;subst ha;obtain⟨v,w',X,l,Y,g⟩:=ZF (P:=P) (ty:=o.type) hi N hu J K U I D G W hun hm (n:=n) (by omega) q (c:=c) q3 q4 q5;exact⟨v,w',F,X,C4 y e1 q1 l,Y,g⟩
 grind;grind;grind;grind;grind;grind;grind;rename_i e t M hTT;split at h;rename_i et j n zz kk V Z hz hk S;split at h;rename_i f;split at h;rename_i N;refine⟨_,_,h,fun R' k'=>by simp only[evalOp,D7,M,hTT,V,Z,hz,hk,S,f,N],Bt fun w F m ρc o y hty hi O => ?_⟩;obtain⟨hu,hty0,D⟩:=Cy M;obtain⟨t',cs'⟩:=zz;obtain⟨hty',hcs',i,z,J,K,hok,I,hza⟩:=Ci hz;subst hcs';have:t'=t:=by grind
 subst this;rw[J3]at f;obtain⟨n',rfl⟩:=Aaw f.1;have d:=O s;rw[V]at d;unfold Rep at d;have e2:=Bv (Z▸O x);have G:i.bytes<=1024:=by grind
 obtain⟨v,w',X,l,Y,g⟩:=xC (P:=P) (ty:=o.type) hi N hu J K hok I D G (Ic hk) (kx:=j) (n:=n') (by omega);exact⟨v,w',F,X,pN y d e2 l,Y,g⟩;grind;grind;grind;rename_i M hTT;simp only[Aat]at hTT;subst hTT;split at h;rename_i e ix hce Z;split at h;rename_i e1 tgt ys hox;split at h;rename_i he;simp only[Aat]at he;subst he;obtain⟨hu,ii,z,J,K,I,U,S⟩:=ZB hce;split at h;rename_i et V;split at h;rename_i f;split at h;rename_i N;refine⟨_,_,h,fun R' k'=>by simp only[evalOp,D7,M,Aa6,hce,Z,hox,V,f,N],Bt fun w F m ρc o y hty hi O => ?_⟩;have d:=O s;rw[V]at d;unfold Rep at d;obtain⟨A,c,q1,q2,news,q3,q4,q5⟩:=AXT hi hox (Z▸O x);obtain⟨v,w',X,l,Y,g⟩:=ND (P:=P) (ty:=o.type) hi N hu J K U I S (by have:(ys.length:Int)<=4294967296:=(Gv _).1 f;omega) none (c:=c) q2 q3 q4 q5;exact⟨v,w',F,X,C4 y d q1 l,Y,g⟩;grind;grind;rename_i id V;split at h;rename_i e2 tgt2 xs W;split at h;rename_i C;split at h;rename_i f;split at h;rename_i N;refine⟨_,_,h,fun R' k'=>by simp only[evalOp,D7,M,Aa6,hce,Z,hox,V,W,C,f,N],Bt fun w F m ρc o y hty hi O => ?_⟩;simp only[Aau,Aat]at C;obtain⟨rfl,rfl⟩:=C;have d:=O s;rw[V]at d;unfold Rep at d;rw[W]at d;obtain⟨A,c,q1,q2,news,q3,q4,q5⟩:=AXT hi hox (Z▸O x);have q:xs.length+ys.length<=4294967296:=by have:((xs.length:Int)+(ys.length:Int))<=4294967296:=(Gv _).1 f;omega
 have hsn:=vZ N W;cases hm:m id with
  |none=>have L:=hi.obj id _ W;rw[hm]at d L;obtain⟨a,e1⟩:=d;have L:xs=[]:=L;subst L;have B:=BU.kill hi (j8 W);obtain⟨v,w',X,l,Y,g⟩:=ND (P:=P) (ty:=o.type) B.2 (Nu N hsn) hu J K U I S (by omega) a (c:=c) q2 (B.1.Aaf hi q3) q4 q5;exact⟨v,w',F,X,C4 y e1 q1 l,B.trans Y,g⟩
  |some p=>obtain⟨b,cap⟩:=p;rw[hm]at d;simp only[By]at d;obtain⟨v,w',X,l,Y,g⟩:=Zf (P:=P) (ty:=o.type) hi N hu J K U I S W hm q (c:=c) q2 q3 q4 q5;exact⟨v,w',F,X,C4 y d q1 l,Y,g⟩
 grind;grind;grind;grind;grind;grind;grind;grind;grind;grind
end
section
variable {P:Program} {E:Env}
theorem AKQ(args:Array Operand)(ts:Array TypeId):Claim P E (.call { callee:=.builtin .cap,args:=args,argTypes:=ts }):=by intro R ty ρ H fz slot k r h;simp only[evalOp,AE0]at h;split at h;rename_i x T i b;obtain rfl:=AKs i;obtain rfl:=AKs b;split at h;rename_i e n f g;refine⟨_,_,h,fun p q=>by simp only[evalOp,AE0,f,g],BD fun w F m ρc o d j hi l=>⟨.int .i64 0,?_,Bj _ _⟩⟩;have a:=l x;rw[g]at a;unfold Rep at a;simp[execOp,d,resolve,invoke,builtin,a,Builtin.cap_,run_underlying f,goInt];grind;grind
theorem AKN(args:Array Operand)(ts:Array TypeId):Claim P E (.call { callee:=.builtin .min,args:=args,argTypes:=ts }):=by intro R ty ρ H fz slot k r h;simp only[evalOp,AEy]at h;split at h;rename_i x y i;obtain rfl:=AVk i;split at h;rename_i j a q b e f;refine⟨_,_,h,fun s t=>by simp only[evalOp,AEy,e,f],BD fun w F m ρc o d l hi g=>⟨.int j (C8 a b),?_,Bj _ _⟩⟩;have n:=Bv (e▸g x);have p:=Bv (f▸g y);simp[execOp,d,resolve,invoke,builtin,n,p,run_min_int2,C8];grind;grind
theorem ga{w:World}(ts:Array TypeId)(t:TypeId)(k a:IntKind)(x y:Int):(Builtin.max_ ts t #[.int k x,.int a y]).run P w = .ok (.int k (if y > x then y else x)) w:=by simp[Builtin.max_,Builtin.max2]
theorem AKO(args:Array Operand)(ts:Array TypeId):Claim P E (.call { callee:=.builtin .max,args:=args,argTypes:=ts }):=by intro R ty ρ H fz slot k r h;simp only[evalOp,AEz]at h;split at h;rename_i x y i;obtain rfl:=AVk i;split at h;rename_i j a q b e f;refine⟨_,_,h,fun s t=>by simp only[evalOp,AEz,e,f],BD fun w F m ρc o d l hi g=>⟨.int j (imax a b),?_,Bj _ _⟩⟩;have n:=Bv (e▸g x);have p:=Bv (f▸g y);simp[execOp,d,resolve,invoke,builtin,n,p,ga,imax];grind;grind
theorem O'{H:List Ob}{i:Nat}{o:Ob}(h:H[i]? = some o):H.set i o=H:=by apply Abe;grind
theorem fF{α:Type}{off n:Nat}{z:α}{xs:List α}(h:off+n<=xs.length):(Cu off n z xs).length=xs.length:=by simp only[Cu,Aa3,AbU,Aba,Acp];omega
theorem wG{α:Type}(off:Nat)(z:α)(xs:List α):Cu off 0 z xs=xs:=by simp[Cu]
theorem lN{w:World}{F:Nat->Prop}{m:Mp}{H:List Ob}{fz:List Bool}(hi:HI w F m H fz){id:Nat}{T:TypeId}{t:Ty}{xs:List t.den}(i:H[id]? = some (.arr T t xs))(s:BO fz id=true)
  {b cap:Nat} (hm:m id=some (b,cap)) {off n:Nat} (hle:off+n<=xs.length) {z:List Value} (G:Dat w F t t.zero z) (I:∀ u∈z,u.oneCell'=true) {d:Array Value} (l:d.toList=(List.replicate n z).flatten) :
  ∃ w',(storeCells ⟨b,off*t.size,none⟩ d.toList).run P w = .ok () w'/\BU w F m H fz w' F m (H.set id (.arr T t (Cu off n t.zero xs))) fz:=by
 have c:=hi.obj id _ i;obtain⟨J,c⟩:=c;rw[hm]at c;obtain⟨vs,a,v,y,K,W,o,A⟩:=c;have j:=fun(x:t.den) cs (h:Dat w F t x cs)=>Dat.length t h;have B:=B5 j o;have p:=Gd (w:=w) (F:=F) G n;have f:=B5 j p;rw[Aba,<- l]at f;have C:off*t.size+n*t.size<=xs.length*t.size:=by have:=AbY t.size hle;grind
 have D:xs.length*t.size<=cap*t.size:=AbY _ y;have L:vs.toList.length=cap*t.size:=by omega
 have g:=run_storeCells_at P b (off*t.size) T d.toList 0 vs w v (by omega) (by simp_all)
 simp only[AcD,f]at g;obtain⟨M,N,O,Q,S⟩:=IZ (w:=w) (b:=b) (cs:=(vs.toList.take (off*t.size)++d.toList++vs.toList.drop (off*t.size+n*t.size)).toArray);refine⟨_,g,?_⟩;refine BU.set hi (DS i s) hm i ⟨rfl,(fF hle).symm⟩ M N O Q S fun q => ?_;refine⟨J,?_⟩;rw[hm];refine⟨_,a.take (off*t.size)++(d.toList++a.drop (off*t.size+n*t.size)),setRow_heap w b vs _ T _ v,by rw[fF hle];exact y,K,?_,?_,?_⟩;grind
 have e:∀ k,F k->(w.setRow b (vs.toList.take (off*t.size)++d.toList++vs.toList.drop (off*t.size+n*t.size)).toArray).heap[k]? = w.heap[k]? := fun k U=>
  IZ.2.2.2.2 k (by rintro rfl;exact hi.off id _ cap (DS i s) hm U)
 refine CC (R:=Dat w F t) (fun x _ cs V=>V.mono e (fun _ h=>h) t) ?_;have:=Jr j (off+n) o;rw[AcF]at this;exact KR (FF j off o) (KR (by grind) this)
 ·have r:(a.take (off*t.size)++(d.toList++a.drop (off*t.size+n*t.size))).length=a.length:=by grind
  rw[r];show List.take a.length (vs.toList.take (off*t.size)++d.toList++vs.toList.drop (off*t.size+n*t.size))=_;have I:a.take (off*t.size)=vs.toList.take (off*t.size):=by rw[<- A,AdL,AcG (by omega)]
  have X:a.drop (off*t.size+n*t.size)=(vs.toList.drop (off*t.size+n*t.size)).take (a.length-(off*t.size+n*t.size)):=by
   conv=>lhs;rw[<- A]
   rw[List.drop_take]
  grind
theorem Kk{w w':World}{ρc:Operand->Value}{o:Oper}{T:TypeId}{x:Operand}{v:Value}(b:o.op = .call { callee:=.builtin .clear,args:=#[x],argTypes:=#[T] })(d:ρc x=v)
  (a:(Builtin.clear_ #[T] o.type #[v]).run P w = .ok (.tuple #[]) w'):(execOp ρc o).run P w = .ok (.value (.tuple #[])) w':=by simp[execOp,b,resolve,invoke,builtin,d,a]
theorem KN{w:World}{T e ty:TypeId}(b:P.underlying T=some (.slice e))(a:Option Addr)(c:Nat):(Builtin.clear_ #[T] ty #[.slice a 0 c]).run P w = .ok (.tuple #[]) w:=by cases a<;>simp[Builtin.clear_,run_underlying b]
theorem PF{w w':World}{T e ty:TypeId}(d:P.underlying T=some (.slice e)){i:TypeInfo}{z:Value}(b:P.info? e=some i)(f:i.zero=some z)(a:Addr){n:Nat}(g:0<n)(c:Nat)
  (h:(storeCells a (Builtin.zeroCells z.cells n).toList).run P w = .ok () w'):(Builtin.clear_ #[T] ty #[.slice (some a) n c]).run P w = .ok (.tuple #[]) w':=by
 obtain⟨m,rfl⟩:∃ m,n=m+1:=⟨n-1,by omega⟩
 simp[Builtin.clear_,run_underlying d,CH b f,h]
theorem AFA{w:World}{F:Nat->Prop}{t:Ty}{d:t.den}{z:List Value}(h:Dat w F t d z):∀ u∈z,u.oneCell'=true:=fun u a=>Dat.JH t h u a
theorem wa(args:Array Operand)(ts:Array TypeId):Claim P E (.call { callee:=.builtin .clear,args:=args,argTypes:=ts }):=by
 intro R ty ρ H fz slot k r h;simp only[evalOp,JP]at h;split at h;rename_i x T X Y;obtain rfl:=AKs X;obtain rfl:=AKs Y;split at h;rename_i e t s;split at h;rename_i zz W;obtain⟨J,hty0,hpos⟩:=Cy s;obtain⟨t',cs'⟩:=zz;obtain⟨hty',K,i,z,L,M,N,hsz,hza⟩:=Ci W;subst K;have:t'=t:=by grind
 subst this;have j:∀ k,(Builtin.zeroCells z.cells k).toList=(List.replicate k z.cells.toList).flatten:=D2 z.cells;split at h;rename_i et B;refine⟨_,_,h,fun R' k'=>by simp only[evalOp,JP,s,W,B],Bt fun w F m ρc o g O hi Q => ?_⟩;have d:=Q x;rw[B]at d;unfold Rep at d;exact⟨_,w,F,m,Kk g d (KN J _ _),BU.refl hi,by unfold Rep;trivial⟩;rename_i id B;split at h;rename_i v t2 xs l;split at h;rename_i f;refine⟨_,_,h,fun R' k'=>by simp only[evalOp,JP,s,W,B,l,f],Bt fun w F m ρc o g O hi Q => ?_⟩;simp only[Aau,Aat]at f;obtain⟨f,Z⟩:=f;subst Z;have q:=Ca (w:=w) (F:=F) t' _ N;have d:=Q x;rw[B]at d;unfold Rep at d;rw[l]at d;obtain⟨_,y⟩:=hi.obj id _ l
 have C:xs=[]->∀ a c,ρc x = .slice a 0 c->∃ u w' S U,(execOp ρc o).run P w = .ok (.value u) w'/\BU w F m H fz w' S U (C6 { objs:=[(id,.arr v t' (Cu 0 xs.length t'.zero xs))] } H) (FY { objs:=[(id,.arr v t' (Cu 0 xs.length t'.zero xs))] } fz) /\
   Rep w' S U (C6 { objs:=[(id,.arr v t' (Cu 0 xs.length t'.zero xs))] } H) .DM u:=by
  intro D a c G
  refine⟨_,w,F,m,Kk g G (KN J _ _),?_,by unfold Rep;trivial⟩
  have:Cu 0 xs.length t'.zero xs=xs:=by rw[D];rfl
  rw[this]
  have hs:C6 { objs:=[(id,.arr v t' xs)] } H=H:=O' l
  rw[hs]
  exact BU.refl hi
 cases I:m id with
  |none=>rw[I]at d y;obtain⟨a,G⟩:=d;grind
  |some p=>obtain⟨b,cap⟩:=p;rw[I]at d;simp only[By]at d;rcases Abz xs.length with V|V;grind;obtain⟨w',A,hg⟩:=lN (P:=P) hi l f I (off:=0) (n:=xs.length) (by omega) q (AFA q) (j xs.length);rw[Ack]at A;exact⟨_,w',F,m,Kk g d (PF J L M _ V _ A),hg,by unfold Rep;trivial⟩
 grind;grind;rename_i id off n B;split at h;rename_i v t2 xs l;split at h;rename_i f;refine⟨_,_,h,fun R' k'=>by simp only[evalOp,JP,s,W,B,l,f],Bt fun w F m ρc o g O hi Q => ?_⟩;simp only[Aau,Aat]at f;obtain⟨f,Z⟩:=f;subst Z;have q:=Ca (w:=w) (F:=F) t' _ N;have d:=Q x;rw[B]at d;unfold Rep at d;rw[l]at d;obtain⟨hle,d⟩:=d;obtain⟨_,y⟩:=hi.obj id _ l
 have C:n=0->∀ a c,ρc x = .slice a n c->∃ u w' S U,(execOp ρc o).run P w = .ok (.value u) w'/\BU w F m H fz w' S U (C6 { objs:=[(id,.arr v t' (Cu off n t'.zero xs))] } H) (FY { objs:=[(id,.arr v t' (Cu off n t'.zero xs))] } fz) /\
   Rep w' S U (C6 { objs:=[(id,.arr v t' (Cu off n t'.zero xs))] } H) .DM u:=by
  intro D a c G
  subst D
  refine⟨_,w,F,m,Kk g G (KN J _ _),?_,by unfold Rep;trivial⟩
  rw[wG]
  have hs:C6 { objs:=[(id,.arr v t' xs)] } H=H:=O' l
  rw[hs]
  exact BU.refl hi
 cases I:m id with
  |none=>grind
  |some p=>obtain⟨b,cap⟩:=p;rw[I]at d y;obtain⟨vs,row,o1,o2,_⟩:=y;obtain⟨a,G,e2⟩:=d;rcases Abz n with V|V;grind;have X:=e2 (by omega);subst X;obtain⟨w',A,hg⟩:=lN (P:=P) hi l f I (off:=off) (n:=n) hle q (AFA q) (j n);exact⟨_,w',F,m,Kk g G (PF J L M _ V _ A),hg,by unfold Rep;trivial⟩
 grind;grind;grind;grind;grind;grind
end
section
variable {P:Program}
def D4:(t:Ty)->t.den->List Value
 |.unit,_=>[]
 |.bool,b=>[.bool b]
 |.int k,n=>[.int k n]
 |.prod a b,d=>D4 a d.1++D4 b d.2
 |.slice _,_=>[]
 |.arr _ _,_=>[]
 |.nul _,_=>[]
 |.mapi _ _,_=>[]
def DJ(t:Ty)(d:t.den):Value:=match t,d with
 |.int k,n=>.int k n
 |t,d=>.agg (D4 t d).toArray
structure AKw(P:Program)(kt:TypeId)(t:Ty):Prop where
 rep:∀ (w:World) (F:Nat->Prop) (d:t.den) (v:Value),Cl w F t d v↔v=DJ t d
 check:∀ (w:World) (b:Bool) (d:t.den),(Instr.checkKey b 10000 kt (DJ t d)).run P w = .ok () w
 stays:∀ (w:World) (d:t.den),(Instr.keyThatStays (DJ t d) (DJ t d)).run P w = .ok (DJ t d) w
 find:∀ (w:World) (F:Nat->Prop) (b:Ty) (key:t.den) (es:List (t.den×b.den)) (ms:List MapEntry),K3 w F t b es ms ->
  (@Fb _ _ (decDen t) es key=none/\@A_ _ _ (decDen t) es key=none/\(Instr.findKey kt (DJ t key) ms).run P w = .ok none w) \/
  (∃ x n me,@Fb _ _ (decDen t) es key=some n/\@A_ _ _ (decDen t) es key=some x/\(Instr.findKey kt (DJ t key) ms).run P w = .ok (some (n,me.val)) w/\ms[n]? = some me/\Cl w F b x me.val/\me.key=DJ t key)
theorem AKw.store{s:TypeId}{t:Ty}(m:AKw P s t){w:World}{F:Nat->Prop}{b:Ty}(key:t.den)(val:b.den)(v:Value)(o:Cl w F b val v):∀ {d:List (t.den×b.den)} {f:List MapEntry},K3 w F t b d f ->
  (∀ c,@Fb _ _ (decDen t) d key=none->K3 w F t b (@BH _ _ (decDen t) d key val) (f++[{ key:=DJ t key,val:=v,born:=c }])) /\
  (∀ n,@Fb _ _ (decDen t) d key=some n->K3 w F t b (@BH _ _ (decDen t) d key val) (f.modify n fun e=>{ e with key:=DJ t key,val:=v })):=by
 haveI:=decDen t;intro d;induction d with
  |nil=>rintro f rfl;exact⟨fun c _=>⟨_,[],rfl,⟨(m.rep w F key _).2 rfl,o⟩,rfl⟩,fun n h=>by simp[Fb]at h⟩
  |cons e d u=>rintro f ⟨g,j,rfl,⟨p,q⟩,r⟩;obtain⟨a,x⟩:=e;obtain⟨k,l⟩:=u r;by_cases i:a=key;subst i;refine⟨fun c h=>by simp[Fb]at h,fun n h => ?_⟩;simp only[Fb,Abc,Aas]at h;subst h;simp only[BH,Abc,List.modify_zero_cons];exact⟨_,j,rfl,⟨(m.rep w F a _).2 rfl,o⟩,r⟩;simp only[BH,i,AbE,Fb];refine⟨fun c h => ?_,fun n h => ?_⟩;rw[Adm]at h;exact⟨g,_,rfl,⟨p,q⟩,k c h⟩;rw[Aa0]at h;obtain⟨y,z,rfl⟩:=h;rw[List.modify_succ_cons];exact⟨g,_,rfl,⟨p,q⟩,l y z⟩
theorem UI{z:TypeId}{j:IntKind}(G:P.underlying z=some (.int j)):AKw P z (.int j):=by
 have o:∀ (w:World) (F:Nat->Prop) (d:Int) (v:Value),Cl w F (.int j) d v↔v = .int j d:=by intro w F d v;show Dat w F (.int j) d [v]↔_;simp[Dat]
 refine⟨o,fun w b d => ?_,fun w d => ?_,fun w F b c k l h => ?_⟩;have f:∀ n,(Instr.checkKey b (n+1) z (.int j d)).run P w = .ok () w:=fun n=>by simp[Instr.checkKey,run_underlying G]
 exact f 9999;have f:∀ n,Instr.sameBits n (.int j d) (.int j d)=true:=fun n=>by cases n<;>simp[Instr.sameBits]
 show(Instr.keyThatStays (.int j d) (.int j d)).run P w=_;simp[Instr.keyThatStays,f];rfl;have u:∀ r,Instr.findNow (.int j) (.int j c) l 0=some r->(Instr.findKey z (.int j c) l).run P w = .ok r w:=by intro r A;simp[Instr.findKey,run_underlying G,A]
 have f:∀ (k:List (Int×b.den)) (l:List MapEntry) (i:Nat),K3 w F (.int j) b k l ->
   (Fb (α:=Int) k c=none/\A_ (α:=Int) k c=none/\Instr.findNow (.int j) (.int j c) l i=some none) \/
   (∃ x n m,Fb (α:=Int) k c=some n/\A_ (α:=Int) k c=some x/\Instr.findNow (.int j) (.int j c) l i=some (some (i+n,m.val))/\l[n]? = some m/\Cl w F b x m.val/\m.key = .int j c):=by
  intro k
  induction k with
  |nil=>rintro l i rfl;exact .inl ⟨rfl,rfl,rfl⟩
  |cons e k J=>
   rintro l i ⟨m,p,rfl,⟨K,H⟩,L⟩
   obtain⟨a,x⟩:=e
   have B:=(o w F a _).1 K
   simp only at H
   by_cases g:a=c
   ·subst g
    refine .inr ⟨x,0,m,by simp[Fb],by simp[A_],?_,rfl,H,B⟩
    simp[Instr.findNow,Instr.sameNow,B]
   ·have M:Instr.findNow (.int j) (.int j c) (m::p) i=Instr.findNow (.int j) (.int j c) p (i+1):=by
     have:(c==a)=false:=by grind
     simp[Instr.findNow,Instr.sameNow,B,this]
    rcases J p (i+1) L with⟨q,s,t⟩|⟨y,n,C,q,s,t,I,D,E⟩
    ·exact .inl ⟨by simp[Fb,g,q],by simp[A_,g,s],by grind⟩
    ·exact .inr ⟨y,n+1,C,by simp[Fb,g,q],by simp[A_,g,s],by grind,by grind,D,E⟩
 rcases f k l 0 h with⟨q,s,t⟩|⟨x,n,m,q,s,t,I,D,E⟩
 exact .inl ⟨q,s,u _ t⟩;rw[Abo]at t;exact .inr ⟨x,n,m,q,s,u _ t,I,D,E⟩
theorem VU{w:World}{F:Nat->Prop}:∀ (t:Ty) {n:List Bool},kinds? t=some n->∀ (d:t.den) (cs:List Value),Dat w F t d cs↔cs=D4 t d
 |.unit,_,_,d,cs=>Iff.rfl
 |.prod (.int k) r,n,h,d,cs=>by simp only[kinds?,Aa0]at h;obtain⟨f,b,rfl⟩:=h;constructor;rintro⟨c,c2,rfl,a,e⟩;rw[(VU r b d.2 c2).1 e];have a:c=[.int k d.1]:=a;rw[a];rfl;rintro rfl;exact⟨[.int k d.1],D4 r d.2,rfl,rfl,(VU r b d.2 _).2 rfl⟩
 |.prod .bool r,n,h,d,cs=>by simp only[kinds?,Aa0]at h;obtain⟨f,b,rfl⟩:=h;constructor;rintro⟨c,c2,rfl,a,e⟩;rw[(VU r b d.2 c2).1 e];have a:c=[.bool d.1]:=a;rw[a];rfl;rintro rfl;exact⟨[.bool d.1],D4 r d.2,rfl,rfl,(VU r b d.2 _).2 rfl⟩
 |.prod .unit _,_,h,_,_=>by simp[kinds?]at h
 |.prod (.slice _) _,_,h,_,_=>by simp[kinds?]at h
 |.prod (.prod _ _) _,_,h,_,_=>by simp[kinds?]at h
 |.prod (.arr _ _) _,_,h,_,_=>by simp[kinds?]at h
 |.bool,_,h,_,_=>by simp[kinds?]at h
 |.int _,_,h,_,_=>by simp[kinds?]at h
 |.slice _,_,h,_,_=>by simp[kinds?]at h
 |.arr _ _,_,h,_,_=>by simp[kinds?]at h
theorem Xy:∀ (t:Ty) {n:List Bool},kinds? t=some n->∀ (d c:t.den),CB n (CN t d) (CN t c)=some (@decide (d=c) (decDen t d c))
 |.unit,n,h,d,c=>by simp only[kinds?,Aas]at h;subst h;cases d;cases c;simp[CN,CB]
 |.prod (.int k) r,n,h,d,c=>by simp only[kinds?,Aa0]at h;obtain⟨f,e,rfl⟩:=h;obtain⟨a,x⟩:=d;obtain⟨b,y⟩:=c;have:=Xy r e x y;simp only[CN,AcQ,CB,Aa6,this,DF];congr 1;grind
 |.prod .bool r,n,h,d,c=>by simp only[kinds?,Aa0]at h;obtain⟨f,e,rfl⟩:=h;obtain⟨a,x⟩:=d;obtain⟨b,y⟩:=c;have:=Xy r e x y;simp only[CN,AcQ,CB,this];congr 1;grind
 |.prod .unit _,_,h,_,_=>by simp[kinds?]at h
 |.prod (.slice _) _,_,h,_,_=>by simp[kinds?]at h
 |.prod (.prod _ _) _,_,h,_,_=>by simp[kinds?]at h
 |.prod (.arr _ _) _,_,h,_,_=>by simp[kinds?]at h
 |.bool,_,h,_,_=>by simp[kinds?]at h
 |.int _,_,h,_,_=>by simp[kinds?]at h
 |.slice _,_,h,_,_=>by simp[kinds?]at h
 |.arr _ _,_,h,_,_=>by simp[kinds?]at h
theorem Sv:∀ (t:Ty) {n:List Bool},kinds? t=some n->∀ (d:t.den),∀ v∈D4 t d,(∃ k i,v = .int k i)\/∃ b,v = .bool b
 |.unit,_,_,d,v,a=>by simp[D4]at a
 |.prod (.int k) r,n,h,d,v,a=>by simp only[kinds?,Aa0]at h;obtain⟨e,c,rfl⟩:=h;simp only[D4,AcQ,AbD]at a;rcases a with rfl|a;simp;exact Sv r c d.2 v a
 |.prod .bool r,n,h,d,v,a=>by simp only[kinds?,Aa0]at h;obtain⟨e,c,rfl⟩:=h;simp only[D4,AcQ,AbD]at a;rcases a with rfl|a;simp;exact Sv r c d.2 v a
 |.prod .unit _,_,h,_,_,_=>by simp[kinds?]at h
 |.prod (.slice _) _,_,h,_,_,_=>by simp[kinds?]at h
 |.prod (.prod _ _) _,_,h,_,_,_=>by simp[kinds?]at h
 |.prod (.arr _ _) _,_,h,_,_,_=>by simp[kinds?]at h
 |.bool,_,h,_,_,_=>by simp[kinds?]at h
 |.int _,_,h,_,_,_=>by simp[kinds?]at h
 |.slice _,_,h,_,_,_=>by simp[kinds?]at h
 |.arr _ _,_,h,_,_,_=>by simp[kinds?]at h
theorem Mg{t:Ty}{n:List Bool}(h:kinds? t=some n)(d:t.den):DJ t d = .agg (D4 t d).toArray/\t.isAgg=true:=by cases t<;>first|exact⟨rfl,rfl⟩|(simp[kinds?]at h)
end
section
variable {P:Program}
theorem Sw:∀ (t:Ty) {n:List Bool},kinds? t=some n->∀ (d:t.den),(D4 t d).length=n.length
 |.unit,n,h,d=>by simp only[kinds?,Aas]at h;subst h;rfl
 |.prod (.int k) r,n,h,d=>by simp only[kinds?,Aa0]at h;obtain⟨b,a,rfl⟩:=h;simp[D4,Sw r a d.2]
 |.prod .bool r,n,h,d=>by simp only[kinds?,Aa0]at h;obtain⟨b,a,rfl⟩:=h;simp[D4,Sw r a d.2]
 |.prod .unit _,_,h,_=>by simp[kinds?]at h
 |.prod (.slice _) _,_,h,_=>by simp[kinds?]at h
 |.prod (.prod _ _) _,_,h,_=>by simp[kinds?]at h
 |.prod (.arr _ _) _,_,h,_=>by simp[kinds?]at h
 |.bool,_,h,_=>by simp[kinds?]at h
 |.int _,_,h,_=>by simp[kinds?]at h
 |.slice _,_,h,_=>by simp[kinds?]at h
 |.arr _ _,_,h,_=>by simp[kinds?]at h
theorem qM{w:World}{T:TypeId}(h:PC P T=true)(b:Bool)(n:Nat){v:Value}:(Instr.checkKey b (n+1) T v).run P w = .ok () w:=by
 rcases C2 h with⟨k,a,_⟩|⟨a,_⟩
 simp[Instr.checkKey,run_underlying a];simp[Instr.checkKey,run_underlying a]
theorem qN{w:World}(b:Bool)(d:Nat)(xs:Array Value):∀ (fs:List Field) (i:Nat),E7 P fs i=true->i+fs.length<=xs.size ->
  (forIn fs PUnit.unit fun (f : Field) (_ : PUnit) => ((if f.name ≠ "_" then (part f.type xs f.offset >>= fun v => Instr.checkKey b (d + 1) f.type v >>= fun _ => pure (ForInStep.yield PUnit.unit)) else pure (ForInStep.yield PUnit.unit)) : Sem (ForInStep PUnit))).run P w = .ok PUnit.unit w := by
 intro fs;induction fs with
  |nil=>simp
  |cons f fs ih=>
   intro i hok hl;simp only[E7,Aau,bne_iff_ne,Aat]at hok;obtain⟨hn,ho,hsc,hok⟩:=hok;rw[Aa1]at hl;have hag:Fq P f.type=some false:=by rcases C2 hsc with⟨k,hk,_⟩|⟨hk,_⟩<;>simp[Fq,hk]
   have hlt:i<xs.size:=by omega
   have p1:(part f.type xs f.offset).run P w = .ok xs[i] w:=by rw[ho];simp[part,Dg hag,hlt]
   have h3:=ih (i+1) hok (by omega);simp only[List.forIn_cons,Sem.run_bind,hn,ne_eq,not_false_eq_true,Abc,p1,Result.andThen_ok,qM hsc,Sem.run_pure];exact h3
theorem ABW{g:TypeId}{t:Ty}{n:List Bool}(V:structEq P g=some n)(o:kinds? t=some n):AKw P g t:=by
 obtain⟨G,H,W,J,C,S⟩:=gX V;have K:P.fieldsOf g=G:=by simp[Program.fieldsOf,H]
 have s:∀ (w:World) (F:Nat->Prop) (d:t.den) (v:Value),Cl w F t d v↔v=DJ t d:=by intro w F d v;obtain⟨X,Y⟩:=Mg o d;unfold Cl;rw[Aa5 Y,X];constructor;rintro⟨vs,rfl,h⟩;have:=(VU t o d _).1 h;rw[<- this];rintro rfl;exact⟨_,rfl,(VU t o d _).2 (by simp)⟩
 have T:∀ d:t.den,(D4 t d).length=G.size:=by intro d;rw[Sw t o d,S,AbN,AbH]
 refine⟨s,fun w b d => ?_,fun w d => ?_,fun w F b c q j h => ?_⟩;rw[(Mg o d).1];have:=fun m=>qN (P:=P) (w:=w) b m (D4 t d).toArray G.toList 0 C (by grind);have D:∀ m,(Instr.checkKey b (m+1+1) g (.agg (D4 t d).toArray)).run P w = .ok () w:=by intro m;rw[Instr.checkKey];simp only[Sem.run_bind,run_underlying H,Result.andThen_ok];simp_all
 grind;rw[(Mg o d).1];have D:∀ m,Instr.sameBits (m+1) (.agg (D4 t d).toArray) (.agg (D4 t d).toArray)=true:=by
  intro m;have Z:∀ l:List Value,(∀ v∈l,(∃ k i,v = .int k i)\/∃ b,v = .bool b)->((l.zip l).all fun p=>Instr.sameBits m p.1 p.2)=true:=by
   intro l;induction l with
    |nil=>simp
    |cons v l L=>
     intro h;rw[List.zip_cons_cons,List.all_cons,L (fun x hx=>h x (by simp[hx]))];rcases h v (by simp)with⟨k,i,rfl⟩|⟨b,rfl⟩
     cases m<;>simp[Instr.sameBits];cases m<;>simp[Instr.sameBits]
  simp only[Instr.sameBits,beq_self_eq_true,Bool.true_and];exact Z _ (Sv t o d)
 unfold Instr.keyThatStays;simp_all;have M:∀ d u:t.den,(Op.equal g (DJ t d) (DJ t u)).run P w = .ok (@decide (d=u) (decDen t d u)) w:=by intro d u;rw[(Mg o d).1,(Mg o u).1];unfold Op.equal Op.maxDepth;rw[run_equalIn_agg w 9999 g _ _ (by grind) J,K];have r:∀ x:t.den,BG w F (fun _=>none) [] (CN t x) ((D4 t x).toArray.toList.drop 0):=fun x=>Kj t ((VU t o x _).2 (by simp));exact VL 9998 _ _ G.toList 0 (CN t d) (CN t u) _ C (r d) (r u) (by rw[<- S];exact Xy t o d u)
 have D:∀ (q:List (t.den×b.den)) (j:List MapEntry) (i:Nat),K3 w F t b q j ->
   (Fb q c=none/\A_ q c=none/\(Instr.findAsking g (DJ t c) j i).run P w = .ok none w) \/
   (∃ x n z,Fb q c=some n/\A_ q c=some x/\(Instr.findAsking g (DJ t c) j i).run P w = .ok (some (i+n,z.val)) w/\j[n]? = some z/\Cl w F b x z.val/\z.key=DJ t c):=by
  intro q
  induction q with
  |nil=>rintro j i rfl;exact .inl ⟨rfl,rfl,by simp[Instr.findAsking]⟩
  |cons e q L=>
   rintro j i ⟨z,A,rfl,⟨h1,U⟩,h3⟩
   obtain⟨a,x⟩:=e
   have B:=(s w F a _).1 h1
   simp only at U
   have I:=M c a
   by_cases f:a=c
   ·subst f
    rw[Aar rfl]at I
    refine .inr ⟨x,0,z,by simp[Fb],by simp[A_],?_,rfl,U,B⟩
    simp[Instr.findAsking,B,I]
   ·rw[Aaq (fun h=>f h.symm)]at I
    have hfn:(Instr.findAsking g (DJ t c) (z::A) i).run P w=(Instr.findAsking g (DJ t c) A (i+1)).run P w:=by
     simp[Instr.findAsking,B,I]
    rcases L A (i+1) h3 with⟨N,O,q2⟩|⟨y,n,Q,N,O,q2,q3,q4,q5⟩
    ·exact .inl ⟨by simp[Fb,f,N],by simp[A_,f,O],by grind⟩
    ·exact .inr ⟨y,n+1,Q,by simp[Fb,f,N],by simp[A_,f,O],by grind,by grind,q4,q5⟩
 have hfk:∀ r,(Instr.findAsking g (DJ t c) j).run P w = .ok r w->(j=[]->r=none)->(Instr.findKey g (DJ t c) j).run P w = .ok r w:=by
  intro r R E;cases j with
   |nil=>simp[Instr.findKey,run_underlying H,Instr.findNow,E rfl]
   |cons z j=>simp only[Instr.findKey,Sem.run_bind,run_underlying H,Result.andThen_ok,Instr.findNow,Instr.sameNow];exact R
 grind
theorem gn{T:TypeId}{t:Ty}(h:T9 P T=some t):∃ e k,P.underlying T=some (.array 2 e)/\P.underlying e=some (.int k)/\CO P e=some 1/\t = .prod (.int k) (.prod (.int k) .unit):=by unfold T9 at h;grind
theorem AOr{l:TypeId}{t:Ty}(W:T9 P l=some t):AKw P l t:=by
 obtain⟨e,j,H,K,X,rfl⟩:=gn W;obtain⟨i0,L,M⟩:=B0 X;have N:kinds? (.prod (.int j) (.prod (.int j) .unit))=some [true,true]:=rfl;have O:Fq P e=some false:=by simp[Fq,K]
 have C:∀ w,(sizeOf e).run P w = .ok 1 w:=fun w=>by rw[run_sizeOf L,M]
 have p:∀ d:(Ty.prod (.int j) (.prod (.int j) .unit)).den,DJ (.prod (.int j) (.prod (.int j) .unit)) d = .agg #[.int j d.1,.int j d.2.1]:=fun d=>rfl;have u:∀ (w:World) (F:Nat->Prop) (d:(Ty.prod (.int j) (.prod (.int j) .unit)).den) (v:Value),Cl w F (.prod (.int j) (.prod (.int j) .unit)) d v↔v=DJ (.prod (.int j) (.prod (.int j) .unit)) d:=by intro w F d v;obtain⟨Y,Z⟩:=Mg N d;unfold Cl;rw[Aa5 Z,Y];constructor;rintro⟨vs,rfl,h⟩;have:=(VU _ N d _).1 h;rw[<- this];rintro rfl;exact⟨_,rfl,(VU _ N d _).2 (by simp)⟩
 have f:∀ (w:World) (a b:Value),(part e #[a,b] 0).run P w = .ok a w/\(part e #[a,b] 1).run P w = .ok b w:=fun w a b=>by constructor<;>simp[part,Dg O]
 have D:∀ (w:World) (b:Bool) (n:Nat) (d:Int),(Instr.checkKey b (n+1) e (.int j d)).run P w = .ok () w:=fun w b n d=>by simp[Instr.checkKey,run_underlying K]
 refine⟨u,fun w b d => ?_,fun w d => ?_,fun w F b c q k h => ?_⟩;rw[p];have s:∀ m,(Instr.checkKey b (m+1+1) l (.agg #[.int j d.1,.int j d.2.1])).run P w = .ok () w:=by intro m;rw[Instr.checkKey];simp only[Sem.run_bind,run_underlying H,Result.andThen_ok];simp[Std.Legacy.Range.forIn_eq_forIn_range',Std.Legacy.Range.size,List.range',C,(f w _ _).1,(f w _ _).2,D]
 grind;rw[p];have s:∀ m,Instr.sameBits (m+1) (.agg #[.int j d.1,.int j d.2.1]) (.agg #[.int j d.1,.int j d.2.1])=true:=by intro m;cases m<;>simp[Instr.sameBits]
 unfold Instr.keyThatStays;simp_all;have Q:∀ d o:(Ty.prod (.int j) (.prod (.int j) .unit)).den,(Op.equal l (DJ (.prod (.int j) (.prod (.int j) .unit)) d) (DJ (.prod (.int j) (.prod (.int j) .unit)) o)).run P w = .ok (@decide (d=o) (decDen (.prod (.int j) (.prod (.int j) .unit)) d o)) w:=by
  intro d o;rw[p,p];have E:∀ (n:Nat) (a b:Int),(Op.equalIn (n+1) e (.int j a) (.int j b)).run P w = .ok (a==b) w:=fun n a b=>by simp[Op.equalIn,run_underlying K]
  have s:∀ n,(Op.equalIn (n+1+1) l (.agg #[.int j d.1,.int j d.2.1]) (.agg #[.int j o.1,.int j o.2.1])).run P w = .ok ((d.1==o.1)&&(d.2.1==o.2.1)) w:=by intro n;rw[Op.equalIn];simp only[Sem.run_bind,run_underlying H,Result.andThen_ok,C];simp only[Std.Legacy.Range.forIn_eq_forIn_range',Std.Legacy.Range.size,List.range',Ack,Ac4];by_cases R:d.1=o.1;by_cases I:d.2.1=o.2.1<;>simp[E,(f w _ _).1,(f w _ _).2,R,I];simp_all
  unfold Op.equal;have:=s 9998;rw[show Op.maxDepth=9998+1+1 from rfl,this];congr 1;grind
 have s:∀ (q:List ((Ty.prod (.int j) (.prod (.int j) .unit)).den×b.den)) (k:List MapEntry) (i:Nat),K3 w F (.prod (.int j) (.prod (.int j) .unit)) b q k ->
   (@Fb _ _ (decDen _) q c=none/\@A_ _ _ (decDen _) q c=none/\(Instr.findAsking l (DJ (.prod (.int j) (.prod (.int j) .unit)) c) k i).run P w = .ok none w) \/
   (∃ x n z,@Fb _ _ (decDen _) q c=some n/\@A_ _ _ (decDen _) q c=some x/\(Instr.findAsking l (DJ (.prod (.int j) (.prod (.int j) .unit)) c) k i).run P w = .ok (some (i+n,z.val)) w/\k[n]? = some z/\Cl w F b x z.val/\z.key=DJ (.prod (.int j) (.prod (.int j) .unit)) c):=by
  intro q
  induction q with
  |nil=>rintro k i rfl;exact .inl ⟨rfl,rfl,by simp[Instr.findAsking]⟩
  |cons e' q ih=>
   rintro k i ⟨z,A,rfl,⟨R,I⟩,h3⟩
   obtain⟨a,x⟩:=e'
   have B:=(u w F a _).1 R
   simp only at I
   have J:=Q c a
   by_cases g:a=c
   ·subst g
    rw[Aar rfl]at J
    refine .inr ⟨x,0,z,by simp[Fb],by simp[A_],?_,rfl,I,B⟩
    simp[Instr.findAsking,B,J]
   ·rw[Aaq (fun h=>g h.symm)]at J
    have hfn:(Instr.findAsking l (DJ (.prod (.int j) (.prod (.int j) .unit)) c) (z::A) i).run P w=(Instr.findAsking l (DJ (.prod (.int j) (.prod (.int j) .unit)) c) A (i+1)).run P w:=by
     simp[Instr.findAsking,B,J]
    rcases ih A (i+1) h3 with⟨S,T,q2⟩|⟨y,n,U,S,T,q2,q3,q4,q5⟩
    ·exact .inl ⟨by simp[Fb,g,S],by simp[A_,g,T],by grind⟩
    ·exact .inr ⟨y,n+1,U,by simp[Fb,g,S],by simp[A_,g,T],by grind,by grind,q4,q5⟩
 have hfk:∀ r,(Instr.findAsking l (DJ (.prod (.int j) (.prod (.int j) .unit)) c) k).run P w = .ok r w->(k=[]->r=none)->(Instr.findKey l (DJ (.prod (.int j) (.prod (.int j) .unit)) c) k).run P w = .ok r w:=by
  intro r V G;cases k with
   |nil=>simp[Instr.findKey,run_underlying H,Instr.findNow,G rfl]
   |cons z k=>simp only[Instr.findKey,Sem.run_bind,run_underlying H,Result.andThen_ok,Instr.findNow,Instr.sameNow];exact V
 grind
theorem UJ{a:TypeId}{t:Ty}(h:dt P a=some t):AKw P a t:=by unfold dt at h;split at h;rename_i t' hi;cases h;unfold AO0 at hi;split at hi;rename_i k b;cases hi;exact UI b;grind;split at h;rename_i n t' c d;split at h;rename_i hd;cases h;exact ABW c (AdJ hd);grind;exact AOr h
end
section
variable {P:Program} {E:Env}
theorem AOz{w:World}{F:Nat->Prop}{m:Mp}{H:List Ob}:∀ {cs:List AV} {l:List (IntKind×Int)} {us:List Value},vJ cs=some l->BG w F m H cs us->us=l.map fun p=>Value.int p.1 p.2:=by
 intro cs;induction cs with
  |nil=>intro l us h a;simp only[vJ,Aas]at h;subst h;unfold BG at a;exact a
  |cons c cs b=>intro l us h a;unfold vJ at h;split at h;grind;rename_i k n r d;cases d;simp only[Aa0]at h;obtain⟨j,e,rfl⟩:=h;unfold BG at a;obtain⟨u,f,rfl,g,i⟩:=a;rw[Bv g,b e i];rfl;grind
theorem AOx{w:World}{F:Nat->Prop}{m:Mp}{H:List Ob}:∀ (l:List (IntKind×Int)),BG w F m H (l.map fun p=>AV.data (.int p.1) p.2) (l.map fun p=>Value.int p.1 p.2):=by
 intro l;induction l with
  |nil=>unfold BG;rfl
  |cons p l a=>simp only[AbL];unfold BG;exact⟨_,_,rfl,Bj _ _,a⟩
theorem Rw(T:TypeId)(x:Operand):Claim P E (.makeInterface T x):=by
 intro R ty ρ H fz slot k r h;simp only[evalOp,Ft]at h;split at h;rename_i t l f a d;refine⟨_,_,h,fun u v=>by simp only[evalOp,Ft,f,a,d],BD fun w F m ρc o e n hi g => ?_⟩;cases i:cells? (ρ x)with
  |none=>grind
  |some cs=>
   rw[i]at d;simp only[Abh]at d;obtain⟨vs,j⟩:=NC a (g x);have b:=cells?_ok i (g x);rw[j]at b;have q:=AOz d b;simp only[Value.cells]at q;refine⟨Ll (some (T,l)),?_,by unfold Rep;rfl⟩;have s:vs=(l.map fun p=>Value.int p.1 p.2).toArray:=by grind
   simp[execOp,e,j,Instr.makeInterface,run_underlying f,Ll,s]
 grind
theorem X'(x:Operand)(S T:TypeId)(ok:Bool):Claim P E (.typeAssert x S T ok):=by
 intro R ty ρ H fz slot k r h;simp only[evalOp,FV]at h;split at h;rename_i W t cs q e G I;split at h;rename_i f;have g:=f;rw[Aau]at g;obtain⟨rfl,J⟩:=g;obtain⟨L,M,i,z,v,y,A,U,B⟩:=Ci G;have C:∀ (w:World) (F:Nat->Prop) (m:Mp),Rep w F m H (.agg cs) z:=by
  intro w F m;rw[J]at B;cases z with
   |agg V=>unfold Rep;exact⟨V,rfl,JA _ _ A,NL _ _ A⟩
   |_=>simp[Sx]at B
 have j:∀ (w:World) (F:Nat->Prop) (m:Mp) (a:AV) (u:Value) (b:Bool),Rep w F m H a u->Rep w F m H (.tup [a,.data .bool b]) (.tuple #[u,.bool b]):=by intro w F m a u b h;unfold Rep;refine⟨_,rfl,?_⟩;unfold BG;exact⟨u,_,rfl,h,QJ (B' _)⟩
 have K:∀ {w:World} {F:Nat->Prop} {m:Mp} {ρc:Operand->Value},(∀ x,Rep w F m H (ρ x) (ρc x))->ρc x=Ll q:=by intro w F m ρc n;have N:=I▸n x;unfold Rep at N;exact N
 split at h;refine⟨_,_,h,fun O Q=>by simp only[evalOp,FV,e,G,I,f],BD fun w F m ρc o d D hi n=>⟨_,?_,j w F m _ z false (C w F m)⟩⟩;simp[execOp,d,K n,Ll,Instr.typeAssert,run_underlying e,CH v y];rename_i X l;split at h;rename_i s;refine⟨_,_,h,fun O Q=>by simp only[evalOp,FV,e,G,I,f,s],BD fun w F m ρc o d D hi n=>⟨_,?_,j w F m _ (.agg (l.map fun p=>Value.int p.1 p.2).toArray) true ?_⟩⟩;simp only[Aat]at s;simp[execOp,d,K n,Ll,Instr.typeAssert,run_underlying e,s];unfold Rep;refine⟨_,rfl,by simpa using AOx l,fun u e => ?_⟩;simp only[AbA]at e;obtain⟨p,_,rfl⟩:=e;rfl;rename_i s;refine⟨_,_,h,fun O Q=>by simp only[evalOp,FV,e,G,I,f,s],BD fun w F m ρc o d D hi n=>⟨_,?_,j w F m _ z false (C w F m)⟩⟩;simp only[AbX]at s;simp[execOp,d,K n,Ll,Instr.typeAssert,run_underlying e,CH v y,s];grind;grind
end
section
variable {P:Program} {E:Env}
theorem ACp(G:∀ g,BS P g (E.spec g))(f:Operand)(args:Array Operand)(ts:Array TypeId):Claim P E (.call { callee:=.value f,args:=args,argTypes:=ts }):=by
 intro R ty ρ H fz slot k r h;simp only[evalOp,Lq]at h;split at h
 ·rename_i g l q;obtain⟨v,e,t,I,x,y⟩:=G g R _ H fz slot k r h;refine⟨v,e,t,fun J K=>by simp only[evalOp,Lq,q];grind,?_⟩;intro w F m a o next Q p z hi A L
  have d:=A f;rw[q]at d;unfold Rep at d;obtain⟨cs,B,C⟩:=d;have j:BG w F m H (args.toList.map ρ++l) ((args.map a.eval++cs).toList):=by rw[Array.toList_append,AcU];exact Is (EV (by simp) fun i c v M N=>by grind) C
  have b:=y w F m _ hi j;rw[Ac0]at b;unfold Oper.wp;have n:(execOp a.eval o).run P w = .ok (.enter g (args.map a.eval++cs)) w:=by simp[execOp,p,resolve,B,Deferred.ofValue,invoke,x _ w]
  rw[n];exact b.mono fun O w' ⟨u,D,S,T,U,s⟩=>by grind
 ·rename_i g l q;obtain⟨v,e,t,I,x,y⟩:=G g R _ H fz slot k r h;refine⟨v,e,t,fun J K=>by simp only[evalOp,Lq,q];grind,?_⟩;intro w F m a o next Q p z hi A L
  have d:=A f;rw[q]at d;unfold Rep at d;obtain⟨cs,B,C⟩:=d;have j:BG w F m H (l++args.toList.map ρ) ((cs++args.map a.eval).toList):=by rw[Array.toList_append,AcU];exact Is C (EV (by simp) fun i c v M N=>by grind)
  have b:=y w F m _ hi j;rw[Ac0]at b;unfold Oper.wp;have n:(execOp a.eval o).run P w = .ok (.enter g (cs++args.map a.eval)) w:=by simp[execOp,p,resolve,B,Deferred.ofValue,invoke,x _ w]
  rw[n];exact b.mono fun O w' ⟨u,D,S,T,U,s⟩=>by grind
 grind
theorem yb{T:TypeId}(h:ADa P T=true):P.underlying T=some .string:=by unfold ADa at h;grind
theorem qQ{T:TypeId}(h:aU P T=true):∃ e,P.underlying T=some (.slice e)/\P.underlying e=some (.int .u8):=by unfold aU at h;grind
theorem zK{w:World}{F:Nat->Prop}:∀ {xs:List Int} {a:List Value},rows (Dat w F (.int .u8)) xs a->a=xs.map (Value.int .u8):=by
 intro xs;induction xs with
  |nil=>rintro a rfl;rfl
  |cons x xs c=>
   rintro a ⟨d,c2,rfl,b,e⟩;rw[c e];have b:d=[.int .u8 x]:=by simpa [Dat]using b
   grind
theorem zb:∀ (xs:List Int) (s:ByteArray),bytesOf (xs.foldl (fun r n=>r.push (UInt8.ofNat n.toNat)) s)=bytesOf s++Kq xs:=by
 intro xs;induction xs with
  |nil=>intro s;simp[Kq]
  |cons x xs a=>intro s;rw[Abu,a];simp[bytesOf,Kq,ByteArray.push]
theorem AQT{S T:TypeId}{x:Operand}{w:World}{F:Nat->Prop}{m:Mp}{H:List Ob}{fz:List Bool}{v:AV}{xs:List Int}{p:List Nat}{ρc:Operand->Value}{o:Oper}(f:o.op = .convert S T x)
  (q:aU P S=true) (hd:ADa P T=true) (hi:HI w F m H fz) (s:GW H (.slice (.int .u8)) v=some (xs,p)) (t:Rep w F m H v (ρc x)) :
  ∃ u,(execOp ρc o).run P w = .ok (.value u) w/\Rep w F m H (.str (Kq xs)) u:=by
 obtain⟨e,h,i⟩:=qQ q;have k:=yb hd;obtain⟨a,cap,l,y,z,news,b,d⟩:=E8 hi s t;cases a with
  |none=>
   have g:xs=[]:=by grind
   subst g;refine⟨.string ByteArray.empty,?_,?_⟩;simp[execOp,f,l,run_convert_bytes_string w S T e none _ _ h i k,Conv.bytesToString];unfold Rep;exact⟨_,rfl,rfl⟩
  |some ad=>
   have A:=zK b;subst A;have B:(Go.loadCells ad xs.length).run P w = .ok (xs.map (Value.int .u8)).toArray w:=by have:=run_loadCells_list (P:=P) w ad (xs.map (Value.int .u8)) (fun j v C=>d ad rfl j v C);grind
   refine⟨.string (xs.foldl (fun r n=>r.push (UInt8.ofNat n.toNat)) ByteArray.empty),?_,?_⟩;simp[execOp,f,l,run_convert_bytes_string w S T e (some ad) _ _ h i k,run_bytesToString w ad _ cap xs B];unfold Rep;exact⟨_,rfl,(zb _ _).trans (AbW _)⟩
theorem iK(S T:TypeId)(x:Operand):Claim P E (.convert S T x):=by intro R ty ρ H fz slot k r h;simp only[evalOp,Hq]at h;split at h;rename_i t n j b e i;refine⟨_,_,h,fun l p=>by simp only[evalOp,Hq,b,e,i],BD fun w F m ρc o a f hi g=>⟨.int j (j.wrap n),?_,Bj _ _⟩⟩;have q:=Bv (b▸g x);obtain⟨d,hd⟩:=Ab0.1 e;simp[execOp,a,q,convert,run_underlying hd,run_underlying (Ic i),Conv.intToInt];rename_i v u y s;split at h;rename_i e hd;split at h;rename_i xs z b;refine⟨_,_,h,fun l p => ?_,BD fun w F m ρc o a f hi g=>AQT a e hd hi b (g x)⟩;simp only[evalOp,Hq];grind;grind;grind
theorem T3{w:World}{F:Nat->Prop}{k:IntKind}{n:Int}{v:Value}(h:Cl w F (.int k) n v):v = .int k n:=by unfold Cl at h;have h:Dat w F (.int k) n [v]:=h;simpa [Dat]using h
theorem Ch{w:World}{r:Nat}{b:Array MapEntry}{a:Nat}(h:w.heap[r]? = some (.map b a)):(getObj r).run P w = .ok (.map b a) w:=by simp[getObj,Sem.run,h]
theorem LS{b:TypeId}{j:IntKind}(d:P.underlying b=some (.int j)){a:Int}{c:List MapEntry}{w:World}{r:Option (Nat×Value)}(h:Instr.findNow (.int j) (.int j a) c 0=some r):(Instr.findKey b (.int j a) c).run P w = .ok r w:=by simp[Instr.findKey,run_underlying d,h]
theorem ko{g:TypeId}{j:IntKind}(o:P.underlying g=some (.int j)){w:World}(b:Int){c:List Int}{d:Array MapEntry}(h:d.toList.map (·.key)=c.map (Value.int j)):
  (GU c b=c.length/\(Instr.findKey g (.int j b) d.toList).run P w = .ok none w) \/
  (∃ e,GU c b<c.length/\d.toList[GU c b]? = some e/\e.key = .int j b/\c[GU c b]? = some b/\(Instr.findKey g (.int j b) d.toList).run P w = .ok (some (GU c b,e.val)) w):=by
 have k:∀ (c:List Int) (d:List MapEntry) (i:Nat),d.map (·.key)=c.map (Value.int j) ->
   (GU c b=c.length/\Instr.findNow (.int j) (.int j b) d i=some none) \/
   (∃ e,GU c b<c.length/\d[GU c b]? = some e/\e.key = .int j b/\c[GU c b]? = some b/\Instr.findNow (.int j) (.int j b) d i=some (some (i+GU c b,e.val))):=by
  intro c
  induction c with
  |nil=>
   intro d i h
   have:d=[]:=by simp_all
   subst this
   exact .inl ⟨rfl,rfl⟩
  |cons a c t=>
   intro d i h
   cases d with
   |nil=>simp at h
   |cons e d=>
    simp only[AbL,AbR]at h
    obtain⟨l,h⟩:=h
    by_cases f:a=b
    ·subst f
     refine .inr ⟨e,by simp[GU],by simp[GU],l,by simp[GU],?_⟩
     simp[Instr.findNow,Instr.sameNow,l,GU]
    ·have q:Instr.findNow (.int j) (.int j b) (e::d) i=Instr.findNow (.int j) (.int j b) d (i+1):=by
      have:(b==a)=false:=by grind
      simp[Instr.findNow,Instr.sameNow,l,this]
     have u:GU (a::c) b=GU c b+1:=by simp[GU,f]
     grind
 rcases k c d.toList 0 h with⟨m,n⟩|⟨e,m,r,n,s,p⟩
 exact .inl ⟨m,LS o n⟩;rw[Abo]at p;exact .inr ⟨e,m,r,n,s,LS o p⟩
theorem AJd{q:TypeId}{j:IntKind}(u:P.underlying q=some (.int j)){w:World}(b:Int){β:Type}{V:β->Value->Prop}{c:List (Int×β)}{g:List MapEntry}(h:ea (fun d v=>v = .int j d) V c g):
  (A_ c b=none/\(Instr.findKey q (.int j b) g).run P w = .ok none w) \/
  (∃ (x:β) (n:Nat) (f:MapEntry),A_ c b=some x/\(Instr.findKey q (.int j b) g).run P w = .ok (some (n,f.val)) w/\V x f.val):=by
 have r:∀ (c:List (Int×β)) (g:List MapEntry) (i:Nat),ea (fun d v=>v = .int j d) V c g ->
   (A_ c b=none/\Instr.findNow (.int j) (.int j b) g i=some none) \/
   (∃ (x:β) (n:Nat) (f:MapEntry),A_ c b=some x/\Instr.findNow (.int j) (.int j b) g i=some (some (n,f.val))/\V x f.val):=by
  intro c
  induction c with
  |nil=>rintro g i rfl;exact .inl ⟨rfl,rfl⟩
  |cons e c z=>
   rintro g i ⟨f,k,rfl,p,A,B⟩
   obtain⟨a,x⟩:=e
   have p:f.key = .int j a:=p
   by_cases l:a=b
   ·subst l
    refine .inr ⟨x,i,f,by simp[A_],?_,A⟩
    simp[Instr.findNow,Instr.sameNow,p]
   ·have C:Instr.findNow (.int j) (.int j b) (f::k) i=Instr.findNow (.int j) (.int j b) k (i+1):=by
     have:(b==a)=false:=by grind
     simp[Instr.findNow,Instr.sameNow,p,this]
    rcases z k (i+1) B with⟨m,o⟩|⟨y,n,s,m,o,t⟩
    ·exact .inl ⟨by simp[A_,l,m],by grind⟩
    ·exact .inr ⟨y,n,s,by simp[A_,l,m],by grind,t⟩
 rcases r c g 0 h with⟨m,o⟩|⟨x,n,f,m,o,t⟩
 exact .inl ⟨m,LS u o⟩;exact .inr ⟨x,n,f,m,LS u o,t⟩
theorem qG(T:TypeId)(mm x:Operand)(ok:Bool):Claim P E (.lookup T mm x ok):=by
 intro R ty ρ H fz slot k r h;simp only[evalOp,E6]at h;split at h;rename_i kt vt id B S;split at h;rename_i ka b es N;split at h;rename_i b' cs' hkt A;split at h;rename_i a fr X O;simp only[Aat]at X;subst X;have Y:=hkt;simp only[Aat]at Y;have hK:=UJ Y;obtain⟨l,p,i,z,D,G,I,hsz,J⟩:=Ci A;subst p
 have q:∀ (w:World) (F:Nat->Prop) (m:Mp) (ρc:Operand->Value) (o:Oper),o.op = .lookup T mm x ok->HI w F m H fz->(∀ x,Rep w F m H (ρ x) (ρc x)) ->
   ∃ u,(execOp ρc o).run P w = .ok (.value (if ok then .tuple #[u,.bool (A_ (α:=ka.den) es a).isSome]else u)) w/\Cl w F b' ((A_ (α:=ka.den) es a).getD b'.zero) u:=by
  intro w F m ρc o d hi v
  have f:=v mm
  rw[S]at f
  unfold Rep at f
  rw[N]at f
  obtain⟨bb,c,e1,U⟩:=f
  obtain⟨b2,c',Z,K,e3,V,e5,_⟩:=hi.obj id _ N
  rw[e1]at e3;cases e3
  have s:ρc x=DJ ka a:=(hK.rep _ _ _ _).1 (EU hi O (v x))
  have g:=hK.check w Z.isEmpty a
  rcases hK.find w F _ a es Z.toList e5 with⟨_,C,L⟩|⟨y,n,me,_,C,L,q3,q4,_⟩
  ·refine⟨z,?_,by rw[C];exact QO I J⟩
   rw[C]
   simp only[execOp,d,U,s,Instr.lookup,Sem.run_bind,run_underlying B,Result.andThen_ok,Ch V,g,L,CH D G,Sem.run_pure]
   simp
  ·refine⟨me.val,?_,by grind⟩
   rw[C]
   simp only[execOp,d,U,s,Instr.lookup,Sem.run_bind,run_underlying B,Result.andThen_ok,Ch V,g,L,Sem.run_pure]
   simp
 split at h;refine⟨_,_,h,fun R' k'=>by simp only[evalOp,E6,B,S,N,hkt,A,Aa6,O],BD fun w F m ρc o d W hi v => ?_⟩;obtain⟨u,Q,h2⟩:=q w F m ρc o d hi v;refine⟨_,Q,?_⟩;unfold Rep;refine⟨_,rfl,?_⟩;unfold BG;refine⟨u,_,rfl,by unfold Rep;exact h2,QJ (B' _)⟩;refine⟨_,_,h,fun R' k'=>by simp only[evalOp,E6,B,S,N,hkt,A,Aa6,O],BD fun w F m ρc o d W hi v => ?_⟩;obtain⟨u,Q,h2⟩:=q w F m ρc o d hi v;exact⟨u,Q,by unfold Rep;exact h2⟩;grind;grind;rename_i j ks e t xs ver N;split at h;rename_i e' t' hk hsl A;split at h;rename_i a fr he O;refine⟨_,_,h,fun R' k'=>by simp only[evalOp,E6,B,S,N,hk,hsl,A,he,O],BD fun w F m ρc o d W hi v => ?_⟩;simp only[Aat]at hk he;simp only[Aau,Ab8,Ab0]at A;obtain⟨⟨⟨b',cs'⟩,A⟩,rfl⟩:=A;obtain⟨l,p,i,z,D,G,I,hsz,J⟩:=Ci A;subst p;obtain⟨hu2,hty2,hpos2⟩:=Cy hsl;have htt:∃ y,b' = .slice y:=by unfold mP ZR at l;rw[hu2]at l;simp only[Aa0]at l;grind
 obtain⟨y,rfl⟩:=htt;have hz1:z = .slice none 0 0:=by
  have Q:z.cells.toList=[.slice none 0 0]:=Ca (w:=w) (F:=F) (.nul y) _ I;cases z with
   |agg vs=>simp[Sx,Ty.isAgg]at J
   |_=>simp[Value.cells]at Q<;>first|exact Q|grind
 have f:=v mm;rw[S]at f;unfold Rep at f;rw[N]at f;obtain⟨bb,c,e1,U⟩:=f;obtain⟨_,e3⟩:=hi.obj id _ N;rw[e1]at e3;obtain⟨Z,K,V,e5,e6,e7,_⟩:=e3;have e7:=e7.resolve_right fun h=>by cases h.1
 have s:ρc x = .int j a:=T3 (EU hi O (v x));have M:=Ic hk;have g:=(UI M).check w Z.isEmpty a;have g:(Instr.checkKey Z.isEmpty 10000 kt (.int j a)).run P w = .ok () w:=g;rcases ko (w:=w) M a e6 with⟨C,L⟩|⟨me,C,L,q3,q4,q5⟩
 refine⟨.slice none 0 0,?_,?_⟩;simp only[execOp,d,U,s,Instr.lookup,Sem.run_bind,run_underlying B,Result.andThen_ok,Ch V,g,L,CH D G,Sem.run_pure,hz1];rfl;unfold Rep;rw[N];exact⟨rfl,Aax _,fun _=>.inr ⟨rfl,by omega,rfl⟩⟩;obtain⟨b3,c3,u,r1,⟨ms',clock',en,r2,r3,r4⟩,r5⟩:=sd hi N (k:=GU ks a) (by omega);rw[e1]at r1;cases r1;rw[V]at r2;cases r2;rw[L]at r3;cases r3;subst r4;refine⟨me.val,?_,r5⟩;simp only[execOp,d,U,s,Instr.lookup,Sem.run_bind,run_underlying B,Result.andThen_ok,Ch V,g,q5,Sem.run_pure];rfl;grind;grind;grind;rename_i kt vt j b es B S;split at h;rename_i b' cs' hk A;split at h;rename_i a fr X O;have hb0:=X;have hk0:=hk;simp only[Aau,Aat,Ab8]at X;simp only[Aat]at hk;obtain⟨X,hag⟩:=X;subst X;obtain⟨l,p,i,z,D,G,I,hsz,J⟩:=Ci A;subst p;have M:=Ic hk
 have q:∀ (w:World) (F:Nat->Prop) (m:Mp) (ρc:Operand->Value) (o:Oper),o.op = .lookup T mm x ok->HI w F m H fz->(∀ x,Rep w F m H (ρ x) (ρc x)) ->
   ∃ u,(execOp ρc o).run P w = .ok (.value (if ok then .tuple #[u,.bool (A_ (α:=Int) es a).isSome]else u)) w/\Cl w F b' ((A_ (α:=Int) es a).getD b'.zero) u:=by
  intro w F m ρc o d hi v
  have f:=v mm
  rw[S]at f
  have f:Dat w F (.mapi j b') es [ρc mm]:=f
  obtain⟨bb,Z,K,U,e3,V,e5⟩:=f
  simp only[AbR,AdG]at U
  have s:ρc x = .int j a:=T3 (EU hi O (v x))
  have g:=(UI M).check w Z.isEmpty a
  have g:(Instr.checkKey Z.isEmpty 10000 kt (.int j a)).run P w = .ok () w:=g
  rcases AJd (w:=w) M a e5 with⟨C,L⟩|⟨y,n,me,C,L,q4⟩
  ·refine⟨z,?_,by rw[C];exact QO I J⟩
   rw[C]
   simp only[execOp,d,U,s,Instr.lookup,Sem.run_bind,run_underlying B,Result.andThen_ok,Ch V,g,L,CH D G,Sem.run_pure]
   simp
  ·refine⟨me.val,?_,by rw[C];unfold Cl;grind⟩
   rw[C]
   simp only[execOp,d,U,s,Instr.lookup,Sem.run_bind,run_underlying B,Result.andThen_ok,Ch V,g,L,Sem.run_pure]
   simp
 split at h;refine⟨_,_,h,fun R' k'=>by simp only[evalOp,E6,B,S,hk0,A,Aa6,hag,AbF,Aby,O],BD fun w F m ρc o d W hi v => ?_⟩;obtain⟨u,Q,h2⟩:=q w F m ρc o d hi v;refine⟨_,Q,?_⟩;unfold Rep;refine⟨_,rfl,?_⟩;unfold BG;refine⟨u,_,rfl,by unfold Rep;exact h2,QJ (B' _)⟩;refine⟨_,_,h,fun R' k'=>by simp only[evalOp,E6,B,S,hk0,A,Aa6,hag,AbF,Aby,O],BD fun w F m ρc o d W hi v => ?_⟩;obtain⟨u,Q,h2⟩:=q w F m ρc o d hi v;exact⟨u,Q,by unfold Rep;exact h2⟩;grind;grind;grind
theorem EF{w:World}{r:Nat}{d c:Array MapEntry}{b a:Nat}(h:w.heap[r]? = some (.map d b)):
  (setObj r (.map c a)).run P w = .ok () { w with heap:=w.heap.setIfInBounds r (.map c a) }:=by simp[setObj,Sem.run,h]
theorem Hy.push{b:Array MapEntry}{a:Nat}(h:Hy b a)(key val:Value):Hy (b.push { key:=key,val:=val,born:=a }) (a+1):=by obtain⟨c,d⟩:=h;refine⟨by grind,fun i e f => ?_⟩;grind
theorem Hy.modify{b:Array MapEntry}{a:Nat}(h:Hy b a)(n:Nat){f:MapEntry->MapEntry}(c:∀ e,(f e).born=e.born):Hy (b.modify n f) a:=by obtain⟨d,g⟩:=h;refine⟨by grind,fun i e j => ?_⟩;grind
theorem Zb(T:TypeId)(mm x y:Operand):Claim P E (.mapUpdate T mm x y):=by
 intro R ty ρ H fz slot k r h
 simp only[evalOp,GL]at h
 split at h
 ·rename_i kt vt id hu hm
  split at h
  ·rename_i K b es u
   split at h
   ·rename_i key fr0 val S hkt hx hy
    refine⟨_,_,h,fun R' L=>by simp only[evalOp,GL,hu,hm,u,hkt,hx,hy],FT fun w F m ρc o C hty hi U => ?_⟩
    have O:=hkt
    simp only[Aat]at O
    have hK:=UJ O
    have D:=BU.freeze hi S
    have l:=U mm
    rw[hm]at l
    unfold Rep at l
    rw[u]at l
    obtain⟨bb,c,V,e2⟩:=l
    obtain⟨b2,c',q,f,e3,z,e5,e6⟩:=D.2.obj id _ u
    rw[V]at e3;cases e3
    have G:ρc x=DJ K key:=(hK.rep _ _ _ _).1 (EU hi hx (U x))
    have hvd:=EU hi hy (U y)
    have I:=hK.check w false key
    have W:=hK.stays w key
    have hlt:=CR z
    have p:∀ (g:Array MapEntry) (d:Nat),K3 w (EO F m H S) K b (BH (α:=K.den) es key val) g.toList->Hy g d ->
      BU w (EO F m H S) m H (BN S fz) { w with heap:=w.heap.setIfInBounds bb (.map g d) } (EO F m H S) m (H.set id (.map K b (BH (α:=K.den) es key val))) (BN S fz):=by
     intro g d he X
     refine BU.set D.2 (GH u) V u trivial rfl rfl rfl (by simp) (fun k Y=>by grind) fun _ => ?_
     refine⟨bb,c,g,d,V,by grind,?_,X⟩
     refine he.mono (fun a ha => ?_) (fun _ h=>h)
     have:a≠bb:=by rintro rfl;exact D.2.off id _ c (GH u) V ha
     grind
    obtain⟨s1,s2⟩:=hK.store key val _ hvd e5
    rcases hK.find w _ _ key es q.toList e5 with⟨Q,_,A⟩|⟨y',n,me,Q,_,A,q3,q4,q5⟩
    ·have Z:=p (q.push { key:=DJ K key,val:=ρc y,born:=f }) (f+1) (by grind) (e6.push _ _)
     refine⟨_,_,m,?_,D.trans Z⟩
     simp only[execOp,C,e2,G,Instr.mapUpdate,Sem.run_bind,run_underlying hu,Result.andThen_ok,Ch z,I,A,EF z,Sem.run_pure]
    ·have Z:=p (q.modify n fun e=>{ e with key:=DJ K key,val:=ρc y }) f (by grind) (e6.modify _ fun _=>rfl)
     refine⟨_,_,m,?_,D.trans Z⟩
     have hgetn:q[n]? = some me:=by grind
     have J:(((q[n]?).map (·.key)).getD (DJ K key))=DJ K key:=by grind
     simp only[execOp,C,e2,G,Instr.mapUpdate,Sem.run_bind,run_underlying hu,Result.andThen_ok,Ch z,I,A,J,W,EF z,Sem.run_pure]
   grind
  ·rename_i j B e t xs ver i' u
   split at h
   ·rename_i key S id' i ver' Y hx hy
    split at h
    ·rename_i hid
     split at h
     ·rename_i hii
      refine⟨_,_,h,fun R' L=>by simp only[evalOp,GL,hu,hm,u,Y,hx,hy,hid,hii],FT fun w F m ρc o C hty hi U => ?_⟩
      simp only[Aau,Aat]at Y hid
      obtain⟨Y,hun⟩:=Y
      obtain⟨rfl,rfl⟩:=hid
      simp only[Aau,DF,Ace]at hii
      obtain⟨h1,h2⟩:=hii
      have h1:i=i':=by omega
      have h2:GU B key=i':=by omega
      subst h1
      have hun':fz.getD id false=false:=by unfold BO at hun;grind
      have l:=U mm
      rw[hm]at l
      unfold Rep at l
      rw[u]at l
      obtain⟨bb,c,V,e2⟩:=l
      obtain⟨_,e3⟩:=hi.obj id _ u
      rw[V]at e3
      obtain⟨q,f,z,e5,e6,e7,e8⟩:=e3
      have G:ρc x = .int j key:=T3 (EU hi hx (U x))
      have hku:=Ic Y
      have I:(Instr.checkKey false 10000 kt (.int j key)).run P w = .ok () w:=(UI hku).check w false key
      have W:(Instr.keyThatStays (.int j key) (.int j key)).run P w = .ok (.int j key) w:=(UI hku).stays w key
      have M:=U y
      rw[hy]at M
      unfold Rep at M
      rw[u]at M
      obtain⟨hone,_,h7⟩:=M
      have h7:=h7 rfl
      have hlt:=CR z
      have hmk:q.toList.length=B.length:=by have:=Abx List.length e6;grind
      obtain⟨ys,hys,hrep⟩:∃ ys:List t.den,xs[i]? = some ys/\By (some (.arr 0 t ys)) (m (.r id i)) (ρc y):=by
       grind
      have p:∀ (g:Array MapEntry) (d:Nat),Hy g d->g.toList.map (·.key)=(Oo B i key).map (Value.int j)->xs.length=(Oo B i key).length->(∃ s,g.toList[i]? = some s/\s.val=ρc y)->(∀ L s,L≠i->q.toList[L]? = some s->∃ N,g.toList[L]? = some N/\N.val=s.val) ->
        BU w F m H fz { w with heap:=w.heap.setIfInBounds bb (.map g d) } F m (H.set id (.rows (.map j (Oo B i key)) e t xs ver none)) fz:=by
       intro g d X hks hxl hat hoth
       refine BU.AZ5 hi u hun' hys rfl V hrep rfl rfl rfl (by simp) (fun k Y=>by grind) (fun _=>⟨⟨g,d,by grind,X,hks,.inl hxl,fun k h=>by cases h⟩,?_⟩) ?_
       ·obtain⟨s,Q,A⟩:=hat
        exact⟨g,d,s,by grind,Q,A⟩
       ·rintro L v hne ⟨ms2,clock2,s,Q,A,q3⟩
        rw[z]at Q;cases Q
        obtain⟨N,q4,q5⟩:=hoth L s hne A
        exact⟨g,d,N,by grind,q4,q5.trans q3⟩
      rcases ko (w:=w) hku key e6 with⟨Q,A⟩|⟨me,Q,A,q3,q4,q5⟩
      ·have hxl:xs.length=B.length+1:=by
        grind
       have hdp:Oo B i key=B++[key]:=by unfold Oo;grind
       have Z:=p (q.push { key:=.int j key,val:=ρc y,born:=f }) (f+1) (e5.push _ _) (by grind) (by grind)
        ⟨_,by rw[Array.toList_push,Abb (by omega),show i-q.toList.length=0 from by omega];rfl,rfl⟩
        (fun L s hne hk'=>⟨s,by grind,rfl⟩)
       refine⟨_,F,m,?_,Z⟩
       simp only[execOp,C,e2,G,Instr.mapUpdate,Sem.run_bind,run_underlying hu,Result.andThen_ok,Ch z,I,A,EF z,Sem.run_pure]
      ·have hilt:i<B.length:=by omega
       have hxl:xs.length=B.length:=by
        grind
       have hdp:Oo B i key=B:=by
        unfold Oo
        rw[Aa5 hilt]
        apply Abe
        grind
       rw[h2]at A q5
       have hgetn:q[i]? = some me:=by grind
       have Z:=p (q.modify i fun e=>{ e with key:=.int j key,val:=ρc y }) f (e5.modify _ fun _=>rfl) (by
         rw[hdp,<- e6,Array.toList_modify]
         apply Abe
         grind) (by grind)
        ⟨_,by rw[Array.toList_modify,List.getElem?_modify,A];simp only[Abc];rfl,rfl⟩
        (fun L s hne hk'=>⟨s,by grind,rfl⟩)
       refine⟨_,F,m,?_,Z⟩
       have J:(((q[i]?).map (·.key)).getD (.int j key)) = .int j key:=by grind
       simp only[execOp,C,e2,G,Instr.mapUpdate,Sem.run_bind,run_underlying hu,Result.andThen_ok,Ch z,I,q5,J,W,EF z,Sem.run_pure]
     grind
    grind
   grind
  grind
 grind
theorem qH(T:TypeId)(W x y:Operand):Claim P E (.insert T W x y):=by
 intro R ty ρ H fz slot k r h;simp only[evalOp,Px]at h;split at h;rename_i kt vt id J X;split at h;rename_i j b K s;split at h;rename_i key fr0 val t u Y Z;refine⟨_,_,h,fun R' k'=>by simp only[evalOp,Px,J,X,s,u,Y,Z],FT fun w F m ρc o v hty hi L => ?_⟩;have p:=u;simp only[Aat]at p;have z:=UJ p;have g:=BU.freeze hi t;have l:=L W;rw[X]at l;unfold Rep at l;rw[s]at l;obtain⟨M,c,I,e2⟩:=l;obtain⟨b2,c',A,f,e3,B,e5,e6⟩:=g.2.obj id _ s;rw[I]at e3;cases e3;have C:ρc x=DJ j key:=(z.rep _ _ _ _).1 (EU hi Y (L x));have N:=EU hi Z (L y);have D:=z.check w false key;have O:=z.stays w key;have hlt:=CR B
 have q:∀ (i:Array MapEntry) (d:Nat),K3 w (EO F m H t) j b (BH (α:=j.den) K key val) i.toList->Hy i d ->
   BU w (EO F m H t) m H (BN t fz) { w with heap:=w.heap.setIfInBounds M (.map i d) } (EO F m H t) m (H.set id (.map j b (BH (α:=j.den) K key val))) (BN t fz):=by
  intro i d he Q
  refine BU.set g.2 (GH s) I s trivial rfl rfl rfl (by simp) (fun k hk=>by grind) fun _ => ?_
  refine⟨M,c,i,d,I,by grind,?_,Q⟩
  refine he.mono (fun a ha => ?_) (fun _ h=>h)
  have:a≠M:=by rintro rfl;exact g.2.off id _ c (GH s) I ha
  grind
 obtain⟨s1,s2⟩:=z.store key val _ N e5;rcases z.find w _ _ key K A.toList e5 with⟨q1,_,S⟩|⟨y',n,me,q1,_,S,q3,q4,q5⟩
 have U:=q (A.push { key:=DJ j key,val:=ρc y,born:=f }) (f+1) (by grind) (e6.push _ _);refine⟨_,_,m,?_,g.trans U⟩;simp only[execOp,v,e2,C,Instr.mapUpdate,Sem.run_bind,run_underlying J,Result.andThen_ok,Ch B,D,S,EF B,Sem.run_pure];have U:=q (A.modify n fun e=>{ e with key:=DJ j key,val:=ρc y }) f (by grind) (e6.modify _ fun _=>rfl);refine⟨_,_,m,?_,g.trans U⟩;have V:A[n]? = some me:=by grind
 have G:(((A[n]?).map (·.key)).getD (DJ j key))=DJ j key:=by grind
 simp only[execOp,v,e2,C,Instr.mapUpdate,Sem.run_bind,run_underlying J,Result.andThen_ok,Ch B,D,S,G,O,EF B,Sem.run_pure];grind;grind;grind
theorem oF{a:Array MapEntry}{n:Nat}{b:MapEntry}(h:a[n]? = some b){f g:MapEntry->MapEntry}(c:f b=g b):a.modify n f=a.modify n g:=by grind
theorem fR(T:TypeId)(mm x:Operand):Claim P E (.mapEntry T mm x):=by
 intro R ty ρ H fz slot k r h;simp only[evalOp,Hp]at h;split at h;rename_i kt vt id Y hm;split at h;rename_i l b D A;split at h;rename_i b' cs' key fr G hz hx;split at h;rename_i hb;simp only[Aat]at hb;subst hb;refine⟨_,_,h,fun R' k'=>by simp only[evalOp,Hp,Y,hm,A,G,hz,hx,Aa6],Bt fun w F m ρc o I hty hi hr => ?_⟩;have s:=G;simp only[Aat]at s;have B:=UJ s;obtain⟨hty',J,i,z,Z,hz0,K,hsz,L⟩:=Ci hz;subst J;have q:=hr mm;rw[hm]at q;unfold Rep at q;rw[A]at q;obtain⟨bb,c,V,e2⟩:=q;obtain⟨b2,c',t,g,e3,M,W,X⟩:=hi.obj id _ A;rw[V]at e3;cases e3;have N:ρc x=DJ l key:=(B.rep _ _ _ _).1 (EU hi hx (hr x));have O:=B.check w false key;have hst:=B.stays w key;have hlt:=CR M
 have v:∀ (val:b'.den) (p:Array MapEntry) (f:Nat),K3 w F l b' (BH (α:=l.den) D key val) p.toList->Hy p f ->
   BU w F m H fz { w with heap:=w.heap.setIfInBounds bb (.map p f) } F m (H.set id (.map l b' (BH (α:=l.den) D key val))) fz:=by
  intro val p f he hbo
  refine BU.set hi (GH A) V A trivial rfl rfl rfl (by simp) (fun k hk=>by grind) fun _ => ?_
  refine⟨bb,c,p,f,V,by grind,?_,hbo⟩
  refine he.mono (fun a ha => ?_) (fun _ h=>h)
  have:a≠bb:=by rintro rfl;exact hi.off id _ c (GH A) V ha
  grind
 have Q:∀ (d:b'.den) (u:Value) (n:Nat),Cl w F b' d u->Rep w F m H (.tup [.data b' d,.data (.int .i64) (n:Int)]) (.tuple #[u,goInt (n:Int)]):=by intro d u n hd;unfold Rep;refine⟨_,rfl,?_⟩;unfold BG;exact⟨u,_,rfl,by unfold Rep;exact hd,QJ (Bj _ _)⟩
 have hlen:=eZ W;rcases B.find w _ _ key D t.toList W with⟨q1,q0,q2⟩|⟨y',n,y,q1,q0,q2,q3,q4,q5⟩
 obtain⟨s1,_⟩:=B.store key b'.zero z (QO K L) W;have C:=v b'.zero (t.push { key:=DJ l key,val:=z,born:=g }) (g+1) (by grind) (X.push _ _);have hp:Om (α:=l.den) D key=(g:Int):=by unfold Om;rw[q1,X.1];grind
 rw[q0,Option.getD_none,hp];refine⟨_,_,F,m,?_,C,C.1.rep hi (Q b'.zero z g (QO K L))⟩;simp only[execOp,I,e2,N,Instr.mapEntry,Sem.run_bind,run_underlying Y,Result.andThen_ok,Ch M,O,q2,CH Z hz0,EF M,Sem.run_pure];obtain⟨_,s2⟩:=B.store key y' y.val q4 W;have j:t[n]? = some y:=by grind
 have S:(t.modify n fun e=>{ e with key:=DJ l key,val:=y.val })=t.modify n fun e=>{ e with key:=DJ l key }:=oF j rfl;have C:=v y' (t.modify n fun e=>{ e with key:=DJ l key,val:=y.val }) g (by grind) (X.modify _ fun _=>rfl);rw[S]at C;have hp:Om (α:=l.den) D key=(n:Int):=by unfold Om;grind
 rw[q0,Abg,hp];have U:(((t[n]?).map (·.key)).getD (DJ l key))=DJ l key:=by grind
 have hbn:(((t[n]?).map fun x=>(x.born:Int)).getD 0)=(n:Int):=by rw[j];show(y.born:Int)=n;rw[X.2 n y j]
 refine⟨_,_,F,m,?_,C,C.1.rep hi (Q y' y.val n q4)⟩;simp only[execOp,I,e2,N,Instr.mapEntry,Sem.run_bind,run_underlying Y,Result.andThen_ok,Ch M,O,q2,U,hst,hbn,EF M,Sem.run_pure];grind;grind;grind;grind
theorem AP5{w:World}{F:Nat->Prop}{a b:Ty}(val:b.den)(v:Value)(i:Cl w F b val v):∀ {c:List (a.den×b.den)} {d:List MapEntry} (n:Nat),K3 w F a b c d->K3 w F a b (c.modify n fun e=>(e.1,val)) (d.modify n fun e=>{ e with val:=v }):=by
 intro c;induction c with
  |nil=>rintro d n rfl;cases n<;>rfl
  |cons e c j=>
   rintro d n ⟨k,f,rfl,⟨g,l⟩,h⟩;cases n with
    |zero=>exact⟨_,f,rfl,⟨g,i⟩,h⟩
    |succ n=>exact⟨k,_,rfl,⟨g,l⟩,j n h⟩
theorem AJe{b:Array MapEntry}{a:Nat}(h:Hy b a){i:Nat}(hi:i<b.size):b.findIdx? (fun e=>(e.born:Int)==(i:Int))=some i:=by rw[Array.findIdx?_eq_some_iff_getElem];refine⟨hi,?_,fun j c => ?_⟩;have:=h.2 i b[i] (by simp[hi]);grind;have:=h.2 j b[j] (by simp);grind
theorem YB(T:TypeId)(G s y:Operand):Claim P E (.entryStore T G s y):=by
 intro R ty ρ H fz slot k r h;simp only[evalOp,Gx]at h;split at h
 ·rename_i id i0 I J;split at h
  ·rename_i K b L j;split at h
   ·rename_i val l M;split at h;rotate_left;cases h;rename_i q;refine⟨_,_,h,fun R' k'=>by simp only[evalOp,Gx,I,J,j,M,q],FT fun w F m ρc o v S hi x => ?_⟩;have f:=BU.freeze hi l;have g:=x G;rw[I]at g;unfold Rep at g;rw[j]at g;obtain⟨z,c,t,U⟩:=g;obtain⟨b2,c',u,d,N,A,O,Q⟩:=f.2.obj id _ j;rw[t]at N;cases N;have i:=x s;rw[J]at i;unfold Rep at i;have B:=T3 i;have C:=EU hi M (x y);have V:=CR A;have p:=eZ O;rw[AbH]at p;rw[Aau,BR,BF,Acg,Acg]at q;obtain⟨n,rfl⟩:=Aaw q.1;have W:n<u.size:=by have:=q.2;unfold A2 at this;omega
    have D:=AJe Q W;have X:BU w (EO F m H l) m H (BN l fz) { w with heap:=w.heap.setIfInBounds z (.map (u.modify n fun e=>{ e with val:=ρc y }) d) } (EO F m H l) m (H.set id (.map K b (ZU L (n:Int) val))) (BN l fz):=by
     refine BU.set f.2 (GH j) t j trivial rfl rfl rfl (by simp) (fun k hk=>by grind) fun _ => ?_;refine⟨z,c,u.modify n fun e=>{ e with val:=ρc y },d,t,by grind,?_,Q.modify n fun _=>rfl⟩;have Y:K3 w (EO F m H l) K b (L.modify n fun e=>(e.1,val)) (u.modify n fun e=>{ e with val:=ρc y }).toList:=by rw[Array.toList_modify];exact AP5 val (ρc y) C n O
     unfold ZU;rw[Abn];refine Y.mono (fun a Z => ?_) (fun _ h=>h);have:a≠z:=by rintro rfl;exact f.2.off id _ c (GH j) t Z
     grind
    refine⟨_,_,m,?_,f.trans X⟩;simp only[execOp,v,U,B,Instr.entryStore,Sem.run_bind,Result.andThen_ok,Ch A,asInt,asIntOf,Sem.run_pure,D,EF A]
   grind
  grind
 grind
theorem FU(t:∀ g,BS P g (E.spec g))(o:Op):Claim P E o:=by
 cases o with
  |move x=>exact ACn x
  |assign x=>exact qI x
  |pick c a b=>exact ACm c a b
  |alloc T=>exact wh T
  |box T x=>exact AKR T x
  |build T parts=>exact wc T parts
  |buildSlice T len parts=>exact YC T len parts
  |load T x=>exact ACo T x
  |store T x y=>exact wX T x y
  |nilCheck x=>exact fQ x
  |binOp e T x y j=>exact wg e T x y j
  |unOp e T x=>exact ACl e T x
  |convert S T x=>exact iK S T x
  |makeFunc fn first cs=>exact fS fn first cs
  |makeMap T r=>exact iI T r
  |makeSlice T x y=>exact Zc T x y
  |slice T x p q l=>
   cases l with
    |none=>exact YA T x p q
    |some l=>exact Za T x p q l
  |fieldAddr T x f=>exact Ze T x f
  |field T x f=>exact wZ T x f
  |indexAddr T x y=>exact Zd T x y
  |index T x y=>exact wY T x y
  |lookup T m x ok=>exact qG T m x ok
  |mapUpdate T m x y=>exact Zb T m x y
  |insert T m x y=>exact qH T m x y
  |mapEntry T m x=>exact fR T m x
  |entryStore T m s y=>exact YB T m s y
  |extract x i=>exact iJ x i
  |makeInterface T x=>exact Rw T x
  |typeAssert x T j ok=>exact X' x T j ok
  |call c=>
   obtain⟨d,args,ts⟩:=c;cases d with
    |value f=>exact ACp t f args ts
    |invoke r n=>intro R ty ρ H fz slot k r h;simp[evalOp,Lq]at h
    |builtin b=>
     cases b with
      |len=>exact AKP args ts
      |append=>exact qJ args ts
      |cap=>exact AKQ args ts
      |min=>exact AKN args ts
      |max=>exact AKO args ts
      |clear=>exact wa args ts
      |_=>intro R ty ρ H fz slot k r h;simp[evalOp,JP]at h
  |_=>intro R ty ρ H fz slot k r h;simp[evalOp,JP]at h
end
class DfI where
 d:List Deferred
instance noDf:DfI:=⟨[]⟩
structure SI[DfI](w:World)(F:Nat->Prop)(m:Mp)(st:St)(a:Act):Prop where
 tmps:∀ t,Rep w F m st.heap (st.tmps.f t) (a.tmps.getD t undef)
 size:st.tmps.n=a.tmps.size
 heap:HI w F m st.heap st.frz
 defers:a.defers=DfI.d
def AVr[DfI]{R:Type}(r:R)(k:St->Option R)(w:World)(F:Nat->Prop)(m:Mp)(H:List Ob)(fz:List Bool)(c:Act)(w':World):Prop:=
 ∃ st' a b,k st'=some r/\SI w' a b st' c/\Ext w F m H fz w' a b st'.heap st'.frz
section
variable [DfI] {P:Program} {E:Env} {R:Type} {r:R}
theorem SI.put{w:World}{F:Nat->Prop}{m:Mp}{st:St}{a:Act}(h:SI w F m st a){v:AV}{u:Value}(f:Rep w F m st.heap v u)(d:Option Tmp):SI w F m (st.put d v) (a.put d u):=by
 cases d with
  |none=>exact h
  |some d=>refine⟨fun t => ?_,by simp[St.put,Tm.set,Act.put,h.size],h.heap,h.defers⟩;simp only[St.put,Act.put,Tm.YZ];have:=h.tmps t;rw[AbT]at this |-;by_cases e:t=d;subst e;by_cases b:t<st.tmps.n;have c:t<a.tmps.size:=h.size▸b;grind;have c:¬ t<a.tmps.size:=h.size▸b;grind;grind
theorem SI.go{w w':World}{F b:Nat->Prop}{m c:Mp}{st:St}{a:Act}(h:SI w F m st a){e:Eff}(d:BU w F m st.heap st.frz w' b c (C6 e st.heap) (FY e st.frz)):SI w' b c (st.app e) a:=
 ⟨fun t=>d.1.rep h.heap (h.tmps t),h.size,d.2,h.defers⟩
theorem SI.lit{w:World}{F:Nat->Prop}{m:Mp}{st:St}{a:Act}(h:SI w F m st a){d:Nat}{b:Bool}(hd:st.tmps.f d = .data .bool b):SI w F m { st with tmps:=st.tmps.set d (.data .bool b) } a:=by rw[Tm.O' hd];exact h
theorem SK{w:World}{F:Nat->Prop}{m:Mp}{st:St}{a:Act}(h:SI w F m st a){ops:Array Oper}{j d:Nat}(l:(ops.toList[j]?).bind (·.dst)=some d){b:Bool}(hd:st.tmps.f d = .data .bool b):
  yielded ops a.tmps j=some b:=by
 have i:=h.tmps d;rw[hd]at i;have e:=D1 i;have c:d<a.tmps.size:=by rcases Acs d a.tmps.size with g|g;exact g;rw[AbT,Array.getElem?_eq_none g]at e;cases e
 rw[AbT,AcP c]at e;simp only[Abg]at e;have k:(ops[j]?).bind (·.dst)=some d:=by grind
 unfold yielded;grind
theorem Tp{w:World}{F:Nat->Prop}{m:Mp}{H:List Ob}:Rep w F m H CW undef:=by unfold CW Rep;exact⟨#[],rfl,by unfold BG;rfl⟩
theorem TO{w:World}{F:Nat->Prop}{m:Mp}{st:St}{a:Act}(h:SI w F m st a){ops:Array Oper}{j d:Nat}(k:(ops.toList[j]?).bind (·.dst)=some d)(hd:st.tmps.f d = .tup []):
  yielded ops a.tmps j=none:=by
 have b:=h.tmps d;rw[hd]at b;have c:(ops[j]?).bind (·.dst)=some d:=by grind
 unfold yielded;rw[c];unfold Rep at b;obtain⟨us,e,_⟩:=b;rcases Acs d a.tmps.size with g|i;all_goals simp_all
theorem S8{w:World}{F:Nat->Prop}{m:Mp}{st:St}{a:Act}(h:SI w F m st a){ops:Array Oper}{o:Oper}{f i:St->Option R}(e:guarded R ops.toList o.guard st f i=some r):
  ∃ st',SI w F m st' a/\st'.heap=st.heap/\st'.frz=st.frz/\((Region.wanted o (yielded ops a.tmps)=true/\f st'=some r)\/(Region.wanted o (yielded ops a.tmps)=false/\i st'=some r)):=by unfold guarded at e;split at e;rename_i c;exact⟨st,h,rfl,rfl,.inl ⟨by simp[Region.wanted,c],e⟩⟩;rename_i j k c;split at e;cases e;rename_i d l;split at e;rename_i b hd;have g:=SK h l hd;split at e;split at e;exact⟨_,h.lit hd,rfl,rfl,.inl ⟨by simp[Region.wanted,c,g],e⟩⟩;exact⟨_,h.lit hd,rfl,rfl,.inr ⟨by simp[Region.wanted,c,g],e⟩⟩;split at e;exact⟨_,h.lit hd,rfl,rfl,.inr ⟨by simp[Region.wanted,c,g],e⟩⟩;exact⟨_,h.lit hd,rfl,rfl,.inl ⟨by simp[Region.wanted,c,g],e⟩⟩;rename_i hd;exact⟨st,h,rfl,rfl,.inr ⟨by simp[Region.wanted,c,TO h l hd],e⟩⟩;grind
theorem AHL(L:∀ g,BS P g (E.spec g)){ops:Array Oper}{Q:Exit->Act->World->Prop}{k:St->Option R}:∀ (b c:List Oper) (slot:Nat) (st:St) (w:World) (F:Nat->Prop) (m:Mp) (a:Act),ops.toList=c++b ->
  Gf P E R ops.toList b slot st k=some r->SI w F m st a->(∀ n w',AVr r k w F m st.heap st.frz n w'->Q .normal n w')->wpOps P ops Q (List.range' c.length b.length) a w:=by
 intro b;induction b with
  |nil=>intro c slot st w F m a _ h t s;exact s a w ⟨st,F,m,h,t,Ext.refl ..⟩
  |cons o b H=>
   intro c slot st w F m a p h t s;simp only[Gf]at h;have q:ops[c.length]? = some o:=by rw[<- Abw,p];simp
   have d:ops.toList=(c++[o])++b:=by grind
   have I:(c++[o]).length=c.length+1:=by simp
   rw[Aa1,AcW];simp only[wpOps,q];obtain⟨st',f,y,z,M⟩:=S8 t h;rcases M with⟨A,N⟩|⟨A,O⟩
   rw[Aa5 A];left;obtain⟨v,e,S,_,T⟩:=FU L o.op R _ _ _ _ _ _ _ N;refine T w F m a o _ Q rfl rfl f.heap (fun x=>Fp f.tmps x) fun u w' U V J W => ?_;have i:=(f.go J).put W o.dst;have:=H (c++[o]) _ _ w' U V (a.put o.dst u) d S i fun n j ⟨l,B,C,D,G,X⟩=>s n j ⟨l,B,C,D,G,by
    have K:=J.1;rw[y,z]at K;refine K.trans ?_;have:((st'.app e).put o.dst v).heap=C6 e st.heap/\((st'.app e).put o.dst v).frz=FY e st.frz:=by cases o.dst<;>simp[St.put,St.app,y,z]
    grind⟩
   grind;rw[Aa2 (by simp[A])];have i:SI w F m (st'.put o.dst CW) (a.put o.dst undef):=f.put Tp o.dst;have:=H (c++[o]) _ _ w F m (a.put o.dst undef) d O i fun n j ⟨l,B,C,D,G,X⟩=>s n j ⟨l,B,C,D,G,by
    have:(st'.put o.dst CW).heap=st.heap/\(st'.put o.dst CW).frz=st.frz:=by cases o.dst<;>simp[St.put,y,z]
    grind⟩
   grind
theorem HI.pad{w:World}{F:Nat->Prop}{m:Mp}{H:List Ob}{fz:List Bool}(hi:HI w F m H fz)(n:Nat):BU w F m H fz w F m (H++List.replicate n .free) (fz++List.replicate n false):=by
 have q:∀ i o,H[i]? = some o->(H++List.replicate n Ob.free)[i]? = some o:=fun i o h=>by rw[Aci (BW h)];exact h
 have a:∀ i o,(H++List.replicate n Ob.free)[i]? = some o->H[i]? = some o\/o=Ob.free:=fun i o h=>by rcases Acs i H.length with y|y;rw[Aci y]at h;exact .inl h;grind
 have s:∀ i,(fz++List.replicate n false).getD i false=fz.getD i false:=fun i=>by grind
 have f:∀ i:Ix,owned (H++List.replicate n .free) (fz++List.replicate n false) i->owned H fz i:=fun i g=>by
  obtain⟨o,j,u,D⟩:=EK g;rcases a i.id o j with z|z;have g:=(Dm (H:=H) (j.trans z.symm)).1 g;cases i with
   |r i k=>simp only[owned]at *;grind
   |o i=>simp only[owned,Cs]at *;grind
  grind
 have d:DT H (H++List.replicate n .free) m m:=by
  intro i o g l;rcases DT.refl H m i o g l with h|⟨hd,o',j,u,_⟩
  all_goals grind
 refine⟨⟨rfl,rfl,rfl,Aax _,fun _ _ _=>rfl,fun _ h=>h,fun _ h=>.inl h,fun i b c j u=>.inl ⟨i,c,f i j,u⟩,d⟩,⟨?_,?_,?_,?_,?_,?_,hi.lt,hi.glo,by simp[hi.len]⟩⟩;intro id o g;rcases a id o g with h|rfl;exact ObI.mono (fun _ _=>rfl) (fun _ h=>h) d (fun _ _ _ _ _ _=>rfl) (hi.obj id o h);trivial;intro i;cases g:H[i]? with
  |none=>intro T e t xs ver out j;grind
  |some o=>exact C7.mono (fun _ _=>rfl) (fun _ h=>h) d ((q i o g).trans g.symm) (fun _ _=>rfl) (fun _ _ _ _ _ _ _=>rfl) (hi.row i)
 intro i T e t xs ver out p l x A B b c C;rw[s]at l;rcases a i _ p with h|h;exact hi.rfz i T e t xs ver out h l x A ((Dk (by grind)).1 B) b c C;grind;exact fun i k b c b' c' j u=>hi.sep i k b c b' c' (f i j) (f k u);exact fun i b c j=>hi.off i b c (f i j);intro i T t xs b c p l v;rw[s]at l;rcases a i _ p with h|h;exact hi.froz i T t xs b c h l v;grind
theorem SI.pad{w:World}{F:Nat->Prop}{m:Mp}{st:St}{a:Act}(h:SI w F m st a)(n:Nat):SI w F m (st.pad n) a/\Ext w F m st.heap st.frz w F m (st.pad n).heap (st.pad n).frz:=by have b:=h.heap.pad n;exact⟨⟨fun t=>b.1.rep h.heap (h.tmps t),h.size,b.2,h.defers⟩,b.1⟩
theorem nZ(c:∀ g,BS P g (E.spec g)){id:Nat}{ops:Array Oper}{Q:Exit->Act->World->Prop}{k:St->Option R}{st:St}{w:World}{F:Nat->Prop}{m:Mp}{a:Act}(h:Hc P E R ops.toList st k=some r)(d:SI w F m st a)
  (e:∀ b w',AVr r k w F m st.heap st.frz b w'->Q .normal b w'):(Code.region id ops false).wp P Q a w:=by unfold Hc at h;rw[Pb]at h;obtain⟨f,i⟩:=d.pad (DE ops.toList);have:=AHL c ops.toList [] _ _ w F m a (by simp) h f fun b w' ⟨st',j,l,n,o,p⟩=>e b w' ⟨st',j,l,n,o,i.trans p⟩;rw[Aa8,AbH,<- AcL]at this;exact wp_region this
end
theorem FX{H H':List Ob}(t:Ty)(v:AV)(h:∀ id∈BV v,H[id]? = H'[id]?):E9 H t v=E9 H' t v:=by cases v<;>simp only[E9];rename_i id;rw[h id (by simp[BV])];rename_i id off n;rw[h id (by simp[BV])];rename_i id;rw[h id (by simp[BV])]
theorem ABf{α:Type}{one a:List AV->Option (α×List Nat×List AV)}{H H':List Ob}
  (i:∀ cs,(∀ id∈B1 cs,H[id]? = H'[id]?)->one cs=a cs) (j:∀ cs x f r,one cs=some (x,f,r)->∃ d,cs=d++r) :
  ∀ (n:Nat) (cs:List AV),(∀ id∈B1 cs,H[id]? = H'[id]?)->UO one n cs=UO a n cs:=by
 intro n;induction n with
  |zero=>intro cs _;rfl
  |succ n k=>
   intro cs h;simp only[UO];rw[<- i cs h];cases g:one cs with
    |none=>rfl
    |some p=>
     obtain⟨x,f,r⟩:=p;simp only;obtain⟨d,l⟩:=j _ _ _ _ g;rw[k r fun id b=>h id (by
      subst l;clear g;induction d with
       |nil=>exact b
       |cons c d e=>simp only[AbO,B1,Aa7];exact .inr (e fun id b=>h id (by simp only[AbO,B1,Aa7];grind)))]
theorem AJA{α:Type}{one:List AV->Option (α×List Nat×List AV)}(b:∀ cs x f r,one cs=some (x,f,r)->∃ a,cs=a++r):
  ∀ (n:Nat) (cs:List AV) (xs:List α) (f:List Nat) (r:List AV),UO one n cs=some (xs,f,r)->∃ a,cs=a++r:=by
 intro n;induction n with
  |zero=>intro cs xs f r h;simp only[UO,Aas,Aa4]at h;simp_all
  |succ n c=>intro cs xs f r h;simp only[UO]at h;grind
theorem UP{H:List Ob}:∀ (t:Ty) (cs:List AV) (x:t.den) (f:List Nat) (r:List AV),BZ H t cs=some (x,f,r)->∃ d,cs=d++r:=by
 intro t;induction t with
  |unit=>intro cs x f r h;simp only[BZ,Aas,Aa4]at h;simp_all
  |bool=>
   intro cs x f r h;cases cs with
    |nil=>simp[BZ]at h
    |cons c cs=>unfold BZ at h;split at h;cases h;simp only[Aas,Aa4]at h;exact⟨[c],by grind⟩
  |int k=>
   intro cs x f r h;cases cs with
    |nil=>simp[BZ]at h
    |cons c cs=>unfold BZ at h;split at h;cases h;simp only[Aas,Aa4]at h;exact⟨[c],by grind⟩
  |slice e _=>
   intro cs x f r h;cases cs with
    |nil=>simp[BZ]at h
    |cons c cs=>unfold BZ at h;split at h;cases h;simp only[Aas,Aa4]at h;exact⟨[c],by grind⟩
  |nul e=>
   intro cs x f r h;cases cs with
    |nil=>simp[BZ]at h
    |cons c cs=>unfold BZ at h;split at h;cases h;simp only[Aas,Aa4]at h;exact⟨[c],by grind⟩
  |mapi j e _=>
   intro cs x f r h;cases cs with
    |nil=>simp[BZ]at h
    |cons c cs=>unfold BZ at h;split at h;cases h;simp only[Aas,Aa4]at h;exact⟨[c],by grind⟩
  |prod a b g i=>intro cs x f r h;simp only[BZ]at h;grind
  |arr n e l=>intro cs x f r h;simp only[BZ]at h;exact AJA l n cs _ _ _ h
theorem FH(a b:List AV):B1 (a++b)=B1 a++B1 b:=by
 induction a with
  |nil=>rfl
  |cons x a c=>simp[B1,c]
theorem R7{H H':List Ob}:∀ (t:Ty) (cs:List AV),(∀ id∈B1 cs,H[id]? = H'[id]?)->BZ H t cs=BZ H' t cs:=by
 intro t;induction t with
  |unit=>intro cs _;cases cs<;>rfl
  |bool=>
   intro cs h;cases cs with
    |nil=>rfl
    |cons c cs=>unfold BZ;rw[FX .bool c fun id d=>h id (by simp[B1,d])]
  |int k=>
   intro cs h;cases cs with
    |nil=>rfl
    |cons c cs=>unfold BZ;rw[FX (.int k) c fun id d=>h id (by simp[B1,d])]
  |slice e _=>
   intro cs h;cases cs with
    |nil=>rfl
    |cons c cs=>unfold BZ;rw[FX (.slice e) c fun id d=>h id (by simp[B1,d])]
  |nul e=>
   intro cs h;cases cs with
    |nil=>rfl
    |cons c cs=>unfold BZ;rw[FX (.nul e) c fun id d=>h id (by simp[B1,d])]
  |mapi j e _=>
   intro cs h;cases cs with
    |nil=>rfl
    |cons c cs=>unfold BZ;rw[FX (.mapi j e) c fun id d=>h id (by simp[B1,d])]
  |prod a b g i=>
   intro cs h;simp only[BZ];rw[<- g cs h];cases l:BZ H a cs with
    |none=>rfl
    |some p=>obtain⟨x,f,r⟩:=p;simp only;obtain⟨o,rfl⟩:=UP a _ _ _ _ l;rw[i r fun id d=>h id (by rw[FH];grind)]
  |arr n e m=>intro cs h;simp only[BZ];exact ABf m (UP e) n cs h
theorem Cw{H H':List Ob}(t:Ty)(v:AV)(h:∀ id∈BV v,H[id]? = H'[id]?):GW H t v=GW H' t v:=by unfold GW;split;cases v<;>simp only[asAgg];rename_i cs;rw[R7 t cs fun id a=>h id (by simpa [BV]using a)];exact FX t v h
theorem ZE{H H':List Ob}(t:Ty)(v:AV)(h:∀ id∈BV v,H[id]? = H'[id]?):fe H t v=fe H' t v:=by have a:=Cw t v h;cases v<;>simp only[fe]<;>first|exact a|(rw[a,h _ (by simp[BV])])
structure Wr(T:List Nat)(slot n:Nat)(W:List Nat)(H H':List Ob)(fz fz':List Bool):Prop where
 heap:∀ id∈T,H[id]? = H'[id]?
 slotH:∀ s,slot<=s->s<slot+n->H[s]? = H'[s]?
 slotF:∀ s,slot<=s->s<slot+n->fz.getD s false=fz'.getD s false
 len:fz.length=fz'.length
 wrF:∀ id∈W,fz.getD id false=fz'.getD id false
theorem FP{T:List Nat}{slot n:Nat}{W:List Nat}{H H':List Ob}{fz fz':List Bool}(h:Wr T slot n W H H' fz fz'){s:Nat}(a:slot<=s)(b:s<slot+n)(c:List Nat):
  Bi H (BN c fz) s=Bi H' (BN c fz') s:=by unfold Bi;rw[h.slotH s a b,Bm,Bm,h.slotF s a b,h.len]
theorem Du{T:List Nat}{slot n:Nat}{W:List Nat}{H H':List Ob}{fz fz':List Bool}(h:Wr T slot n W H H' fz fz'){s:Nat}(a:slot<=s)(b:s<slot+n):
  Bi H fz s=Bi H' fz' s:=FP h a b []
theorem DU{T W:List Nat}{slot n:Nat}{H H':List Ob}{fz fz':List Bool}(h:Wr T slot n W H H' fz fz'){id:Nat}(a:id∈W)(b:List Nat):
  BO (BN b fz) id=BO (BN b fz') id:=by unfold BO;rw[Bm,Bm,h.wrF id a,h.len]
def H4(s:Spec):Prop:=
 ∀ R args H H' fz fz' slot k,Wr (B1 args) slot 4 [] H H' fz fz'->s R args H fz slot k=s R args H' fz' slot k
def aw(S:List Nat)(H:List Ob):Prop:=∀ id∈S,∀ cs,H[id]? = some (.box cs)->∀ j∈B1 cs,j∈S
def G8(s:Spec):Prop:=
 ∀ R args H H' fz fz' slot k (S:List Nat),(∀ id∈B1 args,id∈S)->aw S H->Wr S slot 4 S H H' fz fz'->s R args H fz slot k=s R args H' fz' slot k
def FA(E:Env):Prop:=(∀ g,E.loc g=true->H4 (E.spec g))/\∀ g,E.Hi g=true->G8 (E.spec g)
section
variable {P:Program} {E:Env}
theorem No{ρ ρ':Operand->AV}{l:List Operand}(h:∀ x∈l,ρ x=ρ' x):l.map ρ=l.map ρ':=AcN h
theorem Ye{ρ ρ':Operand->AV}{l:List (Nat×Operand)}(h:∀ x∈l.map (·.2),ρ x=ρ' x):(l.map fun p=>(p.1,ρ p.2))=l.map fun p=>(p.1,ρ' p.2):=
 AcN fun p a=>by grind
theorem UN{ρ ρ':Operand->AV}{o:Option Operand}(h:∀ x∈o.toArray,ρ x=ρ' x):F6 ρ o=F6 ρ' o:=by
 cases o with
  |none=>rfl
  |some x=>simp only[F6];grind
theorem C0{R:Type}{ρ ρ':Operand->AV}(o:Op)(ty:TypeId)(H:List Ob)(fz:List Bool)(slot:Nat)(k:AV->Eff->Option R)(h:∀ x∈o.operands,ρ x=ρ' x):
  evalOp P E R o ty ρ H fz slot k=evalOp P E R o ty ρ' H fz slot k:=by
 cases o with
  |call c=>
   obtain⟨g,args,ts⟩:=c;cases g with
    |value f=>have w:=h f (by simp[Op.operands,Call.operands]);have p:args.toList.map ρ=args.toList.map ρ':=No fun x e=>h x (by simp[Op.operands,Call.operands];grind);simp only[evalOp,Lq,w,p]
    |invoke r n=>rfl
    |builtin b=>
     have p:∀ x∈args.toList,ρ x=ρ' x:=fun x e=>h x (by simp[Op.operands,Call.operands];grind);cases b with
      |len=>
       simp only[evalOp,Pw];cases s:args.toList with
        |nil=>rfl
        |cons x r=>cases r with
         |nil=>
          rw[s]at p
          cases ts.toList with
          |nil=>rfl
          |cons T r=>grind
         |cons y r=>rfl
      |append=>
       simp only[evalOp,D7];cases s:args.toList with
        |nil=>rfl
        |cons x r=>cases r with
         |nil=>rfl
         |cons y r=>cases r with
          |nil=>
           rw[s]at p
           cases ts.toList with
           |nil=>rfl
           |cons T r=>cases r with
            |nil=>rfl
            |cons G r=>cases r with
             |nil=>simp only[p x (by simp),p y (by simp)]
             |cons A r=>rfl
          |cons z r=>rfl
      |cap=>simp only[evalOp,AE0];grind
      |clear=>
       simp only[evalOp,JP];cases s:args.toList with
        |nil=>rfl
        |cons x r=>grind
      |min=>simp only[evalOp,AEy];grind
      |max=>simp only[evalOp,AEz];grind
      |_=>rfl
  |build T parts=>have:=Ye (ρ:=ρ) (ρ':=ρ') (l:=parts.toList) fun x e=>h x (by simpa [Op.operands]using e);simp only[evalOp,N7,this]
  |buildSlice T n parts=>have:=Ye (ρ:=ρ) (ρ':=ρ') (l:=parts.toList) fun x e=>h x (by simpa [Op.operands]using e);simp only[evalOp,FW,this]
  |makeFunc fn first cs=>
   cases fn with
    |func f=>have:=No (ρ:=ρ) (ρ':=ρ') (l:=cs.toList) fun x e=>h x (by simp[Op.operands];grind);have t:=No (ρ:=ρ) (ρ':=ρ') (l:=first.toList) fun x e=>h x (by simp[Op.operands];grind);simp only[evalOp,F8,this];grind
    |_=>rfl
  |slice T x B u C=>
   have e:=h x (by simp[Op.operands]);have i:=UN (ρ:=ρ) (ρ':=ρ') (o:=B) fun y D=>h y (by simp[Op.operands];grind);have j:=UN (ρ:=ρ) (ρ':=ρ') (o:=u) fun y D=>h y (by simp[Op.operands];grind);cases C with
    |none=>simp only[evalOp,Dr,e,i,j]
    |some m=>have v:=h m (by simp[Op.operands]);rcases u with _|q;simp only[evalOp,Dr,e,i,j,v];have F:=h q (by simp[Op.operands]);cases q<;>simp only[evalOp,Dr,e,i,j,v,F]
  |makeMap T o=>cases o<;>rfl
  |pick a b c=>simp only[evalOp,Xx,h a (by simp[Op.operands]),h b (by simp[Op.operands]),h c (by simp[Op.operands])]
  |mapUpdate a b c d=>simp only[evalOp,GL,h b (by simp[Op.operands]),h c (by simp[Op.operands]),h d (by simp[Op.operands])]
  |mapEntry a b c=>simp only[evalOp,Hp,h b (by simp[Op.operands]),h c (by simp[Op.operands])]
  |entryStore a b c d=>simp only[evalOp,Gx,h b (by simp[Op.operands]),h c (by simp[Op.operands]),h d (by simp[Op.operands])]
  |insert a b c d=>simp only[evalOp,Px,h b (by simp[Op.operands]),h c (by simp[Op.operands]),h d (by simp[Op.operands])]
  |move x|assign x|box _ x|load _ x|nilCheck x|unOp _ _ x|convert _ _ x|fieldAddr _ x _|field _ x _|extract x _|makeInterface _ x|typeAssert x _ _ _=>simp only[evalOp,vm,Hq,Mt,VI,ED,Lp,Ft,Dv,FV,Xw,h x (by simp[Op.operands])]
  |store _ x y|binOp _ _ x y _|makeSlice _ x y|indexAddr _ x y|index _ x y|lookup _ x y _=>simp only[evalOp,Ds,N6,CT,E6,Ij,IC,h x (by simp[Op.operands]),h y (by simp[Op.operands])]
  |_=>rfl
theorem KJ{ρ:Operand->AV}{o:Op}{x:Operand}(b:x∈o.operands){id:Nat}(a:id∈BV (ρ x)):id∈I1 ρ o:=by unfold I1;grind
theorem ZY{H H':List Ob}(t:Ty):∀ (a:List (Nat×AV)) (xs:List t.den) (b:List Nat),(∀ p∈a,∀ id∈BV p.2,H[id]? = H'[id]?)->El H t a xs b=El H' t a xs b:=by
 intro a;induction a with
  |nil=>intro xs b _;rfl
  |cons p a c=>
   intro xs b h;obtain⟨i,v⟩:=p;simp only[El];rw[Cw t v (h (i,v) (by simp))];cases GW H' t v with
    |none=>rfl
    |some q=>cases decide (i<xs.length)with
     |true=>exact c _ _ fun p d=>h p (by simp[d])
     |false=>rfl
theorem H8:∀ (t:Ty) (d:t.den),B1 (CN t d)=[]:=by
 intro t;induction t with
  |unit=>intro d;rfl
  |bool=>intro d;rfl
  |int k=>intro d;rfl
  |slice e _=>intro d;rfl
  |nul e=>intro d;rfl
  |mapi j e _=>intro d;rfl
  |prod a b c f=>intro d;simp only[CN];rw[FH,c,f];rfl
  |arr n e h=>
   intro d;simp only[CN];have m:∀ l:List Nat,B1 (l.flatMap fun i=>CN e (A9 d i e.zero))=[]:=by
    intro l;induction l with
     |nil=>rfl
     |cons x xs g=>rw[Abr,FH,h,g];rfl
   grind
theorem zV(l:List AV)(n:Nat){id:Nat}(h:id∈B1 (l.take n)):id∈B1 l:=by have:=Abv n l;rw[<- this,FH];simp[h]
theorem zW(l:List AV)(n:Nat){id:Nat}(h:id∈B1 (l.drop n)):id∈B1 l:=by have:=Abv n l;rw[<- this,FH];simp[h]
theorem cells?_refs{v:AV}{vs:List AV}(h:cells? v=some vs){id:Nat}(c:id∈B1 vs):id∈BV v:=by
 cases v with
  |DM=>simp[cells?]at h
  |tup _=>simp[cells?]at h
  |agg cs=>simp only[cells?,Aas]at h;subst h;simpa [BV]using c
  |data t d=>
   cases t with
    |unit=>simp only[cells?,Aas]at h;subst h;simp[B1]at c
    |prod a b=>simp only[cells?,Aas]at h;subst h;rw[H8]at c;cases c
    |arr n e=>simp only[cells?,Aas]at h;subst h;rw[H8]at c;cases c
    |bool=>simp only[cells?,Aas]at h;subst h;simpa [B1]using c
    |int k=>simp only[cells?,Aas]at h;subst h;simpa [B1]using c
    |slice e=>simp only[cells?,Aas]at h;subst h;simpa [B1]using c
    |nul e=>simp only[cells?,Aas]at h;subst h;simpa [B1]using c
    |mapi j e=>simp only[cells?,Aas]at h;subst h;simpa [B1]using c
  |_=>simp only[cells?,Aas]at h;subst h;simpa [B1]using c
theorem zm{t:Ty}{d:t.den}{v:AV}{vs cs:List AV}{s:Nat}(b:Ey (CN t d) vs s=some cs)(c:cells? v=some vs){id:Nat}(a:id∈B1 cs):id∈BV v:=by unfold Ey at b;split at b;simp only[Aas]at b;subst b;rw[FH,FH,Aa7,Aa7]at a;rcases a with(a|a)|a;have:=zV _ _ a;rw[H8]at this;grind;exact cells?_refs c a;have:=zW _ _ a;rw[H8]at this;grind;grind
theorem SC{R:Type}(hL:FA E){ρ:Operand->AV}(o:Op)(ty:TypeId){H H':List Ob}{fz fz':List Bool}{slot:Nat}(k:AV->Eff->Option R)
  (w:Wr (I1 ρ o) slot (slotsOf o) (Eu ρ o) H H' fz fz') (hl:Gm E ρ o=true):evalOp P E R o ty ρ H fz slot k=evalOp P E R o ty ρ H' fz' slot k:=by
 have B:∀ x∈o.operands,∀ id∈BV (ρ x),H[id]? = H'[id]? := fun x v id m=>w.heap id (KJ v m);have own:∀ x∈o.operands,∀ id,ρ x = .own id->H[id]? = H'[id]? := fun x v id h=>B x v id (by rw[h];simp[BV]);have win:∀ x∈o.operands,∀ id off n,ρ x = .win id off n->H[id]? = H'[id]? := fun x v id off n h=>B x v id (by rw[h];simp[BV]);have D:∀ x∈o.operands,∀ id off,ρ x = .ptr id off->H[id]? = H'[id]? := fun x v id off h=>B x v id (by rw[h];simp[BV]);have C:∀ x∈o.operands,∀ id i s,ρ x = .eptr id i s->H[id]? = H'[id]? := fun x v id i s h=>B x v id (by rw[h];simp[BV]);have F:∀ x∈o.operands,∀ id,ρ x = .mp id->H[id]? = H'[id]? := fun x v id h=>B x v id (by rw[h];simp[BV]);cases o with
  |alloc T=>simp only[evalOp,Q8,Du w (s:=slot) (Aax _) (by simp[slotsOf])]
  |box T x=>simp only[evalOp,vm,Du w (s:=slot) (Aax _) (by simp[slotsOf])]
  |buildSlice T n parts=>
   have M:∀ (t:Ty) xs I,El H t (parts.toList.map fun p=>(p.1,ρ p.2)) xs I=El H' t (parts.toList.map fun p=>(p.1,ρ p.2)) xs I:=fun t xs I=>
    ZY t _ xs I fun p Y id m=>by
     obtain⟨q,hq,rfl⟩:=AbA.1 Y
     exact B q.2 (by simp[Op.operands];grind) id m
   simp only[evalOp,FW,M,FP w (s:=slot) (Aax _) (by simp[slotsOf]),Du w (s:=slot) (Aax _) (by simp[slotsOf])];cases sliceAt P T with
    |some p=>rfl
    |none=>
     dsimp only;cases cellAt P T with
      |none=>rfl
      |some e=>cases decide (n=1)with
       |false=>rfl
       |true=>
        cases hps:parts.toList with
        |nil=>rfl
        |cons p r=>cases r with
         |cons p' r=>rfl
         |nil=>
          simp only[AbL,AcE]
          cases v:ρ p.2<;>try rfl
          rename_i id i s
          dsimp only
          simp only[Dy,C p.2 (by simp[Op.operands];exact⟨p.1,(by simpa using (show p∈parts.toList by grind))⟩) id i s v]
  |load T x=>
   simp only[evalOp,Lp];cases CO P T with
    |none=>rfl
    |some n=>cases Fq P T with
     |none=>rfl
     |some ag=>
      cases v:ρ x<;>try rfl
      ·rename_i id off;simp only[D x (by simp[Op.operands]) id off v]
      ·rename_i id i s;simp only[C x (by simp[Op.operands]) id i s v]
  |store T x y=>
   have X:=B y (by simp[Op.operands]);simp only[evalOp,IC];cases O:CO P T with
    |none=>rfl
    |some n=>cases Q:cells? (ρ y)with
     |none=>rfl
     |some vs=>
      dsimp only
      cases hd:decide (vs.length=n)with
      |false=>rfl
      |true=>
       dsimp only
       cases v:ρ x<;>try rfl
       ·rename_i id off;dsimp only;rw[D x (by simp[Op.operands]) id off v]
       ·rename_i id i s
        dsimp only
        rw[C x (by simp[Op.operands]) id i s v]
        have A:∀ I,BO (BN I fz) id=BO (BN I fz') id:=fun I=>DU w (by simp[Eu,v,BV]) I
        cases H'[id]? with
        |none=>rfl
        |some ob=>cases ob with
         |arr N t xs=>
          simp only[A,Cw _ (ρ y) X]
          cases t.nul? with
          |some e=>rfl
          |none=>
          dsimp only
          cases (s==0&&n==t.size)with
          |true=>rfl
          |false=>
           dsimp only
           cases Y:Ey (CN t (A9 xs i t.zero)) vs s with
           |none=>rfl
           |some cs=>
            dsimp only
            rw[R7 t cs (fun Z m=>X Z (zm Y Q m))]
         |rows N e t xs ver out=>
          have hun0:BO fz id=BO fz' id:=A []
          grind
         |_=>rfl
  |nilCheck x=>
   simp only[evalOp,Dv];cases v:ρ x<;>try rfl
   rename_i id off;simp only[Gn,D x (by simp[Op.operands]) id off v];rename_i id i s;simp only[Dy,C x (by simp[Op.operands]) id i s v]
  |fieldAddr T x f=>
   simp only[evalOp,ED];cases fieldAt P T f with
    |none=>rfl
    |some p=>
     obtain⟨off,size,ag⟩:=p;dsimp only;cases decide (size=0)with
      |true=>rfl
      |false=>
       dsimp only;cases v:ρ x<;>try rfl
       rename_i id off;simp only[Gn,D x (by simp[Op.operands]) id off v];rename_i id i s;simp only[Dy,C x (by simp[Op.operands]) id i s v]
  |makeMap T o=>
   cases o with
    |none=>simp only[evalOp,J5,Du w (s:=slot) (Aax _) (by simp[slotsOf])]
    |some x=>rfl
  |makeSlice T x y=>simp only[evalOp,Ij,Du w (s:=slot) (Aax _) (by simp[slotsOf])]
  |slice T x lo up mx=>
   have v:=B x (by simp[Op.operands]);cases mx with
    |none=>
     have K:∀ sz l h,H6 H sz (ρ x) l h R=H6 H' sz (ρ x) l h R:=fun sz l h=>by
      funext kk;unfold H6;cases u:ρ x with
       |data t d=>cases t<;>rfl
       |own id=>dsimp only;rw[own x (by simp[Op.operands]) id u]
       |win id off n=>dsimp only;rw[win x (by simp[Op.operands]) id off n u]
       |_=>rfl
     simp only[evalOp,Dr,K];cases P.underlying T with
      |none=>rfl
      |some d=>cases d with
       |array n e=>
        dsimp only
        cases F6 ρ lo with
        |none=>rfl
        |some lo=>cases F6 ρ up with
         |none=>rfl
         |some up=>
          cases u:ρ x<;>try rfl
          rename_i id n'
          dsimp only
          rw[B x (by simp[Op.operands]) id (by rw[u];simp[BV])]
       |_=>rfl
    |some mm=>
     have K:Hj H (ρ x)=Hj H' (ρ x):=by
      unfold Hj;cases u:ρ x with
       |data t d=>cases t<;>rfl
       |own id=>simp only[Dy,own x (by simp[Op.operands]) id u]
       |win id off n=>simp only[Dy,win x (by simp[Op.operands]) id off n u]
       |_=>rfl
     simp only[evalOp,Dr,K,Du w (s:=slot) (Aax _) (by simp[slotsOf])]
  |indexAddr T x y=>
   simp only[evalOp,CT];cases U:P.underlying T with
    |none=>rfl
    |some d=>cases d with
     |slice e=>
      cases X:ρ y<;>try rfl
      rename_i t d'
      cases t<;>try rfl
      cases u:ρ x with
      |data t d=>cases t<;>rfl
      |own id=>dsimp only;rw[own x (by simp[Op.operands]) id u]
      |win id off n=>dsimp only;rw[win x (by simp[Op.operands]) id off n u]
      |_=>rfl
     |array n e=>
      cases X:ρ y<;>try rfl
      rename_i t d'
      cases t<;>try rfl
      rename_i j
      have hat:ff H n (ρ x)=ff H' n (ρ x):=by
       unfold ff
       cases u:ρ x<;>try rfl
       rename_i id n'
       dsimp only
       rw[B x (by simp[Op.operands]) id (by rw[u];simp[BV])]
      dsimp only
      rw[hat]
      cases ff H' n (ρ x)with
      |some q=>rfl
      |none=>
      dsimp only
      cases gAt (ρ x)with
      |some q=>rfl
      |none=>
      dsimp only
      cases CO P e with
      |none=>rfl
      |some s=>cases decide (0<=(d':Int)/\(d':Int)<(n:Int))with
       |false=>rfl
       |true=>
        dsimp only
        cases u:ρ x<;>try rfl
        ·rename_i id off;simp only[Gn,D x (by simp[Op.operands]) id off u]
        ·rename_i id i s;simp only[Dy,C x (by simp[Op.operands]) id i s u]
     |_=>rfl
  |lookup T a b ok=>
   have V:=fun t=>Cw t (ρ b) (B b (by simp[Op.operands]));simp only[evalOp,E6,V];cases U:P.underlying T with
    |none=>rfl
    |some d=>cases d with
     |map kt vt=>
      cases u:ρ a with
      |data t d=>cases t<;>rfl
      |mp id=>dsimp only;rw[F a (by simp[Op.operands]) id u]
      |_=>rfl
     |_=>rfl
  |mapUpdate T a b c=>
   have V:=fun t=>Cw t (ρ b) (B b (by simp[Op.operands]));have Q:=fun t=>Cw t (ρ c) (B c (by simp[Op.operands]));simp only[evalOp,GL,V,Q];cases U:P.underlying T with
    |none=>rfl
    |some d=>cases d with
     |map kt vt=>
      cases u:ρ a<;>try rfl
      rename_i id
      dsimp only
      have A:BO fz id=BO fz' id:=DU w (by simp[Eu,u,BV]) []
      rw[F a (by simp[Op.operands]) id u,A]
     |_=>rfl
  |mapEntry T a b=>
   have V:=fun t=>Cw t (ρ b) (B b (by simp[Op.operands]));simp only[evalOp,Hp];cases U:P.underlying T with
    |none=>rfl
    |some d=>cases d with
     |map kt vt=>
      cases u:ρ a<;>try rfl
      rename_i id
      dsimp only
      rw[F a (by simp[Op.operands]) id u]
      grind
     |_=>rfl
  |entryStore T a b c=>
   have Q:=fun t=>Cw t (ρ c) (B c (by simp[Op.operands]));simp only[evalOp,Gx];cases u:ρ a<;>try rfl
   rename_i id;cases O:ρ b<;>try rfl
   rename_i t d;cases t<;>try rfl
   rename_i j;cases j<;>try rfl
   dsimp only;rw[F a (by simp[Op.operands]) id u];grind
  |insert T a b c=>
   have V:=fun t=>Cw t (ρ b) (B b (by simp[Op.operands]));have Q:=fun t=>Cw t (ρ c) (B c (by simp[Op.operands]));simp only[evalOp,Px];cases U:P.underlying T with
    |none=>rfl
    |some d=>cases d with
     |map kt vt=>
      cases u:ρ a<;>try rfl
      rename_i id
      dsimp only
      rw[F a (by simp[Op.operands]) id u]
      grind
     |_=>rfl
  |convert S T x=>have v:=fun t=>Cw t (ρ x) (B x (by simp[Op.operands]));simp only[evalOp,Hq];grind
  |call c=>
   obtain⟨callee,args,ts⟩:=c;cases callee with
    |value f=>
     simp only[evalOp,Lq];cases M:ρ f<;>try rfl
     rename_i g W;dsimp only;refine hL.1 g (by simpa [Gm,M]using hl) R _ H H' fz fz' slot k ⟨fun id m=>w.heap id ?_,w.slotH,w.slotF,w.len,fun id m=>by cases m⟩;rw[FH,Aa7]at m;rcases m with m|m;have L:∀ l:List Operand,id∈B1 (l.map ρ)->∃ x∈l,id∈BV (ρ x):=by
      intro l;induction l with
       |nil=>intro h;simp[B1]at h
       |cons y l ih=>intro h;simp only[AbL,B1,Aa7]at h;grind
     obtain⟨x,J,h2⟩:=L _ m;exact KJ (x:=x) (by simp[Op.operands,Call.operands];grind) h2;exact KJ (x:=f) (by simp[Op.operands,Call.operands]) (by rw[M];simpa [BV]using m);rename_i g W;dsimp only;refine hL.1 g (by simpa [Gm,M]using hl) R _ H H' fz fz' slot k ⟨fun id m=>w.heap id ?_,w.slotH,w.slotF,w.len,fun id m=>by cases m⟩;rw[FH,Aa7]at m;rcases m.symm with m|m;have L:∀ l:List Operand,id∈B1 (l.map ρ)->∃ x∈l,id∈BV (ρ x):=by
      intro l;induction l with
       |nil=>intro h;simp[B1]at h
       |cons y l ih=>intro h;simp only[AbL,B1,Aa7]at h;grind
     obtain⟨x,J,h2⟩:=L _ m;exact KJ (x:=x) (by simp[Op.operands,Call.operands];grind) h2;exact KJ (x:=f) (by simp[Op.operands,Call.operands]) (by rw[M];simpa [BV]using m)
    |invoke r n=>rfl
    |builtin b=>
     have ops:∀ x∈args.toList,x∈Op.operands (.call { callee:=.builtin b,args:=args,argTypes:=ts }):=fun x v=>by simp[Op.operands,Call.operands];grind
     cases b with
      |len=>
       simp only[evalOp,Pw];cases J:args.toList with
        |nil=>rfl
        |cons x r=>cases r with
         |cons y r=>rfl
         |nil=>
          have v:=ops x (by grind)
          cases ts.toList with
          |nil=>rfl
          |cons T r=>cases r with
           |cons N r=>rfl
           |nil=>
            dsimp only
            cases U:P.underlying T with
            |none=>rfl
            |some d=>
             cases d with
             |slice e=>
              dsimp only
              cases u:ρ x with
              |data t d=>cases t<;>rfl
              |own id=>grind
              |win id off n=>simp only[Dy,win x v id off n u]
              |_=>rfl
             |map a b=>
              grind
             |_=>rfl
      |append=>
       simp only[evalOp,D7];cases J:args.toList with
        |nil=>rfl
        |cons s r=>cases r with
         |nil=>rfl
         |cons x r=>cases r with
          |cons z r=>rfl
          |nil=>
           have O:=ops s (by grind)
           have v:=ops x (by grind)
           have G:=Du w (s:=slot) (Aax _) (by simp[slotsOf])
           cases ts.toList with
           |nil=>rfl
           |cons T r=>cases r with
            |nil=>rfl
            |cons N r=>cases r with
             |cons T'' r=>rfl
             |nil=>
              dsimp only
              cases sliceAt P T with
              |none=>
               cases decide (T=N)with
               |false=>rfl
               |true=>
                dsimp only
                cases cellAt P T with
                |none=>rfl
                |some e=>
                 cases hvx:ρ x<;>try rfl
                 rename_i ix
                 dsimp only
                 rw[own x v ix hvx]
                 cases hvs:ρ s with
                 |own id=>grind
                 |_=>simp only[G]
              |some p=>
               obtain⟨e,t⟩:=p
               cases decide (T=N)with
               |false=>
                grind
               |true=>
                dsimp only
                rw[Cw (.slice t) (ρ x) (B x v)]
                cases GW H' (.slice t) (ρ x)with
                |none=>rfl
                |some q=>
                 obtain⟨ys,I⟩:=q
                 cases zeroAt P e with
                 |none=>rfl
                 |some zz=>
                  cases (P.info? e).map (fun i=>decide (i.bytes<=1024))with
                  |none=>rfl
                  |some bb=>cases bb with
                   |false=>rfl
                   |true=>
                    dsimp only
                    cases u:ρ s<;>try rfl
                    ·grind
                    ·rename_i id
                     have A:BO fz id=BO fz' id:=DU w (by simp[Eu,J,u,BV]) []
                     dsimp only
                     rw[own s O id u]
                     simp_all
                    ·rename_i id off n
                     have A:BO fz id=BO fz' id:=DU w (by simp[Eu,J,u,BV]) []
                     cases off with
                     |succ off=>rfl
                     |zero=>simp only[win s O id 0 n u,G,A]
                    ·grind
                    ·rename_i id i ver
                     have A:BO fz id=BO fz' id:=DU w (by simp[Eu,J,u,BV]) []
                     dsimp only
                     rw[B s O id (by rw[u];simp[BV])]
                     grind
      |clear=>
       simp only[evalOp,JP];cases J:args.toList with
        |nil=>rfl
        |cons x r=>cases r with
         |cons z r=>rfl
         |nil=>
          have v:=ops x (by grind)
          cases ts.toList with
          |nil=>rfl
          |cons T r=>cases r with
           |cons N r=>rfl
           |nil=>
            dsimp only
            cases sliceAt P T with
            |none=>rfl
            |some p=>
             obtain⟨e,t⟩:=p
             dsimp only
             cases zeroAt P e with
             |none=>rfl
             |some zz=>
              dsimp only
              cases u:ρ x<;>try rfl
              ·rename_i id
               have A:BO fz id=BO fz' id:=DU w (by simp[Eu,J,u,BV]) []
               grind
              ·rename_i id off n
               have A:BO fz id=BO fz' id:=DU w (by simp[Eu,J,u,BV]) []
               grind
      |_=>rfl
  |makeFunc fn first cs=>cases fn<;>rfl
  |_=>rfl
theorem pO{R:Type}(h:FA E){ρ:Operand->AV}(o:Op)(ty:TypeId){H H':List Ob}{fz fz':List Bool}{slot:Nat}(k:AV->Eff->Option R)
  (d:Wr (Oc ρ o) slot (slotsOf o) (Eu ρ o) H H' fz fz') (j:Gm E ρ o=true):evalOp P E R o ty ρ H fz slot k=evalOp P E R o ty ρ H' fz' slot k:=by
 cases o with
  |move x=>rfl
  |assign x=>rfl
  |pick c a b=>rfl
  |extract x i=>rfl
  |build T n=>rfl
  |makeFunc f a b=>cases f<;>rfl
  |store T x y=>
   by_cases m:∃ id off,ρ x = .ptr id off;obtain⟨id,off,l⟩:=m;have g:=d.heap id (by simp only[Oc,l];simp);simp only[evalOp,IC,l,g];have e:Oc ρ (.store T x y)=I1 ρ (.store T x y):=by simp only[Oc];grind
   rw[e]at d;exact SC h (.store T x y) ty k d j
  |_=>exact SC h _ ty k d j
theorem jq{l:List AV}{id:Nat}(h:id∈B1 l):∃ v∈l,id∈BV v:=by
 induction l with
  |nil=>simp[B1]at h
  |cons a l b=>simp only[B1,Aa7]at h;grind
theorem Dl{l:List AV}{v:AV}{id:Nat}(b:v∈l)(h:id∈BV v):id∈B1 l:=by
 induction l with
  |nil=>cases b
  |cons a l c=>simp only[B1,Aa7];grind
theorem vl{R:Type}(p:FA E){ρ:Operand->AV}{φ:List Nat}(o:Op)(ty:TypeId){H H':List Ob}{fz fz':List Bool}{slot:Nat}(k:AV->Eff->Option R)(n:Ow E ρ o φ H=true)
  (c:Wr (φ.map (· / 2)) slot (slotsOf o) (φ.map (· / 2)) H H' fz fz'):evalOp P E R o ty ρ H fz slot k=evalOp P E R o ty ρ H' fz' slot k:=by
 unfold Ow at n;simp only[Aau]at n;obtain⟨⟨m,q⟩,e⟩:=n;unfold XZ at e;split at e;rename_i f args ts;split at e;rename_i g h l;simp only[evalOp,Lq,l];have d:∀ {i:Nat},rd φ i=true->i∈φ.map (· / 2):=by intro i hi;unfold rd at hi;rw[AbA];rw[Abt,AcR,AcR]at hi;rcases hi with hi|hi;exact⟨_,hi,by omega⟩;exact⟨_,hi,by omega⟩
 refine p.2 g e R _ H H' fz fz' slot k (φ.map (· / 2)) (fun id a => ?_) (fun id a cs r j s => ?_) ⟨c.heap,c.slotH,c.slotF,c.len,c.wrF⟩
 rw[AbK]at m;refine d (m id ?_);unfold I1;rw[Ab4];obtain⟨v,b,hi⟩:=jq a;rcases Aa7.1 b with b|b;obtain⟨x,t,rfl⟩:=AbA.1 b;exact⟨x,by simp[Op.operands,Call.operands];grind,hi⟩;exact⟨f,by simp[Op.operands,Call.operands],by rw[l];simp only[BV];exact Dl b hi⟩;unfold RC at q;grind;rename_i g h l;simp only[evalOp,Lq,l];have d:∀ {i:Nat},rd φ i=true->i∈φ.map (· / 2):=by intro i hi;unfold rd at hi;rw[AbA];rw[Abt,AcR,AcR]at hi;rcases hi with hi|hi;exact⟨_,hi,by omega⟩;exact⟨_,hi,by omega⟩
 refine p.2 g e R _ H H' fz fz' slot k (φ.map (· / 2)) (fun id a => ?_) (fun id a cs r j s => ?_) ⟨c.heap,c.slotH,c.slotF,c.len,c.wrF⟩
 rw[AbK]at m;refine d (m id ?_);unfold I1;rw[Ab4];obtain⟨v,b,hi⟩:=jq a;rcases(Aa7.1 b).symm with b|b;obtain⟨x,t,rfl⟩:=AbA.1 b;exact⟨x,by simp[Op.operands,Call.operands];grind,hi⟩;exact⟨f,by simp[Op.operands,Call.operands],by rw[l];simp only[BV];exact Dl b hi⟩;unfold RC at q;grind;grind;grind
end
section
variable {P:Program} {E:Env}
def Eb(all:List Oper)(g:Option (Nat×Bool))(st:St):Option Bool:=
 match g with
 |none=>some true
 |some (j,want)=>match(all[j]?).bind (·.dst)with
  |none=>none
  |some d=>match st.tmps.f d with
   |.data .bool b=>some (b==want)
   |.tup []=>some false
   |_=>none
theorem ot{R:Type}{all:List Oper}{g:Option (Nat×Bool)}{st:St}{a c:St->Option R}{r:R}(h:guarded R all g st a c=some r):
  (Eb all g st=some true/\a st=some r)\/(Eb all g st=some false/\c st=some r):=by
 unfold guarded at h;unfold Eb;split at h;grind
 ·rename_i j e;split at h;cases h
  ·rename_i d i;simp only[i];split at h
   ·rename_i b hd;have f:=Tm.O' hd;simp only[hd];split at h;·rw[f]at h;split at h;all_goals simp_all
    ·rw[f]at h;split at h;all_goals simp_all
   all_goals grind
def Kn(E:Env)(H:List Ob)(ρ:Operand->AV)(o:Op)(φ:List Nat):Prop:=(Ol φ=true/\Ow E ρ o φ H=true)\/(within (Oc ρ o) φ=true/\QQ (Eu ρ o) φ=true/\Gm E ρ o=true)
def DZ(P:Program)(E:Env)(all:List Oper)(o:Oper)(φ:List Nat)(slot:Nat)(st a:St):Prop:=
 (Eb all o.guard st=some true/\∃ v e,(NY φ=true\/(Kn E st.heap (Bc st.tmps) o.op φ/\SD (writer o.op||Ol φ) φ slot (slotsOf o.op) e=true)) /\
  (∀ (R:Type) (k:AV->Eff->Option R),evalOp P E R o.op o.type (Bc st.tmps) st.heap st.frz slot k=k v e)/\a=(st.app e).put o.dst v) \/
 (Eb all o.guard st=some false/\a=st.put o.dst CW)
theorem bu(i:∀ g,BS P g (E.spec g)){R:Type}{all:List Oper}{o:Oper}{φ:List Nat}{slot:Nat}{st:St}{k:St->Option R}{r:R}(h:Tl P E R all o φ slot st k=some r):
  ∃ b,DZ P E all o φ slot st b/\k b=some r:=by
 unfold Tl at h;rcases ot h with⟨d,h⟩|⟨d,h⟩
 split at h;rename_i a;simp only[Abt,Aau]at a;obtain⟨v,e,f,j,_⟩:=FU i o.op R _ _ _ _ _ _ _ h;split at f;rename_i c;rw[Abt]at c;refine⟨_,.inl ⟨d,v,e,?_,j,rfl⟩,f⟩;rcases a with a|a;grind;rcases c with c|c;grind;refine .inr ⟨?_,c⟩;rcases a with a|a;exact .inl a;exact .inr ⟨a.2.1.1,a.2.1.2,a.2.2⟩;grind;grind;exact⟨_,.inr ⟨d,rfl⟩,h⟩
def I'(P:Program)(E:Env)(all:List Oper)(fp:Nat->List Nat)(a:Nat->Nat):List Nat->St->St->Prop
 |[],st,st'=>st=st'
 |i::l,st,st'=>∃ o b,all[i]? = some o/\DZ P E all o (fp i) (a i) st b/\I' P E all fp a l b st'
def B8(all:List Oper)(base i:Nat):Nat:=base+DE (all.take i)
theorem KW(a b:List Oper):DE (a++b)=DE a+DE b:=by
 unfold DE;induction a with
  |nil=>simp
  |cons x a c=>grind
theorem gh(p:∀ g,BS P g (E.spec g)){R:Type}{all:List Oper}{fp:List (List Nat)}{base:Nat}{k:St->Option R}{r:R}:∀ (b a:List Oper) (c:List (List Nat)) (slot:Nat) (st:St),
  all=a++b->c=fp.drop a.length->slot=B8 all base a.length->LD P E R all b c slot st k=some r ->
  ∃ st',I' P E all (fun i=>fp.getD i []) (B8 all base) (List.range' a.length b.length) st st'/\k st'=some r:=by
 intro b;induction b with
  |nil=>intro a c slot st _ _ _ h;exact⟨st,rfl,h⟩
  |cons o b q=>
   intro a c slot st l s f h;simp only[LD]at h;obtain⟨m,x,t⟩:=bu p h;have d:(a++[o]).length=a.length+1:=by simp
   have n:c.headD []=fp.getD a.length []:=by simp_all
   have e:c.tail=fp.drop (a++[o]).length:=by simp_all
   have j:slot+slotsOf o.op=B8 all base (a++[o]).length:=by
    rw[f,d];unfold B8;have u:all.take (a.length+1)=a++[o]:=by grind
    have v:all.take a.length=a:=by grind
    rw[u,v,KW];simp[DE];omega
   obtain⟨st',y,w⟩:=q (a++[o]) _ _ m (by grind) e j t;refine⟨st',?_,w⟩;rw[Aa1,AcW];refine⟨o,m,by grind,?_,by grind⟩;grind
theorem Ya:∀ (l:List (Nat×Ob)) (H:List Ob),(Bq l H).length=H.length:=by
 intro l;induction l with
  |nil=>intro H;rfl
  |cons p l a=>intro H;obtain⟨i,o⟩:=p;simp only[Bq];grind
theorem Cb{i:Nat}:∀ (l:List (Nat×Ob)) (H:List Ob),(∀ p∈l,p.1≠i)->(Bq l H)[i]? = H[i]? := by
 intro l;induction l with
  |nil=>intro H _;rfl
  |cons p l a=>intro H h;obtain⟨j,o⟩:=p;simp only[Bq];simp_all
theorem H7{i:Nat}:∀ (l:List (Nat×Ob)) (H H':List Ob),H[i]? = H'[i]?->(Bq l H)[i]? = (Bq l H')[i]? := by
 intro l;induction l with
  |nil=>intro H H' h;exact h
  |cons p l a=>intro H H' h;obtain⟨j,o⟩:=p;simp only[Bq];refine a _ _ ?_;by_cases b:i=j;all_goals grind
theorem mv(a b:List (Nat×Ob))(h:∀ p∈a,∀ q∈b,p.1≠q.1)(H:List Ob):Bq a (Bq b H)=Bq b (Bq a H):=by
 apply Abe;intro i;by_cases c:∀ p∈a,p.1≠i;rw[Cb a _ c];exact H7 b _ _ (Cb a _ c).symm;have d:∀ q∈b,q.1≠i:=by grind
 rw[Cb b _ d];exact H7 a _ _ (Cb b _ d)
theorem sT(a b:List Nat)(fz:List Bool):BN a (BN b fz)=BN b (BN a fz):=by
 apply Abe;intro i;have d:∀ (x:List Bool) (y:List Bool),x.length=y.length->(∀ i,x.getD i false=y.getD i false)->x[i]? = y[i]? := by intro x y c e;have:=e i;grind
 refine d _ _ (by simp[EG]) fun i => ?_;rw[Bm,Bm,Bm,Bm,EG,EG];grind
theorem bF{l φ:List Nat}(h:within l φ=true){i:Nat}(hi:i∈l):rd φ i=true:=by unfold within at h;grind
theorem rZ{l φ:List Nat}(h:QQ l φ=true){i:Nat}(hi:i∈l):wt φ i=true:=by unfold QQ at h;grind
theorem PM{φ:List Nat}{i:Nat}(h:wt φ i=true):rd φ i=true:=by unfold wt at h;unfold rd;grind
theorem N8{a:Bool}{φ:List Nat}{slot n:Nat}{e:Eff}(h:SD a φ slot n e=true):e.heap=none/\(∀ p∈e.objs,(slot<=p.1/\p.1<slot+n)\/(a=true/\wt φ p.1=true))/\∀ i∈e.frz,rd φ i=true/\AVM φ=false:=by
 unfold SD at h;simp only[Aau]at h;obtain⟨⟨f,g⟩,c,b⟩:=h;refine⟨by simp_all,fun p j => ?_,fun i hi=>⟨bF c hi,?_⟩⟩;grind;cases d:AVM φ with
  |false=>rfl
  |true=>
   rw[d]at b;have:e.frz=[]:=by simpa using b
   rw[this]at hi;cases hi
theorem Cx{e:Eff}(h:e.heap=none)(H:List Ob):C6 e H=Bq e.objs H:=by unfold C6;rw[h]
theorem Dj{e:Eff}(h:e.heap=none)(F:List Bool):FY e F=BN e.frz F:=by unfold FY;rw[h]
theorem Cp{all:List Oper}{x y:Oper}(a:apart? all x y=true)(st:St)(v:AV):∀ z∈y.op.operands,Bc (st.put x.dst v).tmps z=Bc st.tmps z:=by
 obtain⟨c,_,_⟩:=Oper.apart_spec a;intro z e;cases hd:x.dst with
  |none=>rfl
  |some d=>
   cases z with
    |tmp t=>
     have b:d≠t:=by rintro rfl;refine c d hd ?_;unfold Oper.looksAt;refine List.mem_append_left _ ?_;rw[List.mem_filterMap];exact⟨.tmp d,by grind,rfl⟩
     simp[Bc,St.put,Tm.YZ,Acd b]
    |const v=>rfl
    |global g=>rfl
    |func f=>rfl
theorem Ie{all:List Oper}{x y:Oper}(a:apart? all x y=true)(st:St)(v:AV)(H:List Ob)(F:List Bool):Eb all y.guard ({ st with heap:=H,frz:=F }.put x.dst v)=Eb all y.guard st:=by
 obtain⟨f,_,_⟩:=Oper.apart_spec a;unfold Eb;cases g:y.guard with
  |none=>rfl
  |some p=>
   obtain⟨j,c⟩:=p;dsimp only;cases h:(all[j]?).bind (·.dst)with
    |none=>rfl
    |some d=>
     dsimp only;cases hd:x.dst with
      |none=>rfl
      |some e=>
       have b:e≠d:=by rintro rfl;refine f e hd ?_;unfold Oper.looksAt;grind
       simp[St.put,Tm.YZ,Acd b]
theorem St.put_comm(st:St){x y:Option Tmp}(v u:AV)(h:∀ d,x=some d->y≠some d):(st.put x v).put y u=(st.put y u).put x v:=by
 cases x with
  |none=>rfl
  |some d=>
   cases y with
    |none=>rfl
    |some b=>have a:d≠b:=fun e=>h d rfl (by rw[e]);simp only[St.put];rw[Tm.set_comm _ _ _ a]
theorem St.JT(st:St)(e:Eff)(d:Option Tmp)(v:AV):(st.put d v).app e=(st.app e).put d v:=by cases d<;>rfl
theorem AM5{φ:List Nat}{i:Nat}(h:rd φ i=true):∃ c∈φ,c/2=i:=by unfold rd at h;grind
theorem Pn{all:List Oper}{x y:Oper}{φx φy:List Nat}{b d:Nat}(h:indep all x y φx φy b d=true):
  apart? all x y=true/\((Ol φx=false/\Ol φy=false/\Z9 x.op y.op=true)\/(NY φx=true/\Cr y.op=true)\/(NY φy=true/\Cr x.op=true)\/NY φx=false/\NY φy=false/\(∀ i,rd φy i=true->¬ (b<=i/\i<b+slotsOf x.op))/\(∀ i,rd φx i=true->¬ (d<=i/\i<d+slotsOf y.op))/\(∀ i,wt φx i=true->rd φy i=true->False)/\(∀ i,wt φy i=true->rd φx i=true->False)/\LY φx φy=true/\LY φy φx=true):=by
 unfold indep at h;rw[Aau]at h;obtain⟨l,h⟩:=h;refine⟨l,?_⟩;simp only[Abt,Aau,Ab8]at h;rcases h with((h|h)|h)|h;grind;grind;rotate_left;grind;obtain⟨⟨⟨⟨⟨⟨m,o⟩,e⟩,f⟩,g⟩,j⟩,p,q⟩:=h;refine .inr (.inr (.inr ⟨m,o,?_⟩));rw[AbK]at e f g j;have a:∀ {φ:List Nat} {s n:Nat},(∀ c∈φ,(!(decide (s<=c/2)&&decide (c/2<s+n)))=true)->∀ i,rd φ i=true->¬ (s<=i/\i<s+n):=by intro φ s n h i hi;obtain⟨c,r,rfl⟩:=AM5 hi;grind
 have k:∀ {φ ψ:List Nat},(∀ c∈φ,(decide (c % 2=0) || !(rd ψ (c/2)))=true)->∀ i,wt φ i=true->rd ψ i=true->False:=by intro φ ψ h i hi t;unfold wt at hi;grind
 exact⟨a e,a f,k g,k j,p,q⟩
theorem Kz{all:List Oper}{x y:Oper}(h:apart? all x y=true):apart? all y x=true:=by obtain⟨a,b,c⟩:=Oper.apart_spec h;unfold apart? Oper.apart;grind
theorem iG{φ:List Nat}{H H':List Ob}(h:∀ i,rd φ i=true->H[i]? = H'[i]?):RC φ H=RC φ H':=by
 unfold RC;rw[AcH,AbK,AbK];have e:∀ c∈φ,H[c/2]? = H'[c/2]? := by intro c a;refine h _ ?_;unfold rd;grind
 grind
theorem qe{ρ:Operand->AV}{o:Op}{φ:List Nat}{H H':List Ob}(h:∀ i,rd φ i=true->H[i]? = H'[i]?)(a:Kn E H ρ o φ):Kn E H' ρ o φ:=by rcases a with⟨b,c⟩|a;refine .inl ⟨b,?_⟩;unfold Ow at *;rw[<- iG h];exact c;exact .inr a
theorem kR{x:Oper}{φx φy:List Nat}{c:Nat}(g:∀ i,rd φy i=true->¬ (c<=i/\i<c+slotsOf x.op))(h:∀ i,wt φx i=true->rd φy i=true->False){st:St}{vx:AV}{b:Eff}{e:Bool}(d:SD e φx c (slotsOf x.op) b=true):
  ∀ i,rd φy i=true->((st.app b).put x.dst vx).heap[i]? = st.heap[i]? := by
 intro i hi;obtain⟨f,j,k⟩:=N8 d;have a:((st.app b).put x.dst vx).heap=Bq b.objs st.heap:=by cases x.dst<;>exact Cx f _
 rw[a];refine Cb _ _ fun p l => ?_;grind
theorem jP(D:FA E){all:List Oper}{x y:Oper}{φx φy:List Nat}{l e:Nat}(t:apart? all x y=true)(U:∀ i,rd φy i=true->¬ (l<=i/\i<l+slotsOf x.op))
  (F:∀ i,rd φx i=true->¬ (e<=i/\i<e+slotsOf y.op)) (V:∀ i,wt φx i=true->rd φy i=true->False) (K:∀ i,wt φy i=true->rd φx i=true->False) (L:l+slotsOf x.op<=e\/e+slotsOf y.op<=l)
  (m:LY φx φy=true) {st:St} {vx:AV} {ex:Eff} {M:Bool} (hex:SD M φx l (slotsOf x.op) ex=true) (G:Kn E ((st.app ex).put x.dst vx).heap (Bc st.tmps) y.op φy\/Kn E st.heap (Bc st.tmps) y.op φy) :
  ∀ (R:Type) (k:AV->Eff->Option R),evalOp P E R y.op y.type (Bc ((st.app ex).put x.dst vx).tmps) ((st.app ex).put x.dst vx).heap ((st.app ex).put x.dst vx).frz e k=evalOp P E R y.op y.type (Bc st.tmps) st.heap st.frz e k:=by
 intro R k;obtain⟨H,I,N⟩:=N8 hex;have g:∀ z∈y.op.operands,Bc ((st.app ex).put x.dst vx).tmps z=Bc st.tmps z:=fun z O=>by have:=Cp t (st.app ex) vx z O;exact this
 have b:((st.app ex).put x.dst vx).heap=Bq ex.objs st.heap:=by cases x.dst<;>exact Cx H _
 have n:((st.app ex).put x.dst vx).frz=BN ex.frz st.frz:=by cases x.dst<;>exact Dj H _
 rw[b]at G;rw[b,n];have d:∀ i,rd φy i=true->(Bq ex.objs st.heap)[i]? = st.heap[i]? := by intro i hi;refine Cb _ _ fun p r => ?_;grind
 have u:Kn E st.heap (Bc st.tmps) y.op φy:=G.elim (fun h=>qe d h) fun h=>h;rcases u with⟨j,v⟩|⟨v,w,Q⟩
 rw[C0 y.op y.type _ _ e k g];symm;have A:∀ c∈φy,rd φy (c/2)=true:=by intro c f;unfold rd;rw[Abt,AcR,AcR];rcases Nat.mod_two_eq_zero_or_one c with h|h;exact .inl (by rw[show 2*(c/2)=c by omega];exact f);exact .inr (by rw[show 2*(c/2)+1=c by omega];exact f)
 have nf:∀ c∈φy,c/2∉ex.frz:=by intro c f S;obtain⟨J,T⟩:=N _ S;unfold LY at m;rw[j,T]at m;simp only[Aav,AdR]at m;rw[AbK]at m;have:=m c f;rw[J]at this;simp only[Aav,Bool.or_false,Aat]at this;refine K (c/2) ?_ J;unfold wt;rw[AcR,show 2*(c/2)+1=c by omega];exact f
 refine vl D y.op y.type k v ⟨fun id a => ?_,fun s o q => ?_,fun s o q => ?_,(EG _ _).symm,fun id a => ?_⟩;obtain⟨c,f,rfl⟩:=AbA.1 a;exact(d _ (A c f)).symm;symm;refine Cb _ _ fun p r => ?_;rintro rfl;rcases I p r with h|⟨B,h⟩
 omega;exact F _ (PM h) ⟨o,q⟩;rw[Bm];grind;obtain⟨c,f,rfl⟩:=AbA.1 a;rw[Bm];have:=nf c f;grind;have C:Wr (Oc (Bc st.tmps) y.op) e (slotsOf y.op) (Eu (Bc st.tmps) y.op) (Bq ex.objs st.heap) st.heap (BN ex.frz st.frz) st.frz:=by
  refine⟨fun id a => ?_,fun s o q => ?_,fun s o q => ?_,EG _ _,fun id a => ?_⟩;have hφ:=bF v a;grind;refine Cb _ _ fun p r => ?_;rintro rfl;rcases I p r with h|⟨B,h⟩
  omega;exact F _ (PM h) ⟨o,q⟩;rw[Bm];grind;rw[Bm];have hφ:=rZ w a;grind
 rw[C0 y.op y.type _ _ e k g];exact pO D y.op y.type k C Q
theorem mT{ρ ρ':Operand->AV}{o:Op}(h:∀ z∈o.operands,ρ z=ρ' z):Eu ρ o=Eu ρ' o:=by
 unfold Eu;split;rw[h _ (by simp[Op.operands])];rw[h _ (by simp[Op.operands])];rw[h _ (by simp[Op.operands])];rw[h _ (by simp[Op.operands])];rw[h _ (by simp[Op.operands])];rename_i args ts;cases a:args.toList with
  |nil=>rfl
  |cons s r=>
   have:s∈args:=by
    have:s∈args.toList:=by grind
    grind
   simp only;rw[h s (by simp[Op.operands,Call.operands];omega)]
 rename_i args ts;cases a:args.toList with
  |nil=>rfl
  |cons s r=>
   have:s∈args:=by
    have:s∈args.toList:=by grind
    grind
   simp only;rw[h s (by simp[Op.operands,Call.operands];omega)]
 rfl
theorem NV{ρ ρ':Operand->AV}{o:Op}(h:∀ z∈o.operands,ρ z=ρ' z):I1 ρ o=I1 ρ' o:=by
 unfold I1;have a:∀ l:List Operand,(∀ z∈l,ρ z=ρ' z)->(l.flatMap fun x=>BV (ρ x))=l.flatMap fun x=>BV (ρ' x):=by
  intro l;induction l with
   |nil=>simp
   |cons x l b=>grind
 grind
theorem rq{ρ ρ':Operand->AV}{o:Op}(h:∀ z∈o.operands,ρ z=ρ' z):Oc ρ o=Oc ρ' o:=by
 cases o with
  |store T x y=>simp only[Oc];rw[h x (by simp[Op.operands]),NV h]
  |move x=>rfl
  |assign x=>rfl
  |pick c a b=>rfl
  |extract x i=>rfl
  |build T d=>rfl
  |makeFunc f a b=>rfl
  |_=>exact NV h
theorem gp{ρ ρ':Operand->AV}{o:Op}(h:∀ z∈o.operands,ρ z=ρ' z):Gm E ρ o=Gm E ρ' o:=by unfold Gm;split;rename_i f args ts;rw[h f (by simp[Op.operands,Call.operands])];rfl
theorem It{H:List Ob}{ρ ρ':Operand->AV}{o:Op}{φ:List Nat}(h:∀ z∈o.operands,ρ z=ρ' z)(a:Kn E H ρ o φ):Kn E H ρ' o φ:=by
 rcases a with⟨g,a⟩|⟨b,c,d⟩
 refine .inl ⟨g,?_⟩;have e:XZ E ρ o=XZ E ρ' o:=by unfold XZ;split;rename_i f args ts;rw[h f (by simp[Op.operands,Call.operands])];rfl
 unfold Ow at *;rw[<- e,<- NV h];exact a;rw[rq h]at b;rw[mT h]at c;rw[gp h]at d;exact .inr ⟨b,c,d⟩
theorem SB{R:Type}{o:Op}(h:Cr o=true)(ty:TypeId)(ρ:Operand->AV)(H H':List Ob)(fz fz':List Bool)(slot:Nat)(k:AV->Eff->Option R):
  evalOp P E R o ty ρ H fz slot k=evalOp P E R o ty ρ H' fz' slot k:=by cases o<;>first|rfl|(simp only[Cr,AbB]at h)
theorem N2{o:Op}(h:Cr o=true)(ty:TypeId)(ρ:Operand->AV)(H:List Ob)(fz:List Bool)(slot:Nat){v:AV}{e:Eff}
  (a:∀ (R:Type) (k:AV->Eff->Option R),evalOp P E R o ty ρ H fz slot k=k v e):e = {}:=by
 have:=a Eff (fun _ e=>some e);cases o<;>first|(simp only[Cr,AbB]at h;done)|skip
 all_goals
  simp only[evalOp,Xx,Ds,Xw,Mt]at this
  grind
theorem P1{o:Op}(h:Dw o=true)(ty:TypeId)(ρ:Operand->AV)(H:List Ob)(fz:List Bool)(slot:Nat){v:AV}{e:Eff}
  (f:∀ (R:Type) (k:AV->Eff->Option R),evalOp P E R o ty ρ H fz slot k=k v e):e = {}:=by
 by_cases d:Cr o=true;exact N2 d ty ρ H fz slot f;have:=f Eff (fun _ e=>some e);cases o with
  |call c=>
   obtain⟨a,args,ts⟩:=c;cases a with
    |builtin b=>
     cases b<;>first|(simp only[Dw,Cr,AbB]at h;done)|skip
     simp only[evalOp,Pw]at this;grind
    |_=>simp only[Dw,Cr,AbB]at h
  |slice T x i hi g=>
   cases g with
    |some m=>simp only[Dw,Cr,AbB]at h
    |none=>
     simp only[evalOp,Dr,H6]at this;repeat' split at this
     all_goals grind
  |makeFunc fn first cs=>
   cases fn<;>first|(simp only[Dw,Cr,AbB]at h;done)|skip
   simp only[evalOp,F8]at this;grind
  |load _ _|convert _ _ _|fieldAddr _ _ _|field _ _ _|indexAddr _ _ _|index _ _ _|nilCheck _|lookup _ _ _ _|build _ _=>
   simp only[evalOp,N7,Hq,VI,ED,N6,CT,Lp,E6,Dv]at this;repeat' split at this
   all_goals first|(cases this;done)|(simp only[Aas]at this;exact this.symm)
  |_=>first|exact absurd h d|(simp only[Dw,Cr,AbB]at h;done)|exact absurd rfl d
theorem AFP{H:List Ob}{ρ:Operand->AV}{o:Op}{φ:List Nat}(h:Cr o=true)(a:Kn E H ρ o φ):within (Oc ρ o) φ=true/\QQ (Eu ρ o) φ=true/\Gm E ρ o=true:=by rcases a with⟨_,a⟩|a;exfalso;unfold Ow at a;simp only[Aau]at a;have:=a.2;unfold XZ at this;split at this;cases h;grind;omega
theorem ye{all:List Oper}{x y:Oper}{φx φy:List Nat}{o g:Nat}(b:apart? all x y=true)(A:NY φx=true)(p:Cr y.op=true)
  {st c s2:St} (B:DZ P E all x φx o st c) (m:DZ P E all y φy g c s2):∃ i,DZ P E all y φy g st i/\DZ P E all x φx o i s2:=by
 have d:=Kz b;obtain⟨_,j,_⟩:=Oper.apart_spec b;have t:∀ (v:AV) (H:List Ob) (F:List Bool) (s:St),Eb all y.guard ({ s with heap:=H,frz:=F }.put x.dst v)=Eb all y.guard s:=fun v H F s=>Ie b s v H F;have K:∀ (v:AV) (H:List Ob) (F:List Bool) (s:St),Eb all x.guard ({ s with heap:=H,frz:=F }.put y.dst v)=Eb all x.guard s:=fun v H F s=>Ie d s v H F;have first:∀ (c:St),(∀ z∈y.op.operands,Bc c.tmps z=Bc st.tmps z)->Eb all y.guard c=Eb all y.guard st->DZ P E all y φy g c s2->∃ a,DZ P E all y φy g st (st.put y.dst a)/\s2=c.put y.dst a:=by
  intro c e L m;rcases m with⟨C,a,M,q,u,rfl⟩|⟨C,rfl⟩
  have D:=N2 p _ _ _ _ _ u;subst D;refine⟨a,.inl ⟨by grind,a,{},?_,fun R k => ?_,rfl⟩,rfl⟩;rcases q with h|⟨l,G⟩
  grind;exact .inr ⟨.inr (AFP p (It e l)),G⟩;rw[<- u R k,C0 y.op y.type _ _ g k e];exact SB p _ _ _ _ _ _ _ _;exact⟨CW,.inr ⟨by grind,rfl⟩,rfl⟩
 have f:∀ (v:AV) (s:St),∀ z∈y.op.operands,Bc (s.put x.dst v).tmps z=Bc s.tmps z:=fun v s z r=>Cp b s v z r;rcases B with⟨I,vx,n,J,N,rfl⟩|⟨I,rfl⟩
 obtain⟨a,l,rfl⟩:=first _ (f vx (st.app n)) (t vx (C6 n st.heap) (FY n st.frz) st) m
 refine⟨_,l,.inl ⟨?_,vx,n,.inl A,fun R k => ?_,?_⟩⟩;simp_all;have w:(st.put y.dst a).heap=st.heap/\(st.put y.dst a).frz=st.frz:=by cases y.dst<;>exact⟨rfl,rfl⟩
 rw[w.1,w.2,C0 x.op x.type _ _ o k fun z r=>Cp d st a z r];grind;rw[St.JT,St.put_comm _ vx a j];obtain⟨a,l,rfl⟩:=first _ (f CW st) (t CW st.heap st.frz st) m
 refine⟨_,l,.inr ⟨?_,?_⟩⟩;simp_all;rw[St.put_comm _ CW a j]
theorem yd{all:List Oper}{x y:Oper}{φx φy:List Nat}{e n:Nat}(c:apart? all x y=true)(u:NY φy=true)(o:Cr x.op=true)
  {st s1 s2:St} (w:DZ P E all x φx e st s1) (A:DZ P E all y φy n s1 s2):∃ i,DZ P E all y φy n st i/\DZ P E all x φx e i s2:=by
 have b:=Kz c;obtain⟨_,j,_⟩:=Oper.apart_spec c;have M:∀ (v:AV) (s:St),Eb all y.guard (s.put x.dst v)=Eb all y.guard s:=fun v s=>Ie c s v s.heap s.frz;have q:∀ (v:AV) (H:List Ob) (F:List Bool) (s:St),Eb all x.guard ({ s with heap:=H,frz:=F }.put y.dst v)=Eb all x.guard s:=fun v H F s=>Ie b s v H F;have r:∀ v:AV,(st.put x.dst v).heap=st.heap/\(st.put x.dst v).frz=st.frz:=fun v=>by cases x.dst<;>exact⟨rfl,rfl⟩
 have m:∀ (s:St) (vx:AV),(∀ z∈x.op.operands,Bc s.tmps z=Bc st.tmps z)->Eb all x.guard s=Eb all x.guard st->DZ P E all x φx e st (st.put x.dst vx)->(∃ v,DZ P E all x φx e st (st.put x.dst v)):=fun s vx _ _ h=>⟨vx,h⟩
 have xs:∃ vx,s1=st.put x.dst vx/\∀ s:St,(∀ z∈x.op.operands,Bc s.tmps z=Bc st.tmps z)->Eb all x.guard s=Eb all x.guard st->DZ P E all x φx e s (s.put x.dst vx):=by
  rcases w with⟨B,vx,N,p,t,rfl⟩|⟨B,rfl⟩
  have C:=N2 o _ _ _ _ _ t;subst C;refine⟨vx,rfl,fun s a D=>.inl ⟨by grind,vx,{},?_,fun R k => ?_,rfl⟩⟩;rcases p with h|⟨G,I⟩
  grind;exact .inr ⟨.inr (AFP o (It (fun z d=>(a z d).symm) G)),I⟩;rw[<- t R k,C0 x.op x.type _ _ e k a];exact SB o _ _ _ _ _ _ _ _;exact⟨CW,rfl,fun s _ D=>.inr ⟨by grind,rfl⟩⟩
 obtain⟨vx,rfl,l⟩:=xs;have a:∀ z∈y.op.operands,Bc (st.put x.dst vx).tmps z=Bc st.tmps z:=fun z d=>Cp c st vx z d;rcases A with⟨J,f,g,K,L,rfl⟩|⟨J,rfl⟩
 refine⟨(st.app g).put y.dst f,.inl ⟨by grind,f,g,.inl u,fun R k => ?_,rfl⟩,?_⟩;have:=L R k;rw[(r vx).1,(r vx).2,C0 y.op y.type _ _ n k a]at this;omega;have:=l ((st.app g).put y.dst f) (fun z d=>Cp b (st.app g) f z d) (q f (C6 g st.heap) (FY g st.frz) st);rw[St.JT,St.put_comm _ vx f j];omega;refine⟨st.put y.dst CW,.inr ⟨by grind,rfl⟩,?_⟩;have:=l (st.put y.dst CW) (fun z d=>Cp b st CW z d) (q CW st.heap st.frz st);rw[St.put_comm _ vx CW j];omega
theorem yf(U:FA E){all:List Oper}{x y:Oper}{φx φy:List Nat}{r t:Nat}(c:apart? all x y=true)(n1:NY φx=false)(n2:NY φy=false)(G:∀ i,rd φy i=true->¬ (r<=i/\i<r+slotsOf x.op))(I:∀ i,rd φx i=true->¬ (t<=i/\i<t+slotsOf y.op))(J:∀ i,wt φx i=true->rd φy i=true->False)(N:∀ i,wt φy i=true->rd φx i=true->False)(X:LY φx φy=true)(Y:LY φy φx=true)(w:r+slotsOf x.op<=t)
  {st s1 s2:St} (Z:DZ P E all x φx r st s1) (V:DZ P E all y φy t s1 s2):∃ A,DZ P E all y φy t st A/\DZ P E all x φx r A s2:=by
 have a:=Kz c;obtain⟨_,g,_⟩:=Oper.apart_spec c;have gx:∀ (v:AV) (H:List Ob) (F:List Bool) (s:St),Eb all y.guard ({ s with heap:=H,frz:=F }.put x.dst v)=Eb all y.guard s:=fun v H F s=>Ie c s v H F;have gy:∀ (v:AV) (H:List Ob) (F:List Bool) (s:St),Eb all x.guard ({ s with heap:=H,frz:=F }.put y.dst v)=Eb all x.guard s:=fun v H F s=>Ie a s v H F;have gxa:∀ v e,Eb all y.guard ((st.app e).put x.dst v)=Eb all y.guard st:=fun v e=>gx v (C6 e st.heap) (FY e st.frz) st;have gya:∀ v e,Eb all x.guard ((st.app e).put y.dst v)=Eb all x.guard st:=fun v e=>gy v (C6 e st.heap) (FY e st.frz) st;rcases Z with⟨g1,vx,B,O,a3,rfl⟩|⟨g1,rfl⟩
 obtain⟨Q,C⟩:=O.resolve_left (by grind);rcases V with⟨S,f,l,n,W,rfl⟩|⟨S,rfl⟩
 obtain⟨j,u⟩:=n.resolve_left (by grind);have b:∀ z∈y.op.operands,Bc ((st.app B).put x.dst vx).tmps z=Bc st.tmps z:=fun z d=>Cp c (st.app B) vx z d;have j:=It b j;have ov:=jP (P:=P) U c G I J N (.inl w) X (vx:=vx) C (.inl j);refine⟨(st.app l).put y.dst f,.inl ⟨by grind,f,l,.inr ⟨qe (kR G J C) j,u⟩,fun R k=>by grind,rfl⟩,?_⟩;have o:∀ z∈x.op.operands,Bc ((st.app l).put y.dst f).tmps z=Bc st.tmps z:=fun z d=>Cp a (st.app l) f z d;have ov':=jP (P:=P) U a I G N J (.inr w) Y (st:=st) (vx:=f) u (.inr Q);refine .inl ⟨by grind,vx,B,.inr ⟨It (fun z d=>(o z d).symm) (qe (fun i hi=>(kR I N u i hi).symm) Q),C⟩,fun R k=>by grind,?_⟩;obtain⟨K,p2,p3⟩:=N8 C;obtain⟨L,r2,r3⟩:=N8 u;have D:∀ p∈l.objs,∀ q∈B.objs,p.1≠q.1:=by
  intro p hp q hq T;rcases r2 p hp with h|⟨hw,h⟩<;>rcases p2 q hq with M|⟨hw',M⟩
  omega;exact I _ (PM M) (T▸h);exact G _ (PM h) (T▸M);exact J _ M (T▸PM h)
 rw[St.JT,St.JT,St.put_comm _ vx f g];congr 2;unfold St.app;rw[Cx K,Cx L,Dj K,Dj L,Cx L,Cx K,Dj L,Dj K,mv _ _ D,sT];refine⟨st.put y.dst CW,.inr ⟨by grind,rfl⟩,.inl ⟨?_,vx,B,.inr ⟨?_,C⟩,fun R k => ?_,?_⟩⟩;simp_all;have m:(st.put y.dst CW).heap=st.heap:=by cases y.dst<;>rfl
 rw[m];exact It (fun z d=>(Cp a st CW z d).symm) Q;have m:(st.put y.dst CW).heap=st.heap/\(st.put y.dst CW).frz=st.frz:=by cases y.dst<;>exact⟨rfl,rfl⟩
 rw[m.1,m.2,C0 x.op x.type _ _ r k fun z d=>Cp a st CW z d];grind;rw[St.JT,St.put_comm _ vx CW g];rcases V with⟨S,f,l,n,W,rfl⟩|⟨S,rfl⟩
 obtain⟨j,u⟩:=n.resolve_left (by grind);have m:(st.put x.dst CW).heap=st.heap/\(st.put x.dst CW).frz=st.frz:=by cases x.dst<;>exact⟨rfl,rfl⟩
 rw[m.1]at j;have b:∀ z∈y.op.operands,Bc (st.put x.dst CW).tmps z=Bc st.tmps z:=fun z d=>Cp c st CW z d;have j:=It b j;refine⟨(st.app l).put y.dst f,.inl ⟨by simp_all,f,l,.inr ⟨j,u⟩,fun R k => ?_,rfl⟩,.inr ⟨by grind,?_⟩⟩;have:=W R k;rw[m.1,m.2,C0 y.op y.type _ _ t k b]at this;omega;rw[St.JT,St.put_comm _ CW f g]
 exact⟨st.put y.dst CW,.inr ⟨by simp_all,rfl⟩,
  .inr ⟨by simp_all,St.put_comm _ CW CW g⟩⟩
def AFN(H H':List Ob)(id:Nat):Prop:=(∃ a b c,H[id]? = some (.map a b c))/\∃ a b c,H'[id]? = some (.map a b c)
theorem GQ{H H':List Ob}(h:∀ id,H[id]? = H'[id]?\/AFN H H' id)(t:Ty)(v:AV):E9 H t v=E9 H' t v:=by
 cases v<;>simp only[E9]
 ·rename_i id;rcases h id with h|⟨⟨a,b,d,e⟩,f,b',c,g⟩
  all_goals grind
 ·rename_i id off n;rcases h id with h|⟨⟨a,b,d,e⟩,f,b',c,g⟩
  all_goals grind
 ·rename_i id;rcases h id with h|⟨⟨a,b,d,e⟩,f,b',c,g⟩
  all_goals grind
theorem AJB{α:Type}{one a:List AV->Option (α×List Nat×List AV)}(b:∀ cs,one cs=a cs):∀ (n:Nat) (cs:List AV),UO one n cs=UO a n cs:=by
 intro n;induction n with
  |zero=>intro cs;rfl
  |succ n c=>intro cs;simp only[UO];grind
theorem oW{H H':List Ob}(h:∀ id,H[id]? = H'[id]?\/AFN H H' id):∀ (t:Ty) (cs:List AV),BZ H t cs=BZ H' t cs:=by
 intro t;induction t with
  |unit=>intro cs;cases cs<;>rfl
  |bool=>intro cs;cases cs with
   |nil=>rfl
   |cons c cs=>unfold BZ;rw[GQ h .bool c]
  |int k=>intro cs;cases cs with
   |nil=>rfl
   |cons c cs=>unfold BZ;rw[GQ h (.int k) c]
  |slice e _=>intro cs;cases cs with
   |nil=>rfl
   |cons c cs=>unfold BZ;rw[GQ h (.slice e) c]
  |nul e=>intro cs;cases cs with
   |nil=>rfl
   |cons c cs=>unfold BZ;rw[GQ h (.nul e) c]
  |mapi j e _=>intro cs;cases cs with
   |nil=>rfl
   |cons c cs=>unfold BZ;rw[GQ h (.mapi j e) c]
  |prod a b d f=>intro cs;simp only[BZ];grind
  |arr n e g=>intro cs;simp only[BZ];exact AJB g n cs
theorem AKr{H H':List Ob}(h:∀ id,H[id]? = H'[id]?\/AFN H H' id)(t:Ty)(v:AV):GW H t v=GW H' t v:=by unfold GW;split;cases v<;>simp only[asAgg];rename_i cs;rw[oW h t cs];exact GQ h t v
theorem AIw{α β:Type}[DecidableEq α](b:List (α×β))(k j:α)(z:β):(A_ (BH b k ((A_ b k).getD z)) j).getD z=(A_ b j).getD z:=by
 have d:∀ (b:List (α×β)) (v:β),A_ (BH b k v) j=if j=k then some v else A_ b j:=by
  intro b v;induction b with
   |nil=>simp only[BH,A_];grind
   |cons e b f=>obtain⟨a,x⟩:=e;by_cases c:a=k;subst c;simp only[BH,A_,Abc];grind;simp only[BH,A_,c,AbE,f];grind
 grind
theorem oI{R:Type}{H:List Ob}{j:Nat}{a b:Ty}{h c:List (a.den×b.den)}(l:H[j]? = some (.map a b h))(n:∀ f:a.den,(A_ (α:=a.den) c f).getD b.zero=(A_ (α:=a.den) h f).getD b.zero)
  (T:TypeId) (m x:Operand) (ty:TypeId) (ρ:Operand->AV) (fz fz':List Bool) (slot e:Nat) (o:AV->Eff->Option R) :
  evalOp P E R (.lookup T m x false) ty ρ (H.set j (.map a b c)) fz' e o=evalOp P E R (.lookup T m x false) ty ρ H fz slot o:=by
 have i:=BW l;have p:∀ id,(H.set j (.map a b c))[id]? = H[id]?\/AFN (H.set j (.map a b c)) H id:=fun id=>by by_cases g:id=j;subst g;exact .inr ⟨⟨a,b,c,Bs i⟩,a,b,h,l⟩;grind
 simp only[evalOp,E6,AKr p];cases P.underlying T with
  |none=>rfl
  |some d=>
   cases d with
    |map r s=>
     by_cases k:∃ id,ρ m = .mp id
     case neg=>
      grind
     obtain⟨id,q⟩:=k;rw[q];dsimp only;by_cases g:id=j;all_goals grind
    |_=>rfl
theorem oG{H:List Ob}{fz:List Bool}{T:TypeId}{m x:Operand}{ty:TypeId}{ρ:Operand->AV}{slot:Nat}{v:AV}{e:Eff}(h:∀ (R:Type) (k:AV->Eff->Option R),evalOp P E R (.mapEntry T m x) ty ρ H fz slot k=k v e):
  ∃ id a b d,∃ c:a.den,H[id]? = some (.map a b d)/\e = { objs:=[(id,.map a b (BH (α:=a.den) d c ((A_ (α:=a.den) d c).getD b.zero)))] }:=by have:=h Eff (fun _ e=>some e);simp only[evalOp,Hp]at this;grind
theorem AFO{H H':List Ob}{ρ:Operand->AV}{o:Op}{φ:List Nat}(b:Ol φ=false)(a:Kn E H ρ o φ):Kn E H' ρ o φ:=by rcases a with⟨c,_⟩|a;grind;exact .inr a
theorem yc{all:List Oper}{x y:Oper}{φx φy:List Nat}{A B:Nat}(g:apart? all x y=true)(V:Ol φx=false)(W:Ol φy=false)(L:Z9 x.op y.op=true)
  {st s1 s2:St} (X:DZ P E all x φx A st s1) (Y:DZ P E all y φy B s1 s2):∃ r,DZ P E all y φy B st r/\DZ P E all x φx A r s2:=by
 have e:=Kz g;obtain⟨_,t,_⟩:=Oper.apart_spec g;obtain⟨T,m,kx,ok,f,M,N,O,l,C⟩:∃ T m kx ok,x.op = .lookup T m kx ok/\∃ M N O,y.op = .mapEntry M N O/\ok=false:=by cases f:x.op<;>cases l:y.op<;>rw[f,l]at L<;>simp only[Z9,AbB]at L;grind
 subst C;have gx:∀ (v:AV) (s:St),Eb all y.guard (s.put x.dst v)=Eb all y.guard s:=fun v s=>Ie g s v s.heap s.frz;have Q:∀ (v:AV) (H:List Ob) (F:List Bool) (s:St),Eb all x.guard ({ s with heap:=H,frz:=F }.put y.dst v)=Eb all x.guard s:=fun v H F s=>Ie e s v H F;have S:∀ v:AV,(st.put x.dst v).heap=st.heap/\(st.put x.dst v).frz=st.frz:=fun v=>by cases x.dst<;>exact⟨rfl,rfl⟩
 have xs:∃ vx,s1=st.put x.dst vx/\∀ s:St,(∀ z∈x.op.operands,Bc s.tmps z=Bc st.tmps z)->Eb all x.guard s=Eb all x.guard st ->
   (s.heap=st.heap\/∃ j a b i n,st.heap[j]? = some (.map a b i)/\s.heap=st.heap.set j (.map a b n)/\∀ d:a.den,(A_ (α:=a.den) n d).getD b.zero=(A_ (α:=a.den) i d).getD b.zero)->DZ P E all x φx A s (s.put x.dst vx):=by
  rcases X with⟨Z,vx,ex,D,U,rfl⟩|⟨Z,rfl⟩
  ·have he:=P1 (by rw[f];rfl) _ _ _ _ _ U
   subst he
   refine⟨vx,rfl,fun s c hg G=>.inl ⟨by grind,vx,{},?_,fun R k => ?_,rfl⟩⟩
   ·rcases D with h|⟨u,I⟩
    ·grind
    ·exact .inr ⟨AFO V (It (fun z o=>(c z o).symm) u),I⟩
   ·rw[<- U R k,C0 x.op x.type _ _ A k c]
    rcases G with G|⟨j,a,b,i,n,u,h2,h3⟩
    ·rw[G,f];rfl
    ·rw[h2,f]
     exact oI u h3 _ _ _ _ _ _ _ _ _ _
  ·exact⟨CW,rfl,fun s _ hg _=>.inr ⟨by grind,rfl⟩⟩
 obtain⟨vx,rfl,w⟩:=xs;have c:∀ z∈y.op.operands,Bc (st.put x.dst vx).tmps z=Bc st.tmps z:=fun z o=>Cp g st vx z o;rcases Y with⟨g2,p,J,K,b3,rfl⟩|⟨g2,rfl⟩
 have q:∀ (R:Type) (k:AV->Eff->Option R),evalOp P E R y.op y.type (Bc st.tmps) st.heap st.frz B k=k p J:=fun R k=>by have:=b3 R k;rw[(S vx).1,(S vx).2,C0 y.op y.type _ _ B k c]at this;omega
 refine⟨(st.app J).put y.dst p,.inl ⟨by grind,p,J,?_,q,rfl⟩,?_⟩;rcases K with h|⟨u,I⟩
 grind;exact .inr ⟨AFO W (It c u),I⟩;rw[l]at q;obtain⟨j,a,b,i,d,ho,rfl⟩:=oG q
 have:=w ((st.app { objs:=[(j,.map a b (BH (α:=a.den) i d ((A_ (α:=a.den) i d).getD b.zero)))] }).put y.dst p) (fun z o=>Cp e (st.app _) p z o) (Q p _ _ st)
  (.inr ⟨j,a,b,i,_,ho,by cases y.dst<;>rfl,fun k=>AIw (α:=a.den) i d k b.zero⟩)
 rw[St.JT,St.put_comm _ vx p t];omega;refine⟨st.put y.dst CW,.inr ⟨by grind,rfl⟩,?_⟩;have:=w (st.put y.dst CW) (fun z o=>Cp e st CW z o) (Q CW st.heap st.frz st) (.inl (by cases y.dst<;>rfl));rw[St.put_comm _ vx CW t];omega
theorem AGG(l:FA E){all:List Oper}{x y:Oper}{φx φy:List Nat}{c d:Nat}(g:indep all x y φx φy c d=true)(i:c+slotsOf x.op<=d)
  {st s1 s2:St} (e:DZ P E all x φx c st s1) (f:DZ P E all y φy d s1 s2):∃ b,DZ P E all y φy d st b/\DZ P E all x φx c b s2:=by
 obtain⟨a,h⟩:=Pn g;rcases h with⟨m,n,o⟩|⟨j,k⟩|⟨j,k⟩|⟨p,q,r,s,t,u,v,w⟩
 exact yc a m n o e f;exact ye a j k e f;exact yd a j k e f;exact yf l a p q r s t u v w i e f
end
section
variable [DfI] {P:Program} {E:Env}
theorem uj{all:List Oper}{y:Oper}{φy:List Nat}{b:Nat}:∀ {l:List (Nat×Oper×List Nat×Nat)},Z6 all y φy b l=true->∀ q∈l,reach all 8 y q.1=true\/indep all q.2.1 y q.2.2.1 φy q.2.2.2 b=true:=by
 intro l;induction l with
  |nil=>simp
  |cons p l d=>
   intro h q c;obtain⟨i,x,φx,e⟩:=p;simp only[Z6,Aau,Abt]at h;rcases AbD.1 c with rfl|c;·rcases h.1 with a|a|a;exact .inl (by simp only[reach,a,Bool.true_or]);all_goals grind
   grind
theorem UA{all:List Oper}{fp:List (List Nat)}{base:Nat}:∀ (b a:List Oper) (c:List (List Nat)) (slot:Nat) (f:List (Nat×Oper×List Nat×Nat)),all=a++b->c=fp.drop a.length->slot=B8 all base a.length ->
  (∀ j x,j<a.length->all[j]? = some x->(j,x,fp.getD j [],B8 all base j)∈f)->dS all b c a.length slot f=true ->
  ∀ i y,a.length<=i->all[i]? = some y->(∀ e∈y.after.toList,Region.binds .any e=true->e.on<i) /\
   ∀ j x,j<i->all[j]? = some x->reach all 8 y j=true\/indep all x y (fp.getD j []) (fp.getD i []) (B8 all base j) (B8 all base i)=true:=by
 intro b;induction b with
  |nil=>grind
  |cons o b w=>
   intro a c slot f s g k l h i y hi p;simp only[dS,Aau]at h;obtain⟨⟨t,G⟩,z⟩:=h;have d:(a++[o]).length=a.length+1:=by simp
   have m:c.headD []=fp.getD a.length []:=by rw[g,AbG,List.headD_eq_head?_getD,List.head?_drop]
   have n:c.tail=fp.drop (a++[o]).length:=by rw[g,d,List.tail_drop]
   have q:slot+slotsOf o.op=B8 all base (a++[o]).length:=by
    rw[k,d];unfold B8;have A:all.take (a.length+1)=a++[o]:=by grind
    have B:all.take a.length=a:=by grind
    rw[A,B,KW];simp[DE];omega
   have C:all[a.length]? = some o:=by grind
   rcases Acs a.length i with D|F;refine w (a++[o]) _ _ _ (by grind) n q (fun j x u v => ?_) (by rw[d];exact z) i y (by omega) p;grind;have r:i=a.length:=by omega
   subst r;rw[C]at p;cases p;refine⟨fun e H I => ?_,fun j x u v => ?_⟩;grind;rw[m,k]at t;exact uj t _ (l j x u v)
theorem AGN{all:List Oper}{base i j:Nat}{x:Oper}(b:j<i)(d:all[j]? = some x):B8 all base j+slotsOf x.op<=B8 all base i:=by
 unfold B8;have a:j<all.length:=by grind
 have e:all.take (j+1)=all.take j++[x]:=by rw[Abq a];grind
 have c:all.take i=all.take (j+1)++(all.drop (j+1)).take (i-(j+1)):=by rw[<- List.take_add];congr 1;omega
 rw[c,e,KW,KW];simp[DE];omega
theorem QF(n:FA E){all:List Oper}{fp:Nat->List Nat}{base:Nat}{i:Nat}{y:Oper}(l:all[i]? = some y):
  ∀ (a c:List Nat) (st st':St),(∀ j∈a,j<i/\∀ x,all[j]? = some x->indep all x y (fp j) (fp i) (B8 all base j) (B8 all base i)=true) ->
   I' P E all fp (B8 all base) (a++i::c) st st'->I' P E all fp (B8 all base) (i::(a++c)) st st':=by
 intro a;induction a with
  |nil=>simp
  |cons j a o=>intro c st st' m h;obtain⟨x,p,d,q,r⟩:=h;obtain⟨A,s,b,t,u⟩:=o c p st' (fun k v=>m k (by simp[v])) r;rw[l]at b;cases b;obtain⟨e,f⟩:=m j (by simp);obtain⟨g,w,z⟩:=AGG n (f x d) (AGN e d) q t;exact⟨y,g,l,w,x,s,d,z,u⟩
def BQ(n:Nat)(a:Array Bool):List Nat:=(List.range n).filter fun i => !a.getD i true
theorem TW{n:Nat}{a:Array Bool}{i:Nat}(o:a.size=n)(f g:List Nat)(h:BQ n a=f++i::g):BQ n (a.setIfInBounds i true)=f++g:=by
 have b:(BQ n a).Nodup:=Ac2 _ AcM;have c:i∈BQ n a:=by grind
 have k:i<n:=by unfold BQ at c;grind
 have e:BQ n (a.setIfInBounds i true)=(BQ n a).filter fun j=>decide (j≠i):=by
  unfold BQ;rw[List.filter_filter];apply Acb;intro j p;have l:j<n:=by grind
  by_cases d:j=i;simp_all;simp[AbT,Array.getElem?_setIfInBounds_ne (Acd d),d]
 rw[e,h];rw[h]at b;rw[Adi]at b;obtain⟨_,m,hd⟩:=b;rw[AcX,Ac6];simp only[ne_eq,Ab2,AbV,AbB,AbE];rw[AcO.2,AcO.2];all_goals grind
theorem Oa{n:Nat}{a:Array Bool}{i:Nat}{b c:List Nat}(h:BQ n a=b++i::c):∀ j∈b,j<i:=by
 have d:(BQ n a).Pairwise (· < ·):=Ac2 _ Adn
 grind
def YP(ops:List Oper)(a:Nat->Bool):Prop:=∀ k z,ops[k]? = some z->a k=true->∀ e∈z.after.toList,Region.binds .any e=true->a e.on=true
theorem T4{ops:List Oper}{a:Nat->Bool}(d:YP ops a):∀ (n:Nat) (y:Oper) (j:Nat),(∀ e∈y.after.toList,Region.binds .any e=true->a e.on=true)->reach ops n y j=true->a j=true:=by
 intro n;induction n with
  |zero=>intro y j _ h;cases h
  |succ n f=>intro y j g h;simp only[reach,Abt]at h;rcases h with h|h;unfold oo at h;grind;rw[Ads]at h;obtain⟨e,i,b⟩:=h;simp only[Aau]at b;obtain⟨k,c⟩:=b;split at c;rename_i z l;exact f z j (d e.on z l (g e i k)) c;grind
theorem mi(G:∀ g,BS P g (E.spec g)){ops:Array Oper}{i:Nat}{o:Oper}{φ:List Nat}{slot:Nat}{st r:St}{Q:Exit->Act->World->Prop}{K:Act->World->Prop}{w:World}{F:Nat->Prop}{m:Mp}{a:Act}(z:ops[i]? = some o)(H:DZ P E ops.toList o φ slot st r)(h:SI w F m st a)
  (B:∀ C w' t y,SI w' t y r C->Ext w F m st.heap st.frz w' t y r.heap r.frz->K C w'):wpOp P ops Q i K a w:=by
 unfold wpOp;rw[z];simp only;have c:∀ (s:St) (v:AV),(s.put o.dst v).heap=s.heap/\(s.put o.dst v).frz=s.frz:=fun s v=>by cases o.dst<;>exact⟨rfl,rfl⟩
 rcases H with⟨f,v,e,_,I,rfl⟩|⟨f,rfl⟩
 ·have A:Region.wanted o (yielded ops a.tmps)=true:=by
   unfold Eb at f;unfold Region.wanted;cases k:o.guard with
    |none=>rfl
    |some p=>
     obtain⟨j,n⟩:=p;rw[k]at f;dsimp only at f |-;cases l:(ops.toList[j]?).bind (·.dst)with
      |none=>grind
      |some d=>rw[l]at f;dsimp only at f;split at f;rename_i b hd;rw[SK h l hd];grind;all_goals grind
  rw[Aa5 A];left;obtain⟨M,N,D,_,J⟩:=FU G o.op (AV×Eff) o.type (Bc st.tmps) st.heap st.frz slot (fun v e=>some (v,e)) (v,e) (I _ _);simp only[Aas,Aa4]at D;obtain⟨rfl,rfl⟩:=D;refine J w F m a o _ Q rfl rfl h.heap (fun x=>Fp h.tmps x) fun u w' t y q L => ?_;refine B _ w' t y ((h.go q).put L o.dst) ?_;rw[(c ..).1,(c ..).2];exact q.1
 have A:Region.wanted o (yielded ops a.tmps)=false:=by
  unfold Eb at f;unfold Region.wanted;cases k:o.guard with
   |none=>grind
   |some p=>
    obtain⟨j,n⟩:=p;rw[k]at f;dsimp only at f |-;cases l:(ops.toList[j]?).bind (·.dst)with
     |none=>grind
     |some d=>rw[l]at f;dsimp only at f;split at f;rename_i b hd;rw[SK h l hd];grind;rename_i hd;rw[TO h l hd];rfl;grind
 rw[Aa2 (by simp[A])];refine B _ w F m (h.put Tp o.dst) ?_;rw[(c ..).1,(c ..).2];exact Ext.refl ..
theorem lF(hE:∀ g,BS P g (E.spec g))(hL:FA E){ops:Array Oper}{fp:Nat->List Nat}{base:Nat}{Q:Exit->Act->World->Prop}{st':St}
  (D:∀ i y,ops.toList[i]? = some y->(∀ e∈y.after.toList,Region.binds .any e=true->e.on<i) /\
   ∀ j x,j<i->ops.toList[j]? = some x->reach ops.toList 8 y j=true\/indep ops.toList x y (fp j) (fp i) (B8 ops.toList base j) (B8 ops.toList base i)=true) :
  ∀ (c:Nat) (b:Array Bool) (st:St) (w:World) (F:Nat->Prop) (m:Mp) (a:Act),b.size=ops.size->YP ops.toList (fun i=>b.getD i false)->(BQ ops.size b).length<=c->SI w F m st a ->
   I' P E ops.toList fp (B8 ops.toList base) (BQ ops.size b) st st' ->
   (∀ q w' r s,SI w' r s st' q->Ext w F m st.heap st.frz w' r s st'.heap st'.frz->Q .normal q w')->wpAny P .any ops Q c b a w:=by
 intro c
 have o:∀ (b:Array Bool) (st:St) (w:World) (F:Nat->Prop) (m:Mp) (a:Act),BQ ops.size b=[]->SI w F m st a->I' P E ops.toList fp (B8 ops.toList base) (BQ ops.size b) st st' ->
   (∀ q w' r s,SI w' r s st' q->Ext w F m st.heap st.frz w' r s st'.heap st'.frz->Q .normal q w')->Q .normal a w:=by
  intro b st w F m a O B p C
  rw[O]at p
  have p:st=st':=p
  subst p
  exact C a w F m B (Ext.refl ..)
 have f:∀ (b:Array Bool) (i:Nat),i∈Region.ready .any ops b↔i∈BQ ops.size b/\((ops[i]?).map (·.after.all fun e => !Region.binds .any e||b.getD e.on false)).getD false=true:=by intro b i;unfold Region.ready BQ;grind
 induction c with
  |zero=>intro b st w F m a G t hl B p C;have O:BQ ops.size b=[]:=AbQ (by omega);refine⟨List.eq_nil_iff_forall_not_mem.2 fun i hi => ?_,o b st w F m a O B p C⟩;grind
  |succ c ih=>
   intro b st w F m a G t hl B p C;refine⟨fun X => ?_,fun i hi => ?_⟩;refine o b st w F m a ?_ B p C;cases Y:BQ ops.size b with
    |nil=>rfl
    |cons i l=>
     exfalso;have n:i∈BQ ops.size b:=by grind
     have u:i<ops.size:=by unfold BQ at n;grind
     have:i∈Region.ready .any ops b:=by
      refine(f b i).2 ⟨n,?_⟩;rw[AcP u];simp only[Acu,Abg];rw[<- Adt,AbK];intro e R;cases S:Region.binds .any e with
       |false=>rfl
       |true=>
        have hlt:=(D i ops[i] (by simp)).1 e R S;simp only[Aav,AdR];cases hg:b.getD e.on false with
         |true=>rfl
         |false=>
          exfalso;have hon:e.on<ops.size:=by omega
          have:e.on∈BQ ops.size b:=by unfold BQ;grind
          rw[Y]at this;have hp:(BQ ops.size b).Pairwise (· < ·):=Ac2 _ Adn
          rw[Y,Abi]at hp;grind
     grind
   obtain⟨n,v⟩:=(f b i).1 hi;have u:i<ops.size:=by grind
   obtain⟨Z,l2,d⟩:=AdC n;have H:ops[i]? = some ops[i]:=AcP u;have A:ops.toList[i]? = some ops[i]:=by simp
   rw[H]at v;simp only[Acu,Abg]at v;rw[<- Adt,AbK]at v;rw[d]at p;obtain⟨y,s1,hy,h1,h2⟩:=QF hL A Z l2 st st' (fun j hj=>by
    have I:=Oa d j hj;refine⟨I,fun x T => ?_⟩;rcases(D i _ A).2 j x I T with h|h;exfalso;have J:∀ e∈(ops[i]).after.toList,Region.binds .any e=true->(fun i=>b.getD i false) e.on=true:=by grind
    have this:=T4 t 8 _ j J h;have U:j∈BQ ops.size b:=by grind
    unfold BQ at U;grind;omega) p
   rw[A]at hy;cases hy;have V:=TW G Z l2 d;have K:(BQ ops.size (b.setIfInBounds i true)).length<=c:=by grind
   have L:YP ops.toList (fun k=>(b.setIfInBounds i true).getD k false):=by
    have M:∀ k,(b.setIfInBounds i true).getD k false=true↔(k=i\/b.getD k false=true):=by
     intro k;have hil:i<b.size:=by omega
     rw[AbT,AbT,Array.getElem?_setIfInBounds];grind
    intro k z hz N e R S;simp only[M]at N |-;right;rcases N with rfl|N;grind;exact t k z hz N e R S
   exact mi hE H h1 B fun q w' r s W T=>ih _ _ w' r s q (by grind) L K W (by grind) fun q w2 F2 m2 q1 q2=>C q w2 F2 m2 q1 (T.trans q2)
theorem SI.drew{w:World}{F:Nat->Prop}{m:Mp}{st:St}{a:Act}(h:SI w F m st a):SI w.drew F m st a/\Ext w F m st.heap st.frz w.drew F m st.heap st.frz:=by have b:=BU.drew h.heap;exact⟨⟨fun t=>b.1.rep h.heap (h.tmps t),h.size,b.2,h.defers⟩,b.1⟩
theorem gf(p:∀ g,BS P g (E.spec g))(q:FA E){R:Type}{r:R}{id:Nat}{fp:List (List Nat)}{ops:Array Oper}{Q:Exit->Act->World->Prop}{k:St->Option R}{st:St}{w:World}{F:Nat->Prop}{m:Mp}{a:Act}
  (h:Fz P E R fp ops.toList st k=some r) (s:SI w F m st a) (t:∀ e w',AVr r k w F m st.heap st.frz e w'->Q .normal e w'):(Code.region id ops true).wp P Q a w:=by
 unfold Fz at h;rw[Pb]at h;split at h;rename_i b;simp only[Aau]at b;obtain⟨u,b⟩:=b;obtain⟨f,l⟩:=s.drew;obtain⟨n,o⟩:=f.pad (DE ops.toList);have c:ops.toList=[]++ops.toList:=by simp
 obtain⟨st',G,d⟩:=gh p (all:=ops.toList) (fp:=fp) (base:=st.heap.length) ops.toList [] fp st.heap.length _ c rfl (by simp[B8,DE]) h;refine wp_region_any u ?_;have H:BQ ops.size (Array.replicate ops.size false)=List.range' 0 ops.toList.length:=by
  unfold BQ;rw[AbH,<- AcL];rw[AcO];intro i hi;have:i<ops.size:=by grind
  simp[AbT,this]
 refine lF (ops:=ops) p q (fp:=fun i=>fp.getD i []) (base:=st.heap.length) (st':=st') (fun i y v=>UA (all:=ops.toList) ops.toList [] fp _ [] c rfl (by simp[B8,DE]) (fun j x I=>by grind) b i y (Acq _) v)
  ops.size _ _ w.drew F m a (by simp) (fun k z _ d=>by
   exfalso
   have d:(Array.replicate ops.size false).getD k false=true:=d
   rw[AbT,Array.getElem?_replicate]at d
   grind) (by grind) n (by grind) fun e w' A B C D=>t e w' ⟨st',A,B,d,C,l.trans (o.trans D)⟩
 grind
end
def CG(w:World)(F:Nat->Prop)(m:Mp)(H:List Ob)(fz:List Bool)(a:Mp)(H':List Ob)(j:Nat):Bnd->Prop
 |.none=>a j=none/\((∃ T e,H'[j]? = some (.arr T e [])/\0<e.size)\/∃ T t,H'[j]? = some (.prs T t []))
 |.whole id=>a j=m id/\((∃ T t xs,H[id]? = some (.arr T t xs)/\H'[j]? = some (.arr T t xs)/\fz.getD id false=false) \/
   (∃ k v h,H[id]? = some (.map k v h)/\H'[j]? = some (.map k v h)) \/
   (∃ cs d b c vs T,H[id]? = some (.box cs)/\H'[j]? = some (.box d)/\d.length=cs.length/\m id=some (b,c)/\w.heap[b]? = some (.cells vs T (0,0))/\BG w F a H' d vs.toList/\∀ u∈vs.toList,u.oneCell'=true) \/
   (∃ T f i g,H[id]? = some (.prs T f g)/\H'[j]? = some (.prs T i g)/\ObI w F a H' (.prs T i g) (m id)) \/
   (∃ T e t xs ver,H[id]? = some (.rows T e t xs ver none)/\H'[j]? = some (.rows T e t xs 0 none)/\(∀ k,a (.r j k)=m (.r id k))/\fz.getD id false=false))
 |.cut id=>∃ T t xs n,H[id]? = some (.arr T t xs)/\fz.getD id false=false/\H'[j]? = some (.arr T t (List.take (α:=t.den) n xs))/\(a j=m id\/(a j=none/\List.take (α:=t.den) n xs=[]))
structure Inv(w:World)(F:Nat->Prop)(m:Mp)(H:List Ob)(fz:List Bool)(bs:List Bnd)(m':Mp)(E:St)(val:Nat->Value):Prop where
 tmps:∀ t,Rep w F m' E.heap (E.tmps.f t) (val t)
 lenH:E.heap.length=bs.length
 lenF:E.frz.length=E.heap.length
 frz:∀ i,E.frz.getD i false=false
 ob:∀ j b,bs[j]? = some b->CG w F m H fz m' E.heap j b
 inj:∀ (i j:Nat) (b c:Bnd) (id:Nat),bs[i]? = some b->bs[j]? = some c->b.id? = some id->c.id? = some id->i=j
def AC1(w:World)(m:Mp)(H:List Ob)(a:List Bnd)(val:Nat->Value):Loc->Value->Prop
 |.tmp t,u=>u=val t
 |.cell j c,u=>∃ id b cc vs T cs,a[j]? = some (.whole id)/\H[id]? = some (.box cs)/\m id=some (b,cc)/\w.heap[b]? = some (.cells vs T (0,0))/\vs.toList[c]? = some u
 |_,_=>True
theorem ARM{w:World}{F:Nat->Prop}{m:Mp}{H:List Ob}{cs:List AV}{us:List Value}{c:Nat}{v:AV}{u:Value}(h:BG w F m H cs us)(e:us[c]? = some u)(f:Rep w F m H v u):BG w F m H (cs.set c v) us:=by refine EV (by simp[Be h]) fun i x y b g => ?_;by_cases a:i=c;grind;rw[Ac1 (Acd a)]at b;obtain⟨j,d,k⟩:=Da h b;grind
theorem ALa{w:World}{F:Nat->Prop}{m:Mp}{H:List Ob}{a:Tm}{val:Nat->Value}(h:∀ t,Rep w F m H (a.f t) (val t)){t:Nat}{v:AV}(b:Rep w F m H v (val t)):∀ i,Rep w F m H ((a.set t v).f i) (val i):=by intro i;rw[Tm.YZ];grind
theorem tA{w:World}{F a:Nat->Prop}{m c:Mp}{H d:List Ob}{T:TypeId}{j:Nat}{e:List Int}{l:Option (Nat×Nat)}(f:∀ {cs us},BG w F m H cs us->BG w a c d cs us)(h:ObI w F m H (.prs T j e) l):ObI w a c d (.prs T j e) l:=by
 cases l with
  |none=>exact h
  |some p=>obtain⟨b,cap⟩:=p;obtain⟨vs,us,g,i,k,n,o,q⟩:=h;exact⟨vs,us,g,i,k,n,f o,q⟩
section
variable {w:World} {F:Nat->Prop} {m:Mp} {H:List Ob} {fz:List Bool} {bs:List Bnd} {m':Mp} {E:St} {val:Nat->Value}
theorem CG.mono{b:Bnd}{a:Mp}{H' d:List Ob}{j:Nat}(h:CG w F m H fz m' H' j b)(n:d[j]? = H'[j]?)(g:∀ x:Ix,x.id=j->a x=m' x)(p:∀ {cs us},BG w F m' H' cs us->BG w F a d cs us):CG w F m H fz a d j b:=by
 cases b with
  |none=>simp only[CG]at *;rw[n,g j rfl];exact h
  |whole id=>
   simp only[CG]at *;rw[n,g j rfl];obtain⟨e,h⟩:=h;refine⟨e,?_⟩;rcases h with h|h|⟨cs,q,b,c,vs,T,i,l,f,y,z,A,B⟩|⟨T,o,s,u,i,l,f⟩|⟨T,v,t,xs,ver,i,l,f⟩
   grind;grind;grind;exact .inr (.inr (.inr (.inl ⟨T,o,s,u,i,l,tA p f⟩)));exact .inr (.inr (.inr (.inr ⟨T,v,t,xs,ver,i,l,fun k=>(g (.r j k) rfl).trans (f.1 k),f.2⟩)))
  |cut id=>simp only[CG]at *;rw[n,g j rfl];exact h
theorem Inv.place(h:Inv w F m H fz bs m' E val){l:Loc}{u:Value}{v:AV}(q:AC1 w m H bs val l u)(z:Rep w F m' E.heap v u):Inv w F m H fz bs m' (Pev.place E v l) val:=by
 cases l with
  |tmp t=>have q:u=val t:=q;subst q;exact⟨ALa h.tmps z,h.lenH,h.lenF,h.frz,h.ob,h.inj⟩
  |cap t i=>exact h
  |obj j=>exact h
  |cell j c=>
   obtain⟨id,b,cc,vs,T,cs,A,B,C,D,J⟩:=q;have d:=h.ob j _ A;simp only[CG]at d;obtain⟨r,d⟩:=d;rw[B]at d;rcases d with⟨_,_,_,g,_⟩|⟨_,_,_,g,_⟩|⟨K,n,P,Q,L,R,g,s,M,G,y,I,N⟩|⟨_,_,_,_,g,_⟩|⟨_,_,_,_,_,g,_⟩
   cases g;cases g;rotate_left;cases g;cases g
   ·cases g;rw[C]at G;cases G;rw[D]at y;cases y;have p:=BW s;have e:DT E.heap (E.heap.set j (.box (n.set c v))) m' m':=by
     intro i o hi O;by_cases k:i=j;subst k;rw[s]at hi;cases hi;exact .inr ⟨by simp,_,Bs p,trivial,rfl,fun _ _ _=>rfl⟩
     ·rcases DT.refl E.heap m' i o hi O with h|⟨hd,o',y,I,_⟩
      all_goals grind
    have mono:∀ {a u},Rep w F m' E.heap a u->Rep w F m' (E.heap.set j (.box (n.set c v))) a u:=fun h=>Rep.mono (fun _ _=>rfl) (fun _ h=>h) e _ h;have f:∀ {a u},BG w F m' E.heap a u->BG w F m' (E.heap.set j (.box (n.set c v))) a u:=fun h=>BG.mono (fun _ _=>rfl) (fun _ h=>h) e _ h;unfold Pev.place;simp only[s];refine⟨fun t=>mono (h.tmps t),by simp[h.lenH],by simp[h.lenF],h.frz,fun i x hi => ?_,h.inj⟩;by_cases k:i=j;subst k;rw[A]at hi;cases hi;simp only[CG];exact⟨r,.inr (.inr (.inl ⟨cs,_,b,cc,vs,T,B,Bs p,by simp[M],C,D,f (ARM I J z),N⟩))⟩;exact(h.ob i x hi).mono (Bn k) (fun _ _=>rfl) f
theorem oy{α:Type}{l:List α}{x y:α}{j:Nat}(h:(l++[x])[j]? = some y):(j<l.length/\l[j]? = some y)\/(j=l.length/\y=x):=by grind
theorem Inv.AZU(h:Inv w F m H fz bs m' E val){b:Bnd}{o:Ob}{mn:Mp}(g:∀ x:Ix,x.id≠E.heap.length->mn x=m' x)(s:∀ (i:Nat) (c:Bnd) (id:Nat),bs[i]? = some c->c.id? = some id->b.id?≠some id)
  (n:CG w F m H fz mn (E.heap++[o]) E.heap.length b):Inv w F m H fz (bs++[b]) mn (E_ E o) val:=by
 have e:DT E.heap (E.heap++[o]) m' mn:=by
  intro i x hi v;have f:=BW hi;rcases DT.refl E.heap m' i x hi v with h|⟨hd,o',B,z,_⟩
  grind;exact .inr ⟨hd,o',by grind,z,g _ (by show i≠_;omega),fun _ _ _=>g _ (by show i≠_;omega)⟩
 have k:∀ {a u},BG w F m' E.heap a u->BG w F mn (E.heap++[o]) a u:=fun h=>BG.mono (fun _ _=>rfl) (fun _ h=>h) e _ h;refine⟨fun t=>Rep.mono (fun _ _=>rfl) (fun _ h=>h) e _ (h.tmps t),by simp[E_,h.lenH],by simp[E_,h.lenF],fun i => ?_,fun j x p => ?_,fun i j x y id hi p A q => ?_⟩;have:=h.frz i;simp only[E_];grind;rcases oy p with⟨f,d⟩|⟨d,rfl⟩
 rw[<- h.lenH]at f;exact(h.ob j x d).mono (Aci f) (fun y q=>g y (by omega)) k;rw[<- h.lenH]at d;rw[d];exact n;rcases oy hi with⟨f,l⟩|⟨l,rfl⟩
 rcases oy p with⟨r,d⟩|⟨d,rfl⟩
 exact h.inj i j x y id l d A q;grind;grind
theorem Inv.add(h:Inv w F m H fz bs m' E val){b:Bnd}{o:Ob}{l:Option (Nat×Nat)}(a:∀ (i:Nat) (c:Bnd) (id:Nat),bs[i]? = some c->c.id? = some id->b.id?≠some id)
  (d:CG w F m H fz (upd m' E.heap.length l) (E.heap++[o]) E.heap.length b):Inv w F m H fz (bs++[b]) (upd m' E.heap.length l) (E_ E o) val:=
 h.AZU (fun x e=>bM e x rfl) a d
theorem Gt{id:Nat}(h:fresh? bs id=true):∀ (i:Nat) (c:Bnd),bs[i]? = some c->c.id?≠some id:=by
 intro i c hi a;unfold fresh? at h;rw[AbK]at h;have:=h c (Aay hi);cases c with
  |none=>simp[Bnd.id?]at a
  |whole k=>simp only[Bnd.id?,Aas]at a;grind
  |cut k=>simp only[Bnd.id?,Aas]at a;grind
theorem Inv.freeze(h:Inv w F m H fz bs m' E val){f:List Nat}(s:f.all (fresh? bs)=true):Inv w (EO F m H f) m H (BN f fz) bs m' E val:=by
 have l:∀ {a u},BG w F m' E.heap a u->BG w (EO F m H f) m' E.heap a u:=fun h=>BG.mono (fun _ _=>rfl) (fun _ h=>.inl h) (DT.refl _ _) _ h;have o:∀ (id i:Nat) (c:Bnd),bs[i]? = some c->c.id? = some id->fz.getD id false=false->(BN f fz).getD id false=false:=by
  intro id i c hi x y;rw[Bm,y];have:id∉f:=fun q=>by rw[AbK]at s;exact Gt (s id q) i c hi x
  grind
 refine⟨fun t=>Rep.mono (fun _ _=>rfl) (fun _ h=>.inl h) (DT.refl _ _) _ (h.tmps t),h.lenH,h.lenF,h.frz,fun j b p => ?_,h.inj⟩;have:=h.ob j b p;cases b with
  |none=>exact this
  |whole id=>
   simp only[CG]at *;obtain⟨e,this⟩:=this;refine⟨e,?_⟩;rcases this with⟨T,t,xs,d,g,k⟩|D|⟨cs,z,b,c,vs,T,d,g,k,v,G,I,J⟩|⟨T,r,A,B,d,g,k⟩|⟨T,C,t,xs,ver,d,g,k,v⟩
   exact .inl ⟨T,t,xs,d,g,o id j _ p rfl k⟩;grind;grind;exact .inr (.inr (.inr (.inl ⟨T,r,A,B,d,g,tA l k⟩)));exact .inr (.inr (.inr (.inr ⟨T,C,t,xs,ver,d,g,k,o id j _ p rfl v⟩)))
  |cut id=>simp only[CG]at *;obtain⟨T,t,xs,n,d,g,k⟩:=this;exact⟨T,t,xs,n,d,o id j _ p rfl g,k⟩
theorem zc{j id off:Nat}{u:Value}(a:CG w F m H fz m' E.heap j (.whole id))(b:Rep w F m H (.ptr id off) u):Rep w F m' E.heap (.ptr j off) u:=by simp only[CG]at a;obtain⟨e,a⟩:=a;unfold Rep at *;unfold H0 at *;grind
theorem AU6{j id i sub:Nat}{u:Value}(a:CG w F m H fz m' E.heap j (.whole id))(h:Rep w F m H (.eptr id i sub) u):Rep w F m' E.heap (.eptr j i sub) u:=by
 simp only[CG]at a;obtain⟨e,a⟩:=a;unfold Rep at *;unfold Dz at *;rcases a with⟨T,t,xs,d,f,_⟩|⟨k,v,l,d,_⟩|⟨cs,g,b,c,vs,T,d,f,_,n,_⟩|⟨_,_,_,_,d,f,_⟩|⟨K,_,_,_,_,d,f,_⟩
 grind;all_goals grind
theorem AS6{j id:Nat}{b:List Int}{us:List Value}(f:CG w F m H fz m' E.heap j (.whole id))(d:BG w F m H (Ha id b) us):BG w F m' E.heap (Ha j b) us:=by refine EV (by have:=Be d;simpa [Ha]using this) fun i c v e g => ?_;rw[Ha,AdI,Aa0]at e;obtain⟨x,h,rfl⟩:=e;obtain⟨l,a,k⟩:=Da d (i:=i) (c:=.eptr id x.toNat 0) (by rw[Ha,AdI,h];rfl);rw[g]at a;cases a;exact AU6 f k
theorem AaC{j id:Nat}{u:Value}(a:CG w F m H fz m' E.heap j (.whole id))(b:Rep w F m H (.mp id) u):Rep w F m' E.heap (.mp j) u:=by simp only[CG]at a;obtain⟨e,a⟩:=a;unfold Rep at *;unfold Oi at *;grind
theorem AOQ{j id:Nat}{u:Value}(a:CG w F m H fz m' E.heap j (.whole id))(b:Rep w F m H (.own id) u):Rep w F m' E.heap (.own j) u:=by simp only[CG]at a;obtain⟨e,a⟩:=a;unfold Rep at *;unfold By at *;grind
theorem AVm{j id n:Nat}{u:Value}(a:CG w F m H fz m' E.heap j (.whole id))(b:Rep w F m H (.aptr id n) u):Rep w F m' E.heap (.aptr j n) u:=by simp only[CG]at a;obtain⟨e,a⟩:=a;unfold Rep at *;unfold G5 at *;grind
theorem yI{j id off n:Nat}{u:Value}(a:CG w F m H fz m' E.heap j (.whole id))(b:Rep w F m H (.win id off n) u):Rep w F m' E.heap (.win j off n) u:=by simp only[CG]at a;obtain⟨e,a⟩:=a;unfold Rep at *;unfold I8 at *;grind
theorem ATl{id:Nat}{u:Value}{T:TypeId}{t:Ty}{ys:List t.den}(hi:HI w F m H fz)(c:H[id]? = some (.arr T t ys))(b:Rep w F m H (.own id) u):Rep w F m H (.win id 0 ys.length) u:=by
 unfold Rep at *;unfold By at b;unfold I8;rw[c]at b |-;simp only at b |-;refine⟨by omega,?_⟩;cases d:m id with
  |none=>rw[d]at b;obtain⟨a,rfl⟩:=b;obtain⟨_,e⟩:=hi.obj id _ c;simp_all
  |some p=>grind
theorem E2{α:Type}{l:List α}{i:Nat}{o:α}(h:l[i]? = some o):i<l.length:=by grind
theorem Cn(hi:HI w F m H fz){s:Nat->Option AV}(q:∀ t v,s t=some v->Rep w F m H v (val t)){l:Loc}{v:AV}(h:look s H bs l=some v):∃ u,Rep w F m H v u/\AC1 w m H bs val l u:=by
 cases l with
  |tmp t=>exact⟨val t,q t v h,rfl⟩
  |cell j c=>simp only[look]at h;split at h;rename_i id x;split at h;rename_i cs a;obtain⟨b,cc,vs,T,d,y,z,B⟩:=hi.obj id _ a;obtain⟨u,g,n⟩:=Da z h;exact⟨u,n,id,b,cc,vs,T,cs,x,a,d,y,g⟩;grind;grind
  |cap t i=>simp only[look]at h;split at h;rename_i f cs r;have:=q t _ r;unfold Rep at this;obtain⟨us,_,n⟩:=this;obtain⟨u,_,g⟩:=Da n h;exact⟨u,g,trivial⟩;rename_i f cs r;have:=q t _ r;unfold Rep at this;obtain⟨us,_,n⟩:=this;obtain⟨u,_,g⟩:=Da n h;exact⟨u,g,trivial⟩;grind
  |obj j=>
   simp only[look,AXC]at h;split at h;rename_i T t xs a;cases h;have:=hi.obj j _ a;obtain⟨_,this⟩:=this;cases o:m j with
    |none=>refine⟨.slice none 0 0,?_,trivial⟩;unfold Rep By;grind
    |some p=>obtain⟨b,cap⟩:=p;refine⟨.slice (some ⟨b,0,none⟩) (List.length (α:=t.den) xs) cap,?_,trivial⟩;unfold Rep By;grind
   rename_i cs a;cases h;obtain⟨b,c,vs,T,d,_⟩:=hi.obj j _ a;refine⟨.pointer (some ⟨b,0,none⟩),?_,trivial⟩;unfold Rep H0;grind;rename_i k v C a;cases h;obtain⟨b,c,vs,T,d,_⟩:=hi.obj j _ a;refine⟨.map (some b),?_,trivial⟩;unfold Rep Oi;grind;rename_i T t A a;cases h;cases o:m j with
    |none=>refine⟨.slice none 0 0,?_,trivial⟩;unfold Rep By;grind
    |some p=>obtain⟨b,cap⟩:=p;refine⟨.slice (some ⟨b,0,none⟩) A.length cap,?_,trivial⟩;unfold Rep By;grind
   rename_i T e t xs ver out a;cases h;cases o:m j with
    |none=>refine⟨.slice none 0 0,?_,trivial⟩;unfold Rep By;grind
    |some p=>obtain⟨b,cap⟩:=p;refine⟨.slice (some ⟨b,0,none⟩) (List.length (α:=List t.den) xs) cap,?_,trivial⟩;unfold Rep By;grind
   rename_i jk D e t xs ver out a;cases h;obtain⟨_,d⟩:=hi.obj j _ a;cases o:m j with
    |none=>rw[o]at d;cases d.1
    |some p=>obtain⟨b,cap⟩:=p;refine⟨.map (some b),?_,trivial⟩;unfold Rep Oi;grind
   grind
theorem AC1.app{l:Loc}{u:Value}(h:AC1 w m H bs val l u)(b:Bnd):AC1 w m H (bs++[b]) val l u:=by
 cases l with
  |tmp t=>exact h
  |cap t i=>trivial
  |obj j=>trivial
  |cell j c=>obtain⟨id,a,cc,vs,T,cs,e,d⟩:=h;exact⟨id,a,cc,vs,T,cs,by grind,d⟩
theorem AVO(f:∀ j b,bs[j]? = some b->CG w F m H fz m' E.heap j b):∀ (vs:List AV) (a:List (Nat×Nat)) (us:List Value),AKJ bs vs a=true->BG w F m H vs us->BG w F m' E.heap (a.map fun p=>.ptr p.1 p.2) us:=by
 intro vs;induction vs with
  |nil=>
   intro a us h c;cases a with
    |nil=>unfold BG at *;exact c
    |cons p a=>simp[AKJ]at h
  |cons v vs g=>
   intro a us h c;cases a with
    |nil=>cases v<;>simp[AKJ]at h
    |cons p a=>
     obtain⟨j,o'⟩:=p;cases v<;>simp only[AKJ]at h<;>try grind
     rename_i id o;simp only[Aau]at h;obtain⟨e,i⟩:=h;unfold BG at c;obtain⟨u,d,rfl,k,c⟩:=c;simp only[AbL];unfold BG;refine⟨u,d,rfl,?_,g a d i c⟩;split at e;rename_i l n;simp only[Aau,Aat]at e;obtain⟨rfl,rfl⟩:=e;exact zc (f j _ n) k;grind
end
theorem yt(f g:List Nat):∀ fz,BN (f++g) fz=BN g (BN f fz):=by
 induction f with
  |nil=>intro fz;rfl
  |cons a f b=>intro fz;simp only[AbO,BN];grind
section
variable {w:World} {H:List Ob} {m:Mp} {val:Nat->Value} {tm:Nat->Option AV}
theorem DV{fz:List Bool}{id:Nat}(h:BO fz id=true):fz.getD id false=false:=by unfold BO at h;grind
theorem ACU:∀ (its:A1) (fz:List Bool) (U:List Bnd) (F:Nat->Prop) (Y:Mp) (E:St) (d:Bd (leaves its)) (L:List Bnd) (Z:List Nat),
  HI w F m H fz->(∀ t v,tm t=some v->Rep w F m H v (val t))->Inv w F m H fz U Y E val->dec tm H its fz U=some (d,L,Z) ->
  ∃ F2 m2,BU w F m H fz w F2 m H (BN Z fz)/\Inv w F2 m H (BN Z fz) L m2 (enc its d E) val/\∃ r,L=U++r:=by
 intro its;induction its with
  |nil=>intro fz U F Y E d L Z hi J V h;simp only[dec,Aas]at h;obtain⟨rfl,rfl,rfl⟩:=h;exact⟨F,Y,BU.refl hi,V,[],by simp⟩
  |cons p r ih=>
   intro fz U F Y E d L Z hi J V h;obtain⟨l,c⟩:=p
   have obj:∀ (b:Bnd) (o:Ob) (lc:Option (Nat×Nat)) (D:AV) (u:Value) (xs:Bd (leaves r)) (g:List Nat),AC1 w m H U val l u->(∀ (i:Nat) (c:Bnd) (id:Nat),U[i]? = some c->c.id? = some id->b.id?≠some id) ->
     CG w F m H fz (upd Y E.heap.length lc) (E.heap++[o]) E.heap.length b->Rep w F (upd Y E.heap.length lc) (E.heap++[o]) D u->dec tm H r fz (U++[b])=some (xs,L,g) ->
     ∃ F2 m2,BU w F m H fz w F2 m H (BN g fz)/\Inv w F2 m H (BN g fz) L m2 (enc r xs (place (E_ E o) D l)) val/\∃ r,L=U++r:=by
    intro b o lc D u xs g q z hbd N hd
    have h1:=V.add z hbd
    have h2:=h1.place (q.app b) N
    grind
   have D:∀ (v:AV) (u:Value) (xs:Bd (leaves r)) (g:List Nat),AC1 w m H U val l u->Rep w F Y E.heap v u->dec tm H r fz U=some (xs,L,g) ->
     ∃ F2 m2,BU w F m H fz w F2 m H (BN g fz)/\Inv w F2 m H (BN g fz) L m2 (enc r xs (place E v l)) val/\∃ r,L=U++r:=by
    intro v u xs g q N hd
    exact ih fz U F _ _ xs L g hi J (V.place q N) hd
   cases c with
    |dat t=>simp only[dec]at h;split at h;rename_i v A;split at h;rename_i x f hx;split at h;rename_i hf;split at h;rename_i xs M g hd;simp only[Aas]at h;obtain⟨rfl,rfl,rfl⟩:=h;obtain⟨u,s,q⟩:=Cn hi J A;have hdat:=ARC hi hx s;have hg:=BU.freeze hi f;have hv1:=V.freeze hf;have hv2:=hv1.place (v:=.data t x) q (by unfold Rep;omega);obtain⟨F2,m2,a1,a2,rr,a3⟩:=ih (BN f fz) U (EO F m H f) _ _ xs _ _ hg.2 (fun t v h=>hg.1.rep hi (J t v h)) hv2 hd;rw[yt];exact⟨F2,m2,hg.trans a1,a2,rr,a3⟩;grind;grind;grind;grind
    |own T e=>
     simp only[dec]at h;split at h;rename_i P A;split at h;rename_i K;simp only[Aat]at K;have hsz:=K;split at h;rename_i xs M g hd;simp only[Aas]at h;obtain⟨rfl,rfl,rfl⟩:=h;obtain⟨u,s,q⟩:=Cn hi J A;unfold Rep at s;refine obj .none (.arr T e []) none (.own E.heap.length) u xs _ q (fun _ _ _ _ _=>by simp[Bnd.id?]) ?_ ?_ hd;simp only[CG];exact⟨Ba ..,.inl ⟨T,e,by simp,hsz⟩⟩;unfold Rep By;simp only[Abb (Aax _),Acm,Abf,Ba];grind;grind;grind;rename_i id A;split at h;rename_i T' P ys G y;simp only[Aau]at y;obtain⟨O,y⟩:=y;split at h;rename_i ys' W K;simp only[Aat]at W;subst W;obtain⟨he,X⟩:=DX K;subst he;simp only at X;subst X;split at h;rename_i xs M g hd;simp only[Aas]at h;obtain⟨rfl,rfl,rfl⟩:=h;obtain⟨u,s,q⟩:=Cn hi J A;refine obj (.whole id) (.arr T P ys) (m id) (.own E.heap.length) u xs _ q (fun i c C I B => ?_) ?_ ?_ hd;rintro h;simp only[Bnd.id?,Aas]at h;subst h;exact Gt y i c I B;simp only[CG];exact⟨Ba ..,.inl ⟨T,P,ys,G,by simp,DV O⟩⟩;unfold Rep at s |-;rw[G]at s;rw[Abb (Aax _),Acm,Abf,Ba];exact s;grind;grind;grind;rename_i id n A;split at h;rename_i T' P ys G y;simp only[Aau]at y;obtain⟨O,y⟩:=y;split at h;rename_i ys' W K;simp only[Aat]at W;subst W;obtain⟨he,X⟩:=DX K;subst he;simp only at X;subst X;split at h;rename_i xs M g hd;simp only[Aas]at h;obtain⟨rfl,rfl,rfl⟩:=h;obtain⟨u,s,q⟩:=Cn hi J A;unfold Rep I8 at s;rw[G]at s;obtain⟨hle,s⟩:=s;have z:∀ (i:Nat) (c:Bnd) (C:Nat),U[i]? = some c->c.id? = some C->(Bnd.cut id).id?≠some C:=by intro i c C I B h;simp only[Bnd.id?,Aas]at h;subst h;exact Gt y i c I B
     have R:(E.heap++[Ob.arr T P (C5 n ys)])[E.heap.length]? = some (Ob.arr T P (C5 n ys)):=by simp
     obtain⟨hsz,Q⟩:=hi.obj id _ G;have hnil:n=0->List.take (α:=P.den) n ys=[]:=by grind
     have hlen:List.length (α:=P.den) (C5 n ys)=n:=by unfold C5;grind
     cases hm:m id with
      |none=>
       rw[hm]at Q s;simp only at Q s;subst Q;have h0:n=0:=by grind
       subst h0;obtain⟨a,rfl⟩:=s;refine obj (.cut id) (.arr T P (C5 0 [])) none (.own E.heap.length) _ xs _ q z ?_ ?_ hd;simp only[CG];exact⟨T,P,[],0,G,DV O,R,.inl (by rw[Ba,hm])⟩;unfold Rep;rw[R,Ba];exact⟨a,rfl⟩
      |some p=>
       obtain⟨b,cap⟩:=p;rw[hm]at Q s;obtain⟨a,rfl,ha⟩:=s;obtain⟨vs,row,o1,o2,o3,o4,o5,o6⟩:=Q;by_cases hcap:cap=0;subst hcap;have h0:n=0:=by omega
       refine obj (.cut id) (.arr T P (C5 n ys)) none (.own E.heap.length) _ xs _ q z ?_ ?_ hd;simp only[CG];exact⟨T,P,ys,n,G,DV O,R,.inr ⟨Ba ..,hnil h0⟩⟩;unfold Rep;rw[R,Ba];exact⟨a,by rw[h0]⟩;refine obj (.cut id) (.arr T P (C5 n ys)) (m id) (.own E.heap.length) _ xs _ q z ?_ ?_ hd;simp only[CG];exact⟨T,P,ys,n,G,DV O,R,.inl (Ba ..)⟩;unfold Rep By;rw[R,Ba,hm];grind
     grind;grind;grind;grind
    |box n=>simp only[dec]at h;split at h;rename_i id A;split at h;rename_i cs G y;split at h;rename_i hn;simp only[Aat]at hn;obtain⟨u,s,q⟩:=Cn hi J A;obtain⟨b,cc,vs,T,b1,b2,b3,b4⟩:=hi.obj id _ G;refine obj (.whole id) (.box (List.replicate n .DM)) (m id) (.ptr E.heap.length 0) u d Z q (fun i c C I B => ?_) ?_ ?_ h;rintro h;simp only[Bnd.id?,Aas]at h;subst h;exact Gt y i c I B;simp only[CG];refine⟨Ba ..,.inr (.inr (.inl ⟨cs,List.replicate n .DM,b,cc,vs,T,G,by simp,by simp[hn],b1,b2,?_,b4⟩))⟩;refine EV (by rw[Be b3];simp[hn]) fun i c v K _ => ?_;have:=Adb (Aay K);subst this;unfold Rep;trivial;unfold Rep H0 at s |-;rw[G]at s;rw[Abb (Aax _),Acm,Abf,Ba];exact s;grind;grind;grind
    |map k v=>simp only[dec]at h;split at h;rename_i id A;split at h;rename_i k' v' es G y;split at h;rename_i es' K;obtain⟨he,X⟩:=DX K;cases he;simp only at X;subst X;split at h;rename_i xs M g hd;simp only[Aas]at h;obtain⟨rfl,rfl,rfl⟩:=h;obtain⟨u,s,q⟩:=Cn hi J A;refine obj (.whole id) (.map k v es) (m id) (.mp E.heap.length) u xs _ q (fun i c C I B => ?_) ?_ ?_ hd;rintro h;simp only[Bnd.id?,Aas]at h;subst h;exact Gt y i c I B;simp only[CG];exact⟨Ba ..,.inr (.inl ⟨k,v,es,G,by simp⟩)⟩;unfold Rep Oi at s |-;rw[G]at s;rw[Abb (Aax _),Acm,Abf,Ba];exact s;grind;grind;grind;grind
    |own' j=>simp only[dec]at h;split at h;rename_i id C A S;split at h;rename_i z;simp only[Aat]at z;subst z;obtain⟨u,s,q⟩:=Cn hi J A;exact D (.own j) u d Z q (AOQ (V.ob j _ S) s) h;grind;grind
    |ptr' j off=>simp only[dec]at h;split at h;rename_i id o C A S;split at h;rename_i z;simp only[Aau,Aat]at z;obtain⟨rfl,rfl⟩:=z;obtain⟨u,s,q⟩:=Cn hi J A;exact D (.ptr j o) u d Z q (zc (V.ob j _ S) s) h;grind;grind
    |sub' j=>simp only[dec]at h;split at h;rename_i id off n C A S;split at h;rename_i z;simp only[Aat]at z;subst z;split at h;rename_i xs M g hd;simp only[Aas]at h;obtain⟨rfl,rfl,rfl⟩:=h;obtain⟨u,s,q⟩:=Cn hi J A;exact D (.win j off n) u xs _ q (yI (V.ob j _ S) s) hd;grind;grind;grind
    |win' j=>simp only[dec]at h;split at h;rename_i id n C A S;split at h;rename_i z;simp only[Aat]at z;subst z;split at h;rename_i xs M g hd;simp only[Aas]at h;obtain⟨rfl,rfl,rfl⟩:=h;obtain⟨u,s,q⟩:=Cn hi J A;exact D (.win j 0 n) u xs _ q (yI (V.ob j _ S) s) hd;grind;grind;rename_i id C A S;split at h;rename_i T t ys z G;simp only[Aat]at z;subst z;split at h;rename_i xs M g hd;simp only[Aas]at h;obtain⟨rfl,rfl,rfl⟩:=h;obtain⟨u,s,q⟩:=Cn hi J A;exact D (.win j 0 ys.length) u xs _ q (yI (V.ob j _ S) (ATl hi G s)) hd;grind;grind;grind
    |map' j=>simp only[dec]at h;split at h;rename_i id C A S;split at h;rename_i z;simp only[Aat]at z;subst z;obtain⟨u,s,q⟩:=Cn hi J A;exact D (.mp j) u d Z q (AaC (V.ob j _ S) s) h;grind;grind
    |clo f ps=>simp only[dec]at h;split at h;rename_i f' vs A;split at h;rename_i K;simp only[Aau,Aat]at K;obtain⟨rfl,K⟩:=K;obtain⟨u,s,q⟩:=Cn hi J A;unfold Rep at s;obtain⟨cs,rfl,hr⟩:=s;exact D (.clo f (ps.map fun p=>.ptr p.1 p.2)) _ d Z q (by unfold Rep;exact⟨cs,rfl,AVO V.ob vs ps cs.toList K hr⟩) h;grind;grind
    |bnd f j=>simp only[dec]at h;split at h;rename_i f' id C A S;split at h;rename_i K;simp only[Aau,Aat]at K;obtain⟨rfl,rfl⟩:=K;obtain⟨u,s,q⟩:=Cn hi J A;unfold Rep at s;obtain⟨cs,rfl,hr⟩:=s;refine D (.bnd f [.own j]) _ d Z q ?_ h;unfold Rep;refine⟨cs,rfl,?_⟩;unfold BG at hr |-;obtain⟨x,xs,e1,e2,e3⟩:=hr;refine⟨x,xs,e1,AOQ (V.ob j _ S) e2,?_⟩;unfold BG at e3 |-;exact e3;grind;grind
    |prs T j=>
     simp only[dec]at h;split at h;rename_i P A;split at h;rename_i xs M g hd;simp only[Aas]at h;obtain⟨rfl,rfl,rfl⟩:=h;obtain⟨u,s,q⟩:=Cn hi J A;unfold Rep at s;refine obj .none (.prs T j []) none (.own E.heap.length) u xs _ q (fun _ _ _ _ _=>by simp[Bnd.id?]) ?_ ?_ hd;simp only[CG];exact⟨Ba ..,.inr ⟨T,j,by simp⟩⟩;unfold Rep By;simp only[Abb (Aax _),Acm,Abf,Ba];grind;grind;rename_i id A;split at h;rename_i T' tgt is tgt' G y S;split at h;rename_i W;simp only[Aau,Aat]at W;obtain⟨rfl,rfl⟩:=W;split at h;rename_i xs M g hd;simp only[Aas]at h;obtain⟨rfl,rfl,rfl⟩:=h;obtain⟨u,s,q⟩:=Cn hi J A;have hbj:=V.ob j _ S;have Q:=hi.obj id _ G;have hcomp:DT E.heap (E.heap++[.prs T j is]) Y (upd Y E.heap.length (m id)):=by
      intro i x hi hf;have hlt:=BW hi;rcases DT.refl E.heap Y i x hi hf with h|⟨hd,o',h4,h5,_⟩
      grind;exact .inr ⟨hd,o',by grind,h5,HL (by omega),fun _ _ _=>Fx (by simp)⟩
     have hob':ObI w F (upd Y E.heap.length (m id)) (E.heap++[.prs T j is]) (.prs T j is) (m id):=by
      cases hm:m id with
       |none=>rw[hm]at Q;exact Q
       |some p=>obtain⟨b,cap⟩:=p;rw[hm]at Q hcomp;obtain⟨vs,us,e1,e2,e3,e4,e5,e6⟩:=Q;exact⟨vs,us,e1,e2,e3,e4,BG.mono (fun _ _=>rfl) (fun _ h=>h) hcomp _ (AS6 hbj e5),e6⟩
     refine obj (.whole id) (.prs T j is) (m id) (.own E.heap.length) u xs _ q (fun i c C I B => ?_) ?_ ?_ hd;rintro h;simp only[Bnd.id?,Aas]at h;subst h;exact Gt y i c I B;simp only[CG];exact⟨Ba ..,.inr (.inr (.inr (.inl ⟨T,tgt,j,is,G,by simp,hob'⟩)))⟩;unfold Rep at s |-;rw[G]at s;rw[Abb (Aax _),Acm,Abf,Ba];exact s;grind;grind;grind;grind
    |nil e=>
     simp only[dec]at h;cases A:look tm H U l with
      |none=>grind
      |some v=>
       rw[A]at h;cases v with
        |nils P=>obtain⟨u,s,q⟩:=Cn hi J A;exact D (.nils e) u d Z q (by unfold Rep at *;exact s) h
        |_=>cases h
    |rows T e t=>
     simp only[dec]at h;split at h;rename_i id A;split at h;rename_i T' P t' ys ver G y;simp only[Aau]at y;obtain⟨O,y⟩:=y;split at h;rename_i ys' W K;simp only[Aau,Aat]at W;obtain⟨rfl,rfl⟩:=W;obtain⟨he,X⟩:=DX K;cases he;simp only at X;subst X;split at h;rename_i xs M g hd;simp only[Aas]at h;obtain⟨rfl,rfl,rfl⟩:=h;obtain⟨u,s,q⟩:=Cn hi J A;have N:Rep w F (Rr Y E.heap.length (m id) fun k=>m (.r id k)) (E.heap++[.rows (.arr T) e t ys 0 none]) (.own E.heap.length) u:=by unfold Rep at s |-;rw[G]at s;rw[Abb (Aax _),Acm,Abf,NR];exact s
     have h1:=V.AZU (b:=.whole id) (o:=.rows (.arr T) e t ys 0 none) (mn:=Rr Y E.heap.length (m id) fun k=>m (.r id k)) (fun x hx=>JB hx)
      (fun i c C I B h=>by simp only[Bnd.id?,Aas]at h;subst h;exact Gt y i c I B)
      (by simp only[CG];exact⟨NR,.inr (.inr (.inr (.inr ⟨.arr T,e,t,ys,ver,G,by simp,fun k=>mN,DV O⟩)))⟩)
     have h2:=h1.place (q.app (.whole id)) N;obtain⟨F2,m2,a1,a2,rr,a3⟩:=ih fz (U++[.whole id]) F _ _ xs _ _ hi J h2 hd;exact⟨F2,m2,a1,a2,.whole id::rr,by grind⟩;grind;grind;grind;grind
    |mrows j e t=>
     simp only[dec]at h;split at h;rename_i id A;split at h;rename_i j' ks P t' ys ver G y;simp only[Aau]at y;obtain⟨O,y⟩:=y;split at h;rename_i ys' W K;simp only[Aau,Aat]at W;obtain⟨rfl,rfl⟩:=W;obtain⟨he,X⟩:=DX K;cases he;simp only at X;subst X;split at h;rename_i xs M g hd;simp only[Aas]at h;obtain⟨rfl,rfl,rfl⟩:=h;obtain⟨u,s,q⟩:=Cn hi J A;have N:Rep w F (Rr Y E.heap.length (m id) fun k=>m (.r id k)) (E.heap++[.rows (.map j ks) e t ys 0 none]) (.mp E.heap.length) u:=by unfold Rep at s |-;rw[G]at s;rw[Abb (Aax _),Acm,Abf,NR];exact s
     have h1:=V.AZU (b:=.whole id) (o:=.rows (.map j ks) e t ys 0 none) (mn:=Rr Y E.heap.length (m id) fun k=>m (.r id k)) (fun x hx=>JB hx)
      (fun i c C I B h=>by simp only[Bnd.id?,Aas]at h;subst h;exact Gt y i c I B)
      (by simp only[CG];exact⟨NR,.inr (.inr (.inr (.inr ⟨.map j ks,e,t,ys,ver,G,by simp,fun k=>mN,DV O⟩)))⟩)
     have h2:=h1.place (q.app (.whole id)) N;have hzl:ks.length=List.length (α:=List t.den) ys:=by
      obtain⟨_,h4⟩:=hi.obj id _ G;cases hm:m id with
       |none=>rw[hm]at h4;cases h4.1
       |some p=>obtain⟨b,cap⟩:=p;rw[hm]at h4;obtain⟨_,_,_,_,_,h5,_⟩:=h4;grind
     have he:enc ((l,.mrows j e t)::r) ((List.zip (β:=List t.den) ks ys,xs):Bd (leaves ((l,.mrows j e t)::r))) E=enc r xs (place (E_ E (.rows (.map j ks) e t ys 0 none)) (.mp E.heap.length) l):=by simp only[enc];rw[List.map_fst_zip (Ac5 hzl),List.map_snd_zip (Ac5 hzl.symm)]
     grind;grind;grind;grind;grind
    |aptr T e n=>simp only[dec]at h;split at h;rename_i id n' A;split at h;rename_i T' P ys G y;simp only[Aau]at y;obtain⟨O,y⟩:=y;split at h;rename_i ys' W K;simp only[Aau,Aat]at W;obtain⟨rfl,rfl⟩:=W;obtain⟨he,X⟩:=DX K;subst he;simp only at X;subst X;split at h;rename_i xs M g hd;simp only[Aas]at h;obtain⟨rfl,rfl,rfl⟩:=h;obtain⟨u,s,q⟩:=Cn hi J A;refine obj (.whole id) (.arr T P ys) (m id) (.aptr E.heap.length n) u xs _ q (fun i c C I B => ?_) ?_ ?_ hd;rintro h;simp only[Bnd.id?,Aas]at h;subst h;exact Gt y i c I B;simp only[CG];exact⟨Ba ..,.inl ⟨T,P,ys,G,by simp,DV O⟩⟩;unfold Rep at s |-;rw[G]at s;rw[Abb (Aax _),Acm,Abf,Ba];exact s;grind;grind;grind;grind
    |bndp f j=>simp only[dec]at h;split at h;rename_i f' id C A S;split at h;rename_i K;simp only[Aau,Aat]at K;obtain⟨rfl,rfl⟩:=K;obtain⟨u,s,q⟩:=Cn hi J A;unfold Rep at s;obtain⟨cs,rfl,hr⟩:=s;refine D (.bnd f [.ptr j 0]) _ d Z q ?_ h;unfold Rep;refine⟨cs,rfl,?_⟩;unfold BG at hr |-;obtain⟨x,xs,e1,e2,e3⟩:=hr;refine⟨x,xs,e1,zc (V.ob j _ S) e2,?_⟩;unfold BG at e3 |-;exact e3;grind;grind
    |nilp=>
     simp only[dec]at h;cases A:look tm H U l with
      |none=>grind
      |some v=>
       rw[A]at h;cases v with
        |nilp=>obtain⟨u,s,q⟩:=Cn hi J A;exact D .nilp u d Z q (by unfold Rep at *;exact s) h
        |_=>cases h
    |aptr' j n=>simp only[dec]at h;split at h;rename_i id n' C A S;split at h;rename_i z;simp only[Aau,Aat]at z;obtain⟨rfl,rfl⟩:=z;obtain⟨u,s,q⟩:=Cn hi J A;exact D (.aptr j n) u d Z q (AVm (V.ob j _ S) s) h;grind;grind
end
structure I9(np:Nat)(w:World)(F:Nat->Prop)(m:Mp)(H:List Ob)(fz:List Bool)(w':World)(F':Nat->Prop)(m':Mp)(H':List Ob)(fz':List Bool):Prop where
 os:w'.os=w.os
 tape:w'.tape=w.tape
 output:w'.output=w.output
 size:w.heap.size<=w'.heap.size
 keep:∀ b,b<w.heap.size->(∀ i c,owned H fz i->m i≠some (b,c))->w'.heap[b]? = w.heap[b]?
 sub:∀ b,F b->F' b
 bnd:∀ b,F' b->F b\/(∃ i c,owned H fz i/\m i=some (b,c))\/w.heap.size<=b
 own:∀ i b c,owned H' fz' i->m' i=some (b,c)->(∃ i c,owned H fz i/\m i=some (b,c))\/w.heap.size<=b
 comp:∀ (i:Nat) o,i<np->H[i]? = some o->o≠.free->H'[i]? = some .dead\/(o≠.dead/\∃ o',H'[i]? = some o'/\sameShape o o'/\m' i=m i/\(CK o=false->TV o'=TV o->∀ k,m' (.r i k)=m (.r i k)))
theorem Ext.toN{w w':World}{F a:Nat->Prop}{m b:Mp}{H H':List Ob}{fz fz':List Bool}(h:Ext w F m H fz w' a b H' fz')(np:Nat):I9 np w F m H fz w' a b H' fz':=
 ⟨h.os,h.tape,h.output,h.size,h.keep,h.sub,h.bnd,h.own,fun i o _=>h.comp i o⟩
theorem I9.refl(np:Nat)(w:World)(F:Nat->Prop)(m:Mp)(H:List Ob)(fz:List Bool):I9 np w F m H fz w F m H fz:=(Ext.refl ..).toN np
theorem I9.trans{np:Nat}{w s t:World}{F u v:Nat->Prop}{m x y:Mp}{H z A:List Ob}{fz g j:List Bool}
  (h:I9 np w F m H fz s u x z g) (k:I9 np s u x z g t v y A j):I9 np w F m H fz t v y A j where
 os:=k.os.trans h.os
 tape:=k.tape.trans h.tape
 output:=k.output.trans h.output
 size:=Abk h.size k.size
 keep b hb hn:=by rw[k.keep b (AcI hb h.size) ?_,h.keep b hb hn];intro i c n C;rcases h.own i b c n C with⟨B,c',d,e⟩|d;all_goals grind
 sub b hb:=k.sub b (h.sub b hb)
 bnd b hb:=by
  rcases k.bnd b hb with d|⟨i,c,d,e⟩|d;exact h.bnd b d;·rcases h.own i b c d e with f|f;all_goals grind
  exact .inr (.inr (Abk h.size d))
 own i b c d e:=by rcases k.own i b c d e with⟨B,c',f,l⟩|f;exact h.own B b c' f l;exact .inr (Abk h.size f)
 comp i o hlt n hf:=by
  rcases h.comp i o hlt n hf with d|⟨hd,o',d,e,f,E⟩
  ·rcases k.comp i _ hlt d (by simp)with l|⟨p,_⟩
   all_goals grind
  have q:o'≠.free:=by rintro rfl;cases o<;>simp[sameShape]at e
  rcases k.comp i o' hlt d q with l|⟨_,r,l,p,D,G⟩
  grind;refine .inr ⟨hd,r,l,e.trans p,D.trans f,fun a b k => ?_⟩;have I:=e.ver;have J:=p.ver;grind
section
variable {w:World} {F:Nat->Prop} {m:Mp} {H:List Ob} {fz:List Bool} {bs:List Bnd} {m':Mp} {E:St} {val:Nat->Value}
def Ix.at:Ix->Nat->Ix
 |.o _,i=>.o i
 |.r _ k,i=>.r i k
theorem Ix.AXS(x:Ix)(i:Nat):(x.at i).id=i:=by cases x<;>rfl
theorem Inv.AaZ(h:Inv w F m H fz bs m' E val){i b c:Nat}(k:owned E.heap E.frz i)(l:m' i=some (b,c)):∃ x id,bs[i]? = some x/\x.id? = some id/\owned H fz id/\m id=some (b,c):=by
 obtain⟨o,g,_,_⟩:=GJ k;have d:=BW g;rw[h.lenH]at d;have f:bs[i]? = some bs[i]:=Aaz d;have a:=h.ob i _ f;cases j:bs[i]with
  |none=>rw[j]at a;simp only[CG]at a;grind
  |whole id=>rw[j]at a f;simp only[CG]at a;obtain⟨e,a⟩:=a;refine⟨_,id,f,rfl,?_,by grind⟩;simp only[owned,Cs];grind
  |cut id=>rw[j]at a f;simp only[CG]at a;obtain⟨T,t,xs,n,p,q,r,s⟩:=a;refine⟨_,id,f,rfl,by simp only[owned,Cs];grind,?_⟩;grind
theorem Inv.rowAt(h:Inv w F m H fz bs m' E val){j:Nat}{T:RK}{e:TypeId}{t:Ty}{xs:List (List t.den)}{ver:Nat}{out:Option Nat}(g:E.heap[j]? = some (.rows T e t xs ver out)):
  ∃ id b,bs[j]? = some (.whole id)/\H[id]? = some (.rows T e t xs b none)/\out=none/\m' j=m id/\(∀ k,m' (.r j k)=m (.r id k))/\fz.getD id false=false:=by
 have c:=BW g;rw[h.lenH]at c;have f:bs[j]? = some bs[j]:=Aaz c;have a:=h.ob j _ f;cases d:bs[j]with
  |none=>rw[d]at a;simp only[CG]at a;grind
  |whole id=>rw[d]at a f;simp only[CG]at a;grind
  |cut id=>rw[d]at a;simp only[CG]at a;grind
theorem Inv.src(h:Inv w F m H fz bs m' E val){i:Ix}{b c:Nat}(a:owned E.heap E.frz i)(d:m' i=some (b,c)):∃ x id,bs[i.id]? = some x/\x.id? = some id/\owned H fz (i.at id)/\m (i.at id)=some (b,c):=by
 cases i with
  |o i=>exact h.AaZ a d
  |r i k=>simp only[owned]at a;split at a;rename_i T e t xs ver out g;obtain⟨id,f,j,n,_,_,l,p⟩:=h.rowAt g;exact⟨_,id,j,rfl,by simp only[owned,Ix.at];grind,(l k).symm.trans d⟩;grind
theorem Inv.hi(hi:HI w F m H fz)(h:Inv w F m H fz bs m' E val):HI w F m' E.heap E.frz where
 obj j o f:=by
  have s:=BW f;rw[h.lenH]at s;have C:bs[j]? = some bs[j]:=Aaz s;have g:=h.ob j _ C;cases D:bs[j]with
   |none=>rw[D]at g;simp only[CG]at g;obtain⟨M,⟨T,e,u,Q⟩|⟨T,t,u⟩⟩:=g;rw[f]at u;cases u;exact⟨Q,by rw[M]⟩;rw[f]at u;cases u;rw[M];exact(rfl:([]:List Int)=[])
   |whole id=>
    rw[D]at g;simp only[CG]at g;obtain⟨e,g⟩:=g;rcases g with⟨T,t,xs,l,a,z⟩|⟨k,v,es,l,a⟩|⟨cs,R,b,c,vs,T,l,a,_,q,B,S,U⟩|⟨T,V,j0,is,l,a,z⟩|⟨T,e',t,xs,ver,l,a,z⟩
    rw[f]at a;cases a;rw[e];exact hi.obj id _ l;rw[f]at a;cases a;rw[e];exact hi.obj id _ l;rw[f]at a;cases a;exact⟨b,c,vs,T,e.trans q,B,S,U⟩;grind;rw[f]at a;cases a;rw[e];exact hi.obj id _ l
   |cut id=>
    rw[D]at g;simp only[CG]at g;obtain⟨T,t,xs,n,l,a,z,q⟩:=g;rw[f]at z;cases z;obtain⟨G,d⟩:=hi.obj id _ l;refine⟨G,?_⟩;rcases q with q|⟨q,B⟩
    ·rw[q];cases W:m id with
      |none=>grind
      |some p=>obtain⟨b,cap⟩:=p;rw[W]at d;simp only at d |-;obtain⟨vs,row,X,b2,Y,Z,b5,b6⟩:=d;refine⟨vs,row.take (n*t.size),X,?_,Y,Z,FF (fun x cs C=>Dat.length t C) n b5,?_⟩;all_goals grind
    grind
 row i:=by intro T e t xs ver out f k ys hk;obtain⟨id,A,l,a,rfl,q,B,_⟩:=h.rowAt f;obtain⟨d,r⟩:=hi.row id T e t xs A none a k ys hk;rw[B k];refine⟨?_,fun _ => ?_⟩;obtain⟨G,d⟩:=d;exact⟨G,d⟩;grind
 rfz i T e t xs ver out f hf:=by rw[h.frz i]at hf;cases hf
 sep i j b c b' c' d r hij h3 h4:=by
  obtain⟨x,id,N,O,I,J⟩:=h.src d h3;obtain⟨y,K,l1,l2,l3,l4⟩:=h.src r h4;refine hi.sep _ _ b c b' c' I l3 ?_ J l4;intro P;have L:id=K:=by rw[<- Ix.AXS i id,P,Ix.AXS]
  subst L;have:=h.inj _ _ x y id N l1 O l2;cases i<;>cases j<;>simp only[Ix.at,Ix.id]at P this<;>(grind)<;>subst this<;>exact hij rfl
 off i b c d r:=by obtain⟨x,id,N,O,I,J⟩:=h.src d r;exact hi.off _ b c I J
 froz i T t xs b c d r:=by rw[h.frz i]at r;cases r
 lt:=hi.lt
 glo:=hi.glo
 len:=h.lenF.symm
theorem tI:∀ (n i:Nat) (bs:List Bnd),pins n i bs=true->∀ k,k<n->bs[k]? = some (.whole (i+k)):=by
 intro n;induction n with
  |zero=>omega
  |succ n a=>
   intro i bs h k c;cases bs with
    |nil=>simp[pins]at h
    |cons b bs=>
     simp only[pins,Aau,Aat]at h;cases k with
      |zero=>grind
      |succ k=>grind
theorem Inv.blank{val:Nat->Value}(n:Nat):Inv w F m H fz [] (fun _=>none) (Pev.blank n) val where
 tmps t:=by rw[show(Pev.blank n).tmps.f t = .DM from rfl];unfold Rep;trivial
 lenH:=rfl
 lenF:=rfl
 frz i:=by simp[Pev.blank]
 ob j b h:=by simp at h
 inj i j b c id h:=by simp at h
theorem zl(st:St)(v:AV)(l:Loc):(place st v l).tmps.n=st.tmps.n:=by
 cases l with
  |tmp t=>rfl
  |cell j c=>simp only[place];grind
  |cap t i=>rfl
  |obj j=>rfl
theorem AP9:∀ (its:A1) (d:Bd (leaves its)) (st:St),(enc its d st).tmps.n=st.tmps.n:=by
 intro its;induction its with
  |nil=>intro d st;rfl
  |cons p r a=>intro d st;obtain⟨l,c⟩:=p;cases c<;>exact(a _ _).trans (zl _ _ _)
theorem Pz(n:Nat)(its:A1)(d:Bd (leaves its)):(encode n its d).tmps.n=n:=by unfold encode;rw[AP9];simp[blank]
theorem AHI{y:Nat->Prop}{q:List Bool}{np:Nat}(h:Inv w y m H q bs m' E val)(n:(pins np 0 bs&&(H.take np).all CK)=true):∀ (i:Nat) o,i<np->H[i]? = some o->o≠.free->E.heap[i]? = some .dead\/(o≠.dead/\∃ o',E.heap[i]? = some o'/\sameShape o o'/\m' i=m i/\(CK o=false->TV o'=TV o->∀ k,m' (.r i k)=m (.r i k))):=by
 intro i o s j B;rw[Aau]at n;obtain⟨n,l⟩:=n;have u:CK o=true:=AbK.1 l o (Aay (i:=i) (by grind))
 suffices z:E.heap[i]? = some .dead\/(o≠.dead/\∃ o',E.heap[i]? = some o'/\sameShape o o'/\m' i=m i)from
  z.imp id fun ⟨a,o',b,c,d⟩=>⟨a,o',b,c,d,fun e=>by grind⟩
 have x:=tI np 0 bs n i s;rw[Abo]at x;have p:=h.ob i _ x;simp only[CG]at p;obtain⟨e,p⟩:=p;right;rcases p with⟨T,t,xs,f,g,C⟩|⟨k,v,D,f,g⟩|⟨cs,A,b,c,vs,T,f,g,_,G,I,J,K⟩|⟨_,_,_,_,f,g,_⟩|⟨_,_,_,_,_,f,g,_⟩
 rw[j]at f;cases f;exact⟨by simp,_,g,⟨rfl,rfl⟩,e⟩;rw[j]at f;cases f;exact⟨by simp,_,g,trivial,e⟩;rw[j]at f;cases f;exact⟨by simp,_,g,trivial,e⟩;rw[j]at f;cases f;exact⟨by simp,_,g,rfl,e⟩;rw[j]at f;cases f;cases u
theorem Hs[DfI]{np d:Nat}{st:St}{a:Act}{its:A1}{v:Bd (leaves its)}(e:SI w F m st a)(h:decode np d st its=some v):
  ∃ j m',SI w j m' (encode d its v) a/\I9 np w F m st.heap st.frz w j m' (encode d its v).heap (encode d its v).frz:=by
 unfold decode at h;split at h;rename_i k;simp only[Aat]at k;split at h;rename_i l bs n hd;split at h;rename_i o;simp only[Aas]at h;subst h
 obtain⟨p,q,f,g,_⟩:=ACU (val:=fun t=>a.tmps.getD t undef) its st.frz [] F (fun _=>none) (blank d) l bs n e.heap
  (fun t v r=>by rw[(Tm.AVg r).1];exact e.tmps t) (Inv.blank d) hd
 refine⟨p,q,⟨g.tmps,by rw[Pz,<- k];exact e.size,g.hi f.2,e.defers⟩,?_⟩;refine⟨rfl,rfl,rfl,Aax _,fun _ _ _=>rfl,f.1.sub,f.1.bnd,fun i b c s u => ?_,AHI g o⟩;obtain⟨x,id,A,B,y,z⟩:=g.src s u;exact f.1.own _ b c y z;grind;grind;grind
end
theorem Pr{R:Type}{all:List Oper}{g:Option (Nat×Bool)}{st:St}{f l:St->Option R}{r:R}(h:guarded R all g st f l=some r):
  ∃ st',(f st'=some r/\∀ (i:Type) (a c:St->Option i),guarded i all g st a c=a st')\/(l st'=some r/\∀ (i:Type) (a c:St->Option i),guarded i all g st a c=c st'):=by
 unfold guarded at h;split at h;exact⟨st,.inl ⟨h,fun _ _ _=>by simp[guarded]⟩⟩;rename_i j e;split at h;cases h;rename_i d k;split at h;rename_i b hd;cases b with
  |true=>
   cases e with
    |true=>exact⟨_,.inl ⟨h,fun _ _ _=>by simp only[guarded,k,hd]⟩⟩
    |false=>exact⟨_,.inr ⟨h,fun _ _ _=>by simp only[guarded,k,hd]⟩⟩
  |false=>
   cases e with
    |true=>exact⟨_,.inr ⟨h,fun _ _ _=>by simp only[guarded,k,hd]⟩⟩
    |false=>exact⟨_,.inl ⟨h,fun _ _ _=>by simp only[guarded,k,hd]⟩⟩
 rename_i hd;exact⟨_,.inr ⟨h,fun _ _ _=>by simp only[guarded,k,hd]⟩⟩;grind
section
variable [DfI] {P:Program} {E:Env}
theorem jQ(i:∀ g,BS P g (E.spec g)){R:Type}{r:R}{all:List Oper}{o:Oper}{φ:List Nat}{slot:Nat}{st:St}{k:St->Option R}(h:Tl P E R all o φ slot st k=some r):
  ∃ st',k st'=some r/\∀ (b:Type) (c:St->Option b),Tl P E b all o φ slot st c=c st':=by
 unfold Tl at h;obtain⟨j,a⟩:=Pr h;rcases a with⟨a,d⟩|⟨a,d⟩
 split at a;rename_i m;obtain⟨v,e,f,n,_⟩:=FU i o.op _ _ _ _ _ _ _ r a;split at f;rename_i l;exact⟨_,f,fun b c=>by unfold Tl;grind⟩;grind;grind;exact⟨_,a,fun b c=>by unfold Tl;rw[d]⟩
theorem SI.DM{w:World}{F:Nat->Prop}{m:Mp}{st:St}{a:Act}(h:SI w F m st a)(d:Option Tmp):SI w F m (st.put d .DM) a:=by
 cases d with
  |none=>exact h
  |some d=>refine⟨fun t => ?_,h.size,h.heap,h.defers⟩;simp only[St.put,Tm.YZ];split;exact(by unfold Rep;trivial:Rep w F m st.heap .DM _);exact h.tmps t
theorem Fi(st:St)(d:Option Tmp)(v:AV):(st.put d v).heap=st.heap/\(st.put d v).frz=st.frz:=by cases d<;>exact⟨rfl,rfl⟩
theorem ABX:∀ (l:List Oper) (st:St),(HH l st).heap=st.heap/\(HH l st).frz=st.frz:=by
 intro l;induction l with
  |nil=>exact fun st=>⟨rfl,rfl⟩
  |cons o l a=>intro st;exact⟨(a _).1.trans (Fi ..).1,(a _).2.trans (Fi ..).2⟩
theorem SI.HH{w:World}{F:Nat->Prop}{m:Mp}{a:Act}:∀ (l:List Oper) {st:St},SI w F m st a->SI w F m (Pev.HH l st) a:=by
 intro l;induction l with
  |nil=>exact fun h=>h
  |cons o l b=>exact fun h=>b (h.DM o.dst)
theorem AS4(st:St)(d:Option Tmp)(u v:AV):(st.put d u).put d v=st.put d v:=by
 cases d with
  |none=>rfl
  |some d=>simp only[St.put,Tm.set_set]
theorem kL:∀ (l:List Oper) (st:St) (x:Oper) (v:AV),x∈l->Pev.HH l (st.put x.dst v)=Pev.HH l st:=by
 intro l;induction l with
  |nil=>simp
  |cons o l f=>intro st x v g;simp only[Pev.HH];by_cases a:o.dst=x.dst;rw[a,AS4];have b:∀ d,x.dst=some d->o.dst≠some d:=fun d c e=>a (e.trans c.symm);rw[St.put_comm st v .DM b];grind
def Oj(E:Env)(o:Oper)(slot:Nat)(st:St)(p:PV)(e:Eff):Prop:=
 o.guard=none/\((∃ x,o.op = .panic x/\Bc st.tmps x = .ifc (some p)/\e = {}) \/
  ∃ f args ts s,o.op = .call { callee:=.value (.func f),args:=args,argTypes:=ts }/\E.pan f=some s /\
   ∀ (R:Type) (k:AV->Eff->Option R) (kp:PV->Eff->Option R),s R (args.toList.map (Bc st.tmps)) st.heap st.frz slot k kp=kp p e)
theorem fg{w:World}{F:Nat->Prop}{m:Mp}{H:List Ob}{ρ:Operand->AV}{a:Act}(b:∀ x,Rep w F m H (ρ x) (a.eval x))(args:Array Operand):BG w F m H (args.toList.map ρ) (args.map a.eval).toList:=by rw[AcU];exact EV (by simp) fun i c v d e=>by grind
theorem s9(t:G7 P E){o:Oper}{slot:Nat}{st:St}{p:PV}{e:Eff}(h:Oj E o slot st p e){w:World}{F:Nat->Prop}{m:Mp}{a:Act}(d:SI w F m st a){next:Act->World->Prop}{Q:Exit->Act->World->Prop}
  (u:∀ w' k n,BU w F m st.heap st.frz w' k n (C6 e st.heap) (FY e st.frz)->Q (.panic [DC p]) a w'):o.wp P a w next Q:=by
 obtain⟨_,⟨x,i,v,rfl⟩|⟨f,args,ts,s,i,y,j⟩⟩:=h;have g:=Fp d.tmps x;rw[v]at g;unfold Rep at g;unfold Oper.wp;have b:(execOp a.eval o).run P w = .halt (.panic (Ll (some p))) w:=by obtain⟨T,l⟩:=p;simp only[Ll]at g;simp[execOp,i,g,Instr.panic,goPanic,Ll]
 rw[b];exact u w F m (BU.refl d.heap);obtain q|q:=t f s y (PV×Eff) (args.toList.map (Bc st.tmps)) st.heap st.frz slot (fun _ _=>none) (fun p e=>some (p,e)) (p,e) (j _ _ _);grind;obtain⟨C,D,r,_,z,A⟩:=q;simp only[Aas,Aa4]at r;obtain⟨rfl,rfl⟩:=r;have c:=A w F m _ d.heap (fg (fun x=>Fp d.tmps x) args);rw[Ac0]at c;unfold Oper.wp;have b:(execOp a.eval o).run P w = .ok (.enter f (args.map a.eval)) w:=by simp[execOp,i,resolve,Act.eval,Deferred.ofValue,invoke,z _ w]
 rw[b];exact c.mono fun G w' ⟨B,k,n,H⟩=>by grind
theorem Ib(n:G7 P E){R:Type}{r:R}{o:Oper}{st:St}{slot:Nat}{q:PV⊕(NH×List AV)}(h:Ym E (Bc st.tmps) o=some q){k:AV->Eff->Option R}{kp:PV->Eff->Option R}
  (i:(match q with
   |.inl p=>kp p {}
   |.inr (s,args)=>s R args st.heap st.frz slot k kp)=some r) :
  (∃ p e,kp p e=some r/\Oj E o slot st p e/\∀ (a:Type) (c:AV->Eff->Option a) (b:PV->Eff->Option a),(match q with
   |.inl p=>b p {}
   |.inr (s,args)=>s a args st.heap st.frz slot c b)=b p e) \/
  (∃ s args v e,q = .inr (s,args)/\o.guard=none/\k v e=some r/\(∀ (a:Type) (c:AV->Eff->Option a),evalOp P E a o.op o.type (Bc st.tmps) st.heap st.frz slot c=c v e) /\
   ∀ (a:Type) (c:AV->Eff->Option a) (b:PV->Eff->Option a),s a args st.heap st.frz slot c b=c v e):=by
 unfold Ym at h;split at h;cases h;rename_i j;split at h;rename_i x d;split at h;rename_i p t;simp only[Aas]at h;subst h;exact .inl ⟨p,{},i,⟨j,.inl ⟨x,d,t,rfl⟩⟩,fun _ _ _=>rfl⟩;grind;rename_i f args ts d;split at h;rename_i s m;simp only[Aas]at h;subst h;simp only at i;rcases n f s m R _ _ _ _ _ _ _ i with⟨v,e,l,g,u⟩|⟨p,e,l,g,_,_⟩
 refine .inr ⟨s,_,v,e,rfl,j,l,fun a c => ?_,g⟩;rw[d];simp only[evalOp,Lq,Bc,Abd];grind;exact .inl ⟨p,e,l,⟨j,.inr ⟨f,args,ts,s,d,m,g⟩⟩,g⟩;grind;grind
theorem tM(w:∀ g,BS P g (E.spec g))(z:G7 P E){R:Type}{r:R}{t:Bool}{all:List Oper}:∀ (b:List Oper) (fp:List (List Nat)) (slot:Nat) (st:St) (k:Exit->St->Option R),Cz P E R t all b fp slot st k=some r ->
  ∃ e st',k e st'=some r/\∀ (d:Type) (f:Exit->St->Option d),Cz P E d t all b fp slot st f=f e st':=by
 intro b;induction b with
  |nil=>intro fp slot st k h;exact⟨_,_,h,fun _ _=>rfl⟩
  |cons o b n=>
   intro fp slot st k h;simp only[Cz]at h;cases a:Ym E (Bc st.tmps) o with
    |none=>
     rw[a]at h;cases t with
      |true=>obtain⟨A,c,x⟩:=jQ w h;obtain⟨e,i,j,B⟩:=n _ _ _ _ c;exact⟨e,i,j,fun d f=>by simp only[Cz,a];grind⟩
      |false=>
       obtain⟨A,c⟩:=Pr h;rcases c with⟨c,x⟩|⟨c,x⟩
       obtain⟨v,e,j,B,_⟩:=FU w o.op _ _ _ _ _ _ _ r c;obtain⟨l,i,m,y⟩:=n _ _ _ _ j;exact⟨l,i,m,fun d f=>by simp only[Cz,a];grind⟩;obtain⟨l,i,m,y⟩:=n _ _ _ _ c;exact⟨l,i,m,fun d f=>by simp only[Cz,a];grind⟩
    |some q=>
     rw[a]at h;cases q with
      |inl p=>exact⟨_,_,h,fun d f=>by simp only[Cz,a]⟩
      |inr C=>
       obtain⟨s,args⟩:=C;simp only at h;rcases Ib z (q:=.inr (s,args)) a h with⟨p,e,c,_,j⟩|⟨F,u,v,e,D,_,c,_,j⟩
       exact⟨_,_,c,fun d f=>by simp only[Cz,a];grind⟩;cases D;split at c;rename_i G;obtain⟨l,i,m,y⟩:=n _ _ _ _ c;exact⟨l,i,m,fun d f=>by simp only[Cz,a];grind⟩;grind
theorem NN{ops:Array Oper}{Q:Exit->Act->World->Prop}{i:Nat}{b:List Nat}{a:Act}{w:World}{o:Oper}(c:ops[i]? = some o)(d:o.guard=none)(h:o.wp P a w (wpOps P ops Q b) Q):wpOps P ops Q (i::b) a w:=by simp only[wpOps,c];rw[Aa5 (by simp[Region.wanted,d])];grind
theorem tL(hE:∀ g,BS P g (E.spec g))(U:G7 P E){ops:Array Oper}{Q:Exit->Act->World->Prop}{e:Exit}{st':St}:∀ (c b:List Oper) (fp:List (List Nat)) (slot:Nat) (st:St) (w:World) (F:Nat->Prop) (m:Mp) (a:Act),ops.toList=b++c ->
  Cz P E (Exit×St) false ops.toList c fp slot st (fun e s=>some (e,s))=some (e,st')->SI w F m st a ->
  (∀ y w' z A,SI w' z A st' y->Ext w F m st.heap st.frz w' z A st'.heap st'.frz->Q e y w')->wpOps P ops Q (List.range' b.length c.length) a w:=by
 intro c;induction c with
  |nil=>intro b fp slot st w F m a _ h B I;simp only[Cz,Aas,Aa4]at h;obtain⟨rfl,rfl⟩:=h;exact I a w F m B (Ext.refl ..)
  |cons o c V=>
   intro b fp slot st w F m a J h B I;have f:ops[b.length]? = some o:=by rw[<- Abw,J];simp
   have d:ops.toList=(b++[o])++c:=by grind
   have hlen:(b++[o]).length=b.length+1:=by simp
   rw[Aa1,AcW];simp only[Cz]at h;cases n:Ym E (Bc st.tmps) o with
    |none=>
     rw[n]at h;simp only at h;simp only[wpOps,f];obtain⟨W,t,e1,e2,C⟩:=S8 B h;rcases C with⟨X,hy⟩|⟨X,hn⟩
     rw[Aa5 X];left;obtain⟨v,l,D,_,Y⟩:=FU hE o.op _ _ _ _ _ _ _ _ hy;refine Y w F m a o _ Q rfl rfl t.heap (fun x=>Fp t.tmps x) fun u w' z A G Z => ?_;have i:=(t.go G).put Z o.dst;have:=V (b++[o]) _ _ _ w' z A (a.put o.dst u) d D i fun y j K L M H=>I y j K L M (by have hx:=G.1;rw[e1,e2]at hx;refine hx.trans ?_;have C:=Fi (W.app l) o.dst v;rw[C.1,C.2]at H;simp only[St.app,e1,e2]at H;exact H)
     grind;rw[Aa2 (by simp[X])];have i:SI w F m (W.put o.dst CW) (a.put o.dst undef):=t.put Tp o.dst;have:=V (b++[o]) _ _ _ w F m (a.put o.dst undef) d hn i fun y j K L M H=>I y j K L M (by have C:=Fi W o.dst CW;grind)
     grind
    |some q=>
     rw[n]at h;have stop:∀ p l,Oj E o slot st p l->e = .panic [DC p]->st'=st.app l->wpOps P ops Q (b.length::List.range' (b.length+1) c.length) a w:=by intro p l N he O;subst he;subst O;refine NN f N.1 (s9 U N B fun w' z A G => ?_);exact I a w' z A (B.go G) G.1
     cases q with
      |inl p=>
       simp only[Aas,Aa4]at h;rcases Ib U (R:=Unit) (r:=()) (slot:=slot) (k:=fun _ _=>none) (kp:=fun p' e'=>some ()) (q:=.inl p) n rfl with⟨p',l,_,S,Y⟩|⟨_,_,_,_,h0,_⟩
       have h4:=Y (PV×Eff) (fun _ _=>none) fun p e=>some (p,e);simp only[Aas,Aa4]at h4;obtain⟨rfl,rfl⟩:=h4;exact stop p {} S h.1.symm h.2.symm;grind
      |inr sa=>
       obtain⟨s,args⟩:=sa;simp only at h;rcases Ib U (q:=.inr (s,args)) n h with⟨p,l,D,S,_⟩|⟨s',args',v,l,h0,G,D,S,_⟩
       simp only[Aas,Aa4]at D;exact stop p l S D.1.symm D.2.symm;simp only[AbF,Bool.true_or]at D;obtain⟨v',e',c1,_,c3⟩:=FU hE o.op (AV×Eff) o.type (Bc st.tmps) st.heap st.frz slot (fun v e=>some (v,e)) (v,l) (S _ _);simp only[Aas,Aa4]at c1;obtain⟨rfl,rfl⟩:=c1;refine NN f G (c3 w F m a o _ Q rfl rfl B.heap (fun x=>Fp B.tmps x) fun u w' z A T Z => ?_);have i:=(B.go T).put Z o.dst;have:=V (b++[o]) _ _ _ w' z A (a.put o.dst u) d D i fun y j K L M H=>I y j K L M (by refine T.1.trans ?_;have C:=Fi (st.app e') o.dst v';rw[C.1,C.2]at H;exact H)
       grind
theorem AND{o:Oper}{φ:List Nat}{st:St}{slot n:Nat}{e:Eff}(a:ANE E o φ st=true)(b:(NY φ||SD (writer o.op||Ol φ) φ slot n e)=true):NY φ=true\/(Kn E st.heap (Bc st.tmps) o.op φ/\SD (writer o.op||Ol φ) φ slot n e=true):=by unfold ANE at a;simp only[Abt,Aau]at a;rw[Abt]at b;rcases a with a|a;grind;rcases b with b|b;grind;refine .inr ⟨?_,b⟩;rcases a with a|a;exact .inl a;exact .inr ⟨a.2.1.1,a.2.1.2,a.2.2⟩
theorem AON{o:Oper}{ρ:Operand->AV}{q:PV⊕(NH×List AV)}(h:Ym E ρ o=some q):Yn E [o]=true:=by unfold Ym at h;unfold Yn;grind
theorem gg(J:∀ g,BS P g (E.spec g))(F:G7 P E){all:List Oper}{fp:List (List Nat)}{base:Nat}{e:Exit}{st':St}:∀ (c a:List Oper) (f:List (List Nat)) (slot:Nat) (st:St),
  all=a++c->f=fp.drop a.length->slot=B8 all base a.length->Cz P E (Exit×St) true all c f slot st (fun e s=>some (e,s))=some (e,st') ->
  (e = .normal/\I' P E all (fun i=>fp.getD i []) (B8 all base) (List.range' a.length c.length) st st') \/
  ∃ n o p d b,all[a.length+n]? = some o/\Yn E [o]=true/\I' P E all (fun i=>fp.getD i []) (B8 all base) (List.range' a.length n) st b/\Oj E o (B8 all base (a.length+n)) b p d/\e = .panic [DC p]/\st'=HH all (b.app d):=by
 intro c;induction c with
  |nil=>intro a f slot st _ _ _ h;simp only[Cz,Aas,Aa4]at h;exact .inl ⟨h.1.symm,h.2⟩
  |cons o c K=>
   intro a f slot st G L x h;have l:(a++[o]).length=a.length+1:=by simp
   have y:f.headD []=fp.getD a.length []:=by simp_all
   have z:f.tail=fp.drop (a++[o]).length:=by simp_all
   have A:slot+slotsOf o.op=B8 all base (a++[o]).length:=by
    rw[x,l];unfold B8;have M:all.take (a.length+1)=a++[o]:=by grind
    have N:all.take a.length=a:=by grind
    rw[M,N,KW];simp[DE];omega
   have B:all[a.length]? = some o:=by grind
   have go:∀ u,DZ P E all o (f.headD []) slot st u->Cz P E (Exit×St) true all c f.tail (slot+slotsOf o.op) u (fun e s=>some (e,s))=some (e,st') ->
     (e = .normal/\I' P E all (fun i=>fp.getD i []) (B8 all base) (List.range' a.length (o::c).length) st st') \/
     ∃ n o p d b,all[a.length+n]? = some o/\Yn E [o]=true/\I' P E all (fun i=>fp.getD i []) (B8 all base) (List.range' a.length n) st b/\Oj E o (B8 all base (a.length+n)) b p d/\e = .panic [DC p]/\st'=HH all (b.app d):=by
    intro u j m
    rw[y,x]at j
    rcases K (a++[o]) _ _ u (by grind) z A m with⟨O,w⟩|⟨n,Q,p,d,b,S,T,H,U,V⟩
    ·rw[l]at w
     exact .inl ⟨O,by rw[Aa1,AcW];exact⟨o,u,B,j,w⟩⟩
    ·rw[l]at S H U
     refine .inr ⟨n+1,Q,p,d,b,by grind,T,by rw[AcW];exact⟨o,u,B,j,H⟩,by grind,V⟩
   simp only[Cz]at h;cases t:Ym E (Bc st.tmps) o with
    |none=>rw[t]at h;simp only at h;obtain⟨u,j,m⟩:=bu J h;exact go u j m
    |some q=>
     rw[t]at h
     have stop:∀ p d,Oj E o slot st p d->e = .panic [DC p]->st'=HH all (st.app d)->∃ n o p d b,all[a.length+n]? = some o/\Yn E [o]=true/\I' P E all (fun i=>fp.getD i []) (B8 all base) (List.range' a.length n) st b/\Oj E o (B8 all base (a.length+n)) b p d/\e = .panic [DC p]/\st'=HH all (b.app d):=
      fun p d j m C=>⟨0,o,p,d,st,B,AON t,rfl,by grind,m,C⟩
     cases q with
      |inl p=>
       simp only[Aas,Aa4]at h;rcases Ib F (R:=Unit) (r:=()) (slot:=slot) (k:=fun _ _=>none) (kp:=fun W e'=>some ()) (q:=.inl p) t rfl with⟨W,d,_,m,C⟩|⟨_,_,_,_,X,_⟩
       have I:=C (PV×Eff) (fun _ _=>none) fun p e=>some (p,e);simp only[Aas,Aa4]at I;obtain⟨rfl,rfl⟩:=I;exact .inr (stop p {} m h.1.symm h.2.symm);grind
      |inr Y=>
       obtain⟨s,args⟩:=Y;simp only at h;rcases Ib F (q:=.inr (s,args)) t h with⟨p,d,j,m,_⟩|⟨s',D,v,d,X,Z,j,m,_⟩
       simp only[Aas,Aa4]at j;exact .inr (stop p d m j.1.symm j.2.symm);split at j;rename_i w;simp only[Aav,AdR,Aau]at w;exact go _ (.inl ⟨by rw[Z];rfl,v,d,AND w.1 w.2,m,rfl⟩) j;grind
theorem AKT{all:List Oper}{fp:Nat->List Nat}{d:Nat->Nat}:∀ (l b:List Nat) (st a c:St),I' P E all fp d l st a->I' P E all fp d b a c->I' P E all fp d (l++b) st c:=by
 intro l;induction l with
  |nil=>intro b st a c h k;have h:st=a:=h;grind
  |cons i l e=>intro b st a c ⟨o,s,f,g,j⟩ k;exact⟨o,s,f,g,e b s a c j k⟩
theorem sw{all:List Oper}{fp:Nat->List Nat}{m:Nat->Nat}{y:Oper}:∀ (l:List Nat) (st a:St),(∀ j∈l,∀ x,all[j]? = some x->Dw x.op=true/\apart? all x y=true)->I' P E all fp m l st a ->
  a.heap=st.heap/\a.frz=st.frz/\(∀ z∈y.op.operands,Bc a.tmps z=Bc st.tmps z)/\∀ b,HH all (a.app b)=HH all (st.app b):=by
 intro l;induction l with
  |nil=>intro st a _ h;have h:st=a:=h;grind
  |cons j l n=>
   intro st a f ⟨x,s,g,o,p⟩;obtain⟨q,c⟩:=f j (by simp) x g;obtain⟨r,t,u,w⟩:=n s a (fun i hi=>f i (by simp[hi])) p;have d:∃ v,s=st.put x.dst v:=by
    rcases o with⟨_,v,e,_,A,rfl⟩|⟨_,rfl⟩
    have:=P1 q _ _ _ _ _ A;subst this;exact⟨v,rfl⟩;grind
   obtain⟨v,rfl⟩:=d;refine⟨r.trans (Fi ..).1,t.trans (Fi ..).2,fun z k=>(u z k).trans (Cp c st v z k),fun b=>(w b).trans ?_⟩;rw[St.JT];exact kL all _ x v (Aay g)
theorem Oj.congr{y:Oper}{slot:Nat}{st a:St}{p:PV}{c:Eff}(h:Oj E y slot a p c)(l:a.heap=st.heap)(m:a.frz=st.frz)(d:∀ z∈y.op.operands,Bc a.tmps z=Bc st.tmps z):Oj E y slot st p c:=by obtain⟨e,⟨x,b,g,i⟩|⟨f,args,ts,s,b,j,n⟩⟩:=h;exact⟨e,.inl ⟨x,b,by rw[<- d x (by rw[b];simp[Op.operands])];exact g,i⟩⟩;refine⟨e,.inr ⟨f,args,ts,s,b,j,fun R k kp => ?_⟩⟩;have:args.toList.map (Bc st.tmps)=args.toList.map (Bc a.tmps):=No fun x g=>(d x (by rw[b];simp[Op.operands,Call.operands];grind)).symm;grind
theorem wk(hE:∀ g,BS P g (E.spec g))(hL:FA E)(hP:G7 P E){ops:Array Oper}{fp:Nat->List Nat}{base:Nat}{Q:Exit->Act->World->Prop}{st':St}{p:Nat}{y:Oper}{pv:PV}{V:Eff}(hy:ops.toList[p]? = some y)
  (K:∀ i y,ops.toList[i]? = some y->(∀ e∈y.after.toList,Region.binds .any e=true->e.on<i) /\
   ∀ j x,j<i->ops.toList[j]? = some x->reach ops.toList 8 y j=true\/indep ops.toList x y (fp j) (fp i) (B8 ops.toList base j) (B8 ops.toList base i)=true)
  (hpre:∀ j x,j<p->ops.toList[j]? = some x->reach ops.toList 8 y j=true\/Dw x.op=true)
  (L:∀ j x,p<j->ops.toList[j]? = some x->reach ops.toList 8 x p=true\/(x.guard=none/\∃ z,x.op = .move z)) :
  ∀ (f:Nat) (b:Array Bool) (st c:St) (w:World) (F:Nat->Prop) (m:Mp) (a:Act),b.size=ops.size->YP ops.toList (fun i=>b.getD i false)->(BQ ops.size b).length<=f->p∈BQ ops.size b->SI w F m st a ->
   I' P E ops.toList fp (B8 ops.toList base) ((BQ ops.size b).filter fun j=>decide (j<p)) st c->Oj E y (B8 ops.toList base p) c pv V->st'=HH ops.toList (c.app V) ->
   (∀ A w' G H,SI w' G H st' A->Ext w F m st.heap st.frz w' G H st'.heap st'.frz->Q (.panic [DC pv]) A w')->wpAny P .any ops Q f b a w:=by
 intro f;have n:∀ (b:Array Bool) (i:Nat),i∈Region.ready .any ops b↔i∈BQ ops.size b/\((ops[i]?).map (·.after.all fun e => !Region.binds .any e||b.getD e.on false)).getD false=true:=by intro b i;unfold Region.ready BQ;grind
 induction f with
  |zero=>grind
  |succ f ih=>
   intro b st c w F m a hsz W hl hp hs hc M o hq;have unl:∀ {j:Nat},j∈BQ ops.size b->b.getD j false=false:=by intro j t;unfold BQ at t;grind
   refine⟨fun hnil => ?_,fun i hi => ?_⟩;exfalso;cases hu:BQ ops.size b with
    |nil=>grind
    |cons i l=>
     have q:i∈BQ ops.size b:=by grind
     have N:i<ops.size:=by unfold BQ at q;grind
     have:i∈Region.ready .any ops b:=by
      refine(n b i).2 ⟨q,?_⟩;rw[AcP N];simp only[Acu,Abg];rw[<- Adt,AbK];intro e he;cases hb:Region.binds .any e with
       |false=>rfl
       |true=>
        have hlt:=(K i ops[i] (by simp)).1 e he hb;simp only[Aav,AdR];cases hg:b.getD e.on false with
         |true=>rfl
         |false=>
          exfalso;have hon:e.on<ops.size:=by omega
          have:e.on∈BQ ops.size b:=by unfold BQ;grind
          rw[hu]at this;have hpw:(BQ ops.size b).Pairwise (· < ·):=Ac2 _ Adn
          rw[hu,Abi]at hpw;grind
     grind
   obtain⟨q,O⟩:=(n b i).1 hi;have N:i<ops.size:=by grind
   obtain⟨l1,l2,r⟩:=AdC q;have B:ops[i]? = some ops[i]:=AcP N;have d:ops.toList[i]? = some ops[i]:=by simp
   rw[B]at O;simp only[Acu,Abg]at O;rw[<- Adt,AbK]at O;have X:∀ e∈(ops[i]).after.toList,Region.binds .any e=true->(fun i=>b.getD i false) e.on=true:=by grind
   have Y:∀ j,j∈BQ ops.size b->reach ops.toList 8 ops[i] j=true->False:=by intro j t h;have h1:=T4 W 8 _ j X h;grind
   have hnext:=TW hsz l1 l2 r;have I:(BQ ops.size (b.setIfInBounds i true)).length<=f:=by grind
   have J:YP ops.toList (fun k=>(b.setIfInBounds i true).getD k false):=by
    have Z:∀ k,(b.setIfInBounds i true).getD k false=true↔(k=i\/b.getD k false=true):=by
     intro k;have hil:i<b.size:=by omega
     rw[AbT,AbT,Array.getElem?_setIfInBounds];by_cases hki:i=k;grind;grind
    intro k z U hk e he hb;simp only[Z]at hk |-;right;rcases hk with rfl|hk;grind;exact W k z U hk e he hb
   have C:∀ j∈(BQ ops.size b).filter (fun j=>decide (j<p)),j∈BQ ops.size b/\j<p:=by simp
   rcases Nat.lt_trichotomy i p with u|u|u;-- one ahead of it
   have hub:(BQ ops.size b).filter (fun j=>decide (j<p))=l1.filter (fun j=>decide (j<p))++i::l2.filter (fun j=>decide (j<p)):=by grind
   rw[hub]at hc;obtain⟨z,s1,U,h1,h2⟩:=QF hL d _ _ st c (fun j t=>by have hj1:j∈l1:=(AbS.1 t).1;have hji:=Oa r j hj1;grind) hc
   rw[d]at U;cases U;have S:p∈BQ ops.size (b.setIfInBounds i true):=by grind
   exact mi hE B h1 hs fun A w' G H T hx=>ih _ s1 c w' G H A (by grind) J I S T (by grind) M o fun A w2 F2 m2 q1 q2=>hq A w2 F2 m2 q1 (hx.trans q2);-- it
   subst u;rw[d]at hy;cases hy;obtain⟨k1,k2,k3,k4⟩:=sw (y:=ops[i]) _ st c (fun j t x hx=>by obtain⟨hj1,hj2⟩:=C j t;refine⟨?_,?_⟩;grind;rcases(K i _ d).2 j x hj2 hx with h|h;grind;exact(Pn h).1) hc
   have s:=M.congr k1 k2 k3;unfold wpOp;rw[B];simp only;rw[Aa5 (by simp[Region.wanted,s.1])];left;refine s9 hP s hs fun w' G H hg => ?_;have t:=ABX ops.toList (st.app V);rw[k4]at o;subst o;refine hq a w' G H ((hs.go hg).HH _) ?_;rw[t.1,t.2];exact hg.1;-- a move that stands behind it
   obtain⟨hg0,z,D⟩:ops[i].guard=none/\∃ z,ops[i].op = .move z:=by rcases L i _ u d with h|h;grind;omega
   have hev:∃ v,∀ (R:Type) (k:AV->Eff->Option R),evalOp P E R ops[i].op ops[i].type (Bc c.tmps) c.heap c.frz (B8 ops.toList base i) k=k v {}:=by rw[D];simp only[evalOp];split;exact⟨_,fun _ _=>rfl⟩;exact⟨_,fun _ _=>rfl⟩
   obtain⟨v,hv⟩:=hev;have hs1:DZ P E ops.toList ops[i] (fp i) (B8 ops.toList base i) c (c.put ops[i].dst v):=by refine .inl ⟨by rw[hg0];rfl,v,{},.inr ⟨.inr ⟨?_,?_,?_⟩,?_⟩,hv,rfl⟩;rw[D];rfl;rw[D];rfl;rw[D];rfl;simp[SD,within]
   have hc2:=AKT _ [i] st c (c.put ops[i].dst v) hc ⟨ops[i],_,d,hs1,rfl⟩;obtain⟨z',s1,hz',h1,h2⟩:=QF hL d _ [] st _ (fun j t=>by grind) hc2
   rw[d]at hz';cases hz';rw[Abd]at h2;have hub:(BQ ops.size (b.setIfInBounds i true)).filter (fun j=>decide (j<p))=(BQ ops.size b).filter (fun j=>decide (j<p)):=by grind
   have S:p∈BQ ops.size (b.setIfInBounds i true):=by grind
   have hap:apart? ops.toList ops[i] y=true:=by rcases(K i _ d).2 p y u hy with h|h;grind;exact Kz (Pn h).1
   have s:Oj E y (B8 ops.toList base p) (c.put ops[i].dst v) pv V:=M.congr (Fi ..).1.symm (Fi ..).2.symm fun z U=>(Cp hap c v z U).symm;have t:st'=HH ops.toList ((c.put ops[i].dst v).app V):=by rw[o,St.JT,kL _ _ _ _ (Aay d)]
   exact mi hE B h1 hs fun A w' G H T hx=>ih _ s1 _ w' G H A (by grind) J I S T (by grind) s t fun A w2 F2 m2 q1 q2=>hq A w2 F2 m2 q1 (hx.trans q2)
theorem ui{all:List Oper}{i:Nat}{o:Oper}(h:AET E all i o=true)(b:Yn E [o]=true):(∀ j x,j<i->all[j]? = some x->reach all 8 o j=true\/Dw x.op=true) /\
  ∀ j x,i<j->all[j]? = some x->reach all 8 x i=true\/(x.guard=none/\∃ z,x.op = .move z):=by
 unfold AET at h;rw[b]at h;simp only[AbK,AbI]at h;refine⟨fun j x c a => ?_,fun j x c a => ?_⟩;grind;have:=h j (AbC.1 a).1;rw[a]at this;have d:¬ j<i:=by omega
 have e:¬ j=i:=by omega
 simp only[d,e,AbV,AdR,Abt,Aau,Option.isNone_iff_eq_none]at this;grind
theorem gd(u:∀ g,BS P g (E.spec g))(U:FA E)(G:G7 P E){R:Type}{r:R}{id:Nat}{fp:List (List Nat)}{H:Bool}{ops:Array Oper}{st:St}{k:Exit->St->Option R}(h:KV P E R fp H ops.toList st k=some r):
  ∃ e st',k e st'=some r/\(∀ (I:Type) (J:Exit->St->Option I),KV P E I fp H ops.toList st J=J e st') /\
   ∀ (w:World) (F:Nat->Prop) (m:Mp) (a:Act) (Q:Exit->Act->World->Prop),SI w F m st a->(∀ l w' q t,SI w' q t st' l->Ext w F m st.heap st.frz w' q t st'.heap st'.frz->Q e l w')->(Code.region id ops H).wp P Q a w:=by
 unfold KV at h;rw[Pb]at h;split at h
 ·rename_i c;obtain⟨e,st',K,V⟩:=tM u G _ _ _ _ _ h;refine⟨e,st',K,fun I J=>by unfold KV;rw[Pb,c];grind,fun w F m a Q W L => ?_⟩;have X:=V (Exit×St) fun e s=>some (e,s);cases H with
   |false=>obtain⟨d,f⟩:=W.pad (DE ops.toList);have:=tL u G ops.toList [] _ _ _ w F m a (by simp) X d fun l w' q t v A=>L l w' q t v (f.trans A);rw[Aa8,AbH,<- AcL]at this;exact wp_region this
   |true=>
    simp only[Aav,AdR,Aau]at c;obtain⟨hm,c,Y⟩:=c;obtain⟨M,B⟩:=W.drew;obtain⟨d,f⟩:=M.pad (DE ops.toList);have C:ops.toList=[]++ops.toList:=by simp
    refine wp_region_any hm ?_;have hu:BQ ops.size (Array.replicate ops.size false)=List.range' 0 ops.toList.length:=by
     unfold BQ;rw[AbH,<- AcL];rw[AcO];intro i hi;have:i<ops.size:=by grind
     simp[AbT,this]
    have D:YP ops.toList (fun i=>(Array.replicate ops.size false).getD i false):=fun k z _ N=>by exfalso;have N:(Array.replicate ops.size false).getD k false=true:=N;rw[AbT,Array.getElem?_replicate]at N;grind
    have b:=fun i y hy=>UA (all:=ops.toList) (fp:=fp) (base:=st.heap.length) ops.toList [] fp _ [] C rfl (by simp[B8,DE]) (fun j x hj=>by grind) c i y (Acq _) hy;rcases gg u G (all:=ops.toList) (fp:=fp) (base:=st.heap.length) ops.toList [] fp st.heap.length _ C rfl (by simp[B8,DE]) X with⟨rfl,hc⟩|⟨n,o,p,ef,O,S,g2,g3,Z,rfl,g6⟩
    exact lF (ops:=ops) u U (fp:=fun i=>fp.getD i []) (base:=st.heap.length) (st':=st') b ops.size _ _ w.drew F m a (by simp) D (by grind) d (by grind) fun l w' q t v A=>L l w' q t v (B.trans (f.trans A))
    ·simp only[Aa8,Abo]at S g3 Z;have hn:n<ops.toList.length:=(AbC.1 S).1;have T:AET E ops.toList n o=true:=by grind
     obtain⟨o1,o2⟩:=ui T g2;refine wk u U G (ops:=ops) (fp:=fun i=>fp.getD i []) (base:=st.heap.length) S b o1 o2 ops.size _ _ O w.drew F m a (by simp) D (by grind) ?_ d ?_ Z g6 fun l w' q t v A=>L l w' q t v (B.trans (f.trans A));grind
     ·have:(List.range' 0 ops.toList.length).filter (fun j=>decide (j<n))=List.range' 0 n:=by
       have K:List.range' 0 ops.toList.length=List.range' 0 n++List.range' n (ops.toList.length-n):=by have V:=List.range'_append_1 (s:=0) (m:=n) (n:=ops.toList.length-n);grind
       rw[K,AcX,AcO.2,Ado.2,Abd];all_goals grind
      grind
 grind
end
section
variable [DfI] {P:Program} {E:Env} {h:Hints}
theorem c8(j:∀ g,BS P g (E.spec g)){R:Type}{r:R}{all:List Oper}:∀ (ops:List Oper) (slot:Nat) (st:St) (k:St->Option R),Gf P E R all ops slot st k=some r ->
  ∃ st',k st'=some r/\∀ (c:Type) (d:St->Option c),Gf P E c all ops slot st d=d st':=by
 intro ops;induction ops with
  |nil=>intro slot st k h;exact⟨st,h,fun _ _=>rfl⟩
  |cons o ops i=>
   intro slot st k h;simp only[Gf]at h;obtain⟨l,b⟩:=Pr h;rcases b with⟨b,m⟩|⟨b,m⟩
   obtain⟨v,e,n,q,_⟩:=FU j o.op _ _ _ _ _ _ _ r b;obtain⟨a,f,p⟩:=i _ _ _ n;exact⟨a,f,fun c d=>by simp only[Gf];grind⟩;obtain⟨a,f,p⟩:=i _ _ _ b;exact⟨a,f,fun c d=>by simp only[Gf];grind⟩
theorem tN(d:∀ g,BS P g (E.spec g)){R:Type}{r:R}{all:List Oper}:∀ (ops:List Oper) (fp:List (List Nat)) (slot:Nat) (st:St) (k:St->Option R),LD P E R all ops fp slot st k=some r ->
  ∃ st',k st'=some r/\∀ (a:Type) (b:St->Option a),LD P E a all ops fp slot st b=b st':=by
 intro ops;induction ops with
  |nil=>intro fp slot st k h;exact⟨st,h,fun _ _=>rfl⟩
  |cons o ops e=>intro fp slot st k h;simp only[LD]at h;obtain⟨f,i,l⟩:=jQ d h;obtain⟨c,j,m⟩:=e _ _ _ _ i;exact⟨c,j,fun a b=>by simp only[LD];grind⟩
def AaQ(P:Program)(np:Nat)(c:Code)(st:St)(e:Exit)(st':St):Prop:=
 ∀ (w:World) (F:Nat->Prop) (m:Mp) (a:Act) (Q:Exit->Act->World->Prop),SI w F m st a ->
  (∀ b w' d f,SI w' d f st' b->I9 np w F m st.heap st.frz w' d f st'.heap st'.frz->Q e b w')->c.wp P Q a w
def Fg(P:Program)(np:Nat)(c:Code)(go:(R:Type)->St->(Exit->St->Option R)->Option R):Prop:=
 ∀ (R:Type) (st:St) (k:Exit->St->Option R) (r:R),go R st k=some r->∃ e st',k e st'=some r/\(∀ (a:Type) (b:Exit->St->Option a),go a st b=b e st')/\AaQ P np c st e st'
def Bz(P:Program)(np:Nat)(h:Hints):Code->Nat->Prop
 |.seq a b,n=>Bz P np h a n/\Bz P np h b (n+loops a)
 |.cond _ a b,n=>Bz P np h a n/\Bz P np h b (n+loops a)
 |.block _ c,n=>Bz P np h c n
 |.scope c,n=>Bz P np h c n
 |.loop c,n=>Fg P np (.loop c) (h.loop n)
 |_,_=>True
theorem AFC{w:World}{F:Nat->Prop}{m:Mp}{st:St}{a:Act}(e:SI w F m st a){c:Operand}{x:Bool}(j:Bc st.tmps c = .data .bool x):
  a.eval c = .bool x/\SI w F m { st with tmps:=SX st.tmps c x } a:=by
 have i:Rep w F m st.heap (Bc st.tmps c) (a.eval c):=Fp e.tmps c;rw[j]at i;refine⟨?_,?_⟩;unfold Rep Cl at i;simp only[Ty.isAgg,AbB,AbE]at i;simpa [Dat]using i;cases c with
  |tmp t=>exact e.lit (d:=t) (b:=x) j
  |const v=>exact e
  |func f=>exact e
  |global g=>exact e
theorem DD(L:∀ g,BS P g (E.spec g))(hL:FA E)(hP:G7 P E){np:Nat}:∀ (c:Code) (n:Nat),Bz P np h c n->Fg P np c (fun R=>Bb P E h R c n):=by
 intro c;induction c with
  |skip=>intro n _ R st k r f;simp only[Bb]at f;exact⟨_,_,f,fun _ _=>rfl,fun w F m a Q s d=>wp_skip (d a w F m s (I9.refl ..))⟩
  |region id ops M=>
   intro n _ R st k r f;have hk0:=f;simp only[Bb]at f;split at f;rename_i y;obtain⟨e,st',q,u,v⟩:=gd L hL hP (id:=id) f;exact⟨e,st',q,fun j o=>by simp only[Bb,y];grind,fun w F m a Q s d=>v w F m a Q s fun p w' z A N O=>d p w' z A N (O.toN np)⟩;rename_i y;cases M with
    |false=>
     simp only[Hc,Pb]at f;obtain⟨st',q,u⟩:=c8 L _ _ _ _ f;refine⟨.normal,st',q,fun j o=>by simp only[Bb,y,Hc,Pb];grind,fun w F m a Q s d => ?_⟩;have v:Hc P E St ops.toList st some=some st':=by simp only[Hc,Pb];grind
     refine nZ L v s fun p w' hp => ?_;obtain⟨i,z,A,e1,S,e3⟩:=hp;cases e1;exact d p w' z A S (e3.toN np)
    |true=>
     simp only at f;have hk':=f;unfold Fz at f;rw[Pb]at f;split at f;rename_i T;obtain⟨st',q,u⟩:=tN L _ _ _ _ _ f;refine⟨.normal,st',q,fun j o=>by simp only[Bb,y,Fz,Pb,T];grind,fun w F m a Q s d => ?_⟩;have v:Fz P E St (h.fp id) ops.toList st some=some st':=by simp only[Fz,Pb,T];grind
     refine gf L hL v s fun p w' hp => ?_;obtain⟨i,z,A,e1,S,e3⟩:=hp;cases e1;exact d p w' z A S (e3.toN np);grind
  |seq a b D G=>
   intro n B R st k r f;simp only[Bb]at f;obtain⟨e,i,q,C,v⟩:=D n B.1 R st _ r f;have u:∀ (j:Type) (o:Exit->St->Option j),Bb P E h j a n st o=o e i:=C;by_cases he:e = .normal;subst he;simp only at q;obtain⟨S,st2,U,Y,V⟩:=G _ B.2 R i _ r q;refine⟨S,st2,U,fun j o => ?_,fun w F m t Q s d=>wp_seq ?_⟩;simp only[Bb];grind;refine v w F m t _ s fun p w' z A H I => ?_;exact V w' z A p Q H fun a2 w2 F2 m2 s2 x2=>d a2 w2 F2 m2 s2 (I.trans x2);have h1':k e i=some r:=by grind
   refine⟨e,i,h1',fun j o => ?_,fun w F m t Q s d=>wp_seq ?_⟩;simp only[Bb];grind;refine v w F m t _ s fun p w' z A H I => ?_;have:=d p w' z A H I;cases e<;>first|grind|exact this
  |cond c a b D G=>
   intro n B R st k r f;simp only[Bb]at f;split at f;rename_i x Z;cases x with
    |true=>obtain⟨e,i,q,u,v⟩:=D _ B.1 R _ _ r f;refine⟨e,i,q,fun j o=>by simp only[Bb,Z];grind,fun w F m t Q s d => ?_⟩;obtain⟨N,O⟩:=AFC s Z;exact wp_cond_true N (v w F m t Q O d)
    |false=>obtain⟨e,i,q,u,v⟩:=G _ B.2 R _ _ r f;refine⟨e,i,q,fun j o=>by simp only[Bb,Z];grind,fun w F m t Q s d => ?_⟩;obtain⟨N,O⟩:=AFC s Z;exact wp_cond_false N (v w F m t Q O d)
   grind
  |block id c ih=>
   intro n B R st k r f;simp only[Bb]at f;obtain⟨e,i,q,C,v⟩:=ih n B R st _ r f;have u:∀ (j:Type) (o:Exit->St->Option j),Bb P E h j c n st o=o e i:=C;have J:∃ W,k W i=some r/\(∀ (j:Type) (o:Exit->St->Option j),Bb P E h j (.block id c) n st o=o W i)/\∀ (Q:Exit->Act->World->Prop) p w',Q W p w'->Exit.inBlock id Q e p w':=by
    cases e with
     |exit X=>simp only at q;by_cases K:X=id;subst K;simp only[Aa6]at q;exact⟨.normal,q,fun j o=>by simp only[Bb];grind,fun Q p w' d=>by simp[Exit.inBlock,d]⟩;simp only[K,AbV]at q;exact⟨.exit X,q,fun j o=>by simp only[Bb];grind,fun Q p w' d=>by simp[Exit.inBlock,K,d]⟩
     |normal=>exact⟨_,q,fun j o=>by simp only[Bb];rw[u],fun Q p w' d=>d⟩
     |goto l=>exact⟨_,q,fun j o=>by simp only[Bb];rw[u],fun Q p w' d=>d⟩
     |ret=>exact⟨_,q,fun j o=>by simp only[Bb];rw[u],fun Q p w' d=>d⟩
     |panic l=>exact⟨_,q,fun j o=>by simp only[Bb];rw[u],fun Q p w' d=>d⟩
     |outgrown=>exact⟨_,q,fun j o=>by simp only[Bb];rw[u],fun Q p w' d=>d⟩
   obtain⟨W,U,Y,V⟩:=J;exact⟨W,i,U,Y,fun w F m t Q s d=>wp_block (v w F m t _ s fun p w' z A H I=>V Q p w' (d p w' z A H I))⟩
  |scope c ih=>
   intro n B R st k r f;simp only[Bb]at f;obtain⟨e,i,q,C,v⟩:=ih n B R st _ r f;have u:∀ (j:Type) (o:Exit->St->Option j),Bb P E h j c n st o=o e i:=C;have ng:∀ l,e≠.goto l:=by rintro l rfl;cases q
   have J:k e i=some r/\(∀ (j:Type) (o:Exit->St->Option j),Bb P E h j (.scope c) n st o=o e i)/\∀ (Q:Exit->Act->World->Prop) p w',Q e p w'->Exit.noGoto Q e p w':=by
    cases e with
     |goto l=>exact absurd rfl (ng l)
     |normal=>exact⟨q,fun j o=>by simp only[Bb];rw[u],fun Q p w' d=>d⟩
     |exit l=>exact⟨q,fun j o=>by simp only[Bb];rw[u],fun Q p w' d=>d⟩
     |ret=>exact⟨q,fun j o=>by simp only[Bb];rw[u],fun Q p w' d=>d⟩
     |panic l=>exact⟨q,fun j o=>by simp only[Bb];rw[u],fun Q p w' d=>d⟩
     |outgrown=>exact⟨q,fun j o=>by simp only[Bb];rw[u],fun Q p w' d=>d⟩
   obtain⟨U,Y,V⟩:=J;exact⟨e,i,U,Y,fun w F m t Q s d=>wp_scope_straight (v w F m t _ s fun p w' z A H I=>V Q p w' (d p w' z A H I))⟩
  |label l=>intro n _ R st k r f;simp only[Bb]at f;exact⟨_,_,f,fun _ _=>rfl,fun w F m a Q s d=>wp_label (d a w F m s (I9.refl ..))⟩
  |loop c ih=>intro n B R st k r f;exact B R st k r f
  |exit id=>intro n _ R st k r f;simp only[Bb]at f;exact⟨_,_,f,fun _ _=>rfl,fun w F m a Q s d=>wp_exit (d a w F m s (I9.refl ..))⟩
  |ret=>intro n _ R st k r f;simp only[Bb]at f;exact⟨_,_,f,fun _ _=>rfl,fun w F m a Q s d=>wp_ret (d a w F m s (I9.refl ..))⟩
  |_=>intro n _ R st k r f;simp[Bb]at f
theorem kW{R:Type}{r:R}{c:Nat}{k:Exit->St->Option R}:∀ (os:BJ) (x:QK os),eM c k os x=some r->∃ e st',k e st'=some r/\∀ (b:Type) (a:Exit->St->Option b),eM c a os x=a e st':=by
 intro os;induction os with
  |nil=>intro x h;simp[eM]at h
  |cons o os f=>
   intro x h;cases x with
    |inl d=>exact⟨_,_,h,fun _ _=>rfl⟩
    |inr x=>obtain⟨e,st',g,i⟩:=f x h;exact⟨e,st',g,fun b a=>i b a⟩
theorem sW{e a:Exit}(h:cN e a=true):e=a:=by cases e<;>cases a<;>simp_all [cN]
theorem ue{np b:Nat}{e:Exit}{st:St}:∀ (os:BJ) (x:QK os),Yo np b e st os=some x->∃ its d,decode np b st its=some d/\∀ (c:Type) (a:Exit->St->Option c),eM b a os x=a e (encode b its d):=by
 intro os;induction os with
  |nil=>intro x h;simp[Yo]at h
  |cons o os f=>intro x h;simp only[Yo]at h;split at h;rename_i g;split at h;rename_i d hd;simp only[Aas]at h;subst h;exact⟨o.2,d,hd,fun c a=>by rw[sW g];rfl⟩;grind;split at h;rename_i y i;simp only[Aas]at h;subst h;obtain⟨its,d,j,k⟩:=f y i;exact⟨its,d,j,fun c a=>k c a⟩;grind
theorem AIv{B:Hints}(hE:∀ g,BS P g (E.spec g))(hL:FA E)(hP:G7 P E){np f n:Nat}{b:Code}{its:A1}{os:BJ}{stp:Bd (leaves its)->Option (Bd (leaves its)⊕QK os)}
  (i:∀ v,stp v=roundOf P E B n np f b its os v) (hl:Bz P np B b n):Fg P np (.loop b) (Gl np f its os stp):=by
 intro R st k r l;unfold Gl at l;split at l;cases l;rename_i v U;split at l;cases l;rename_i x V;obtain⟨e,st',h1,h2⟩:=kW os x l;refine⟨e,st',h1,fun R' k'=>by simp only[Gl,U,V];grind,?_⟩
 have C:∀ (c:Nat) (v:Bd (leaves its)),BK stp c v=some x->∀ (w:World) (F:Nat->Prop) (m:Mp) (a:Act) (Q:Exit->Act->World->Prop),SI w F m (encode f its v) a ->
   (∀ o w' D G,SI w' D G st' o->I9 np w F m (encode f its v).heap (encode f its v).frz w' D G st'.heap st'.frz->Q e o w')->Code.rounds P b Q c a w:=by
  intro c
  induction c with
  |zero=>intro v h;simp[BK]at h
  |succ c ih=>
   intro v h w F m a Q H A
   simp only[BK]at h
   rw[i v]at h
   cases I:roundOf P E B n np f b its os v with
   |none=>grind
   |some y=>
    rw[I]at h
    unfold roundOf at I
    obtain⟨J,K,p,_,g3⟩:=DD hE hL hP b n hl _ _ _ _ I
    show b.wp P (Exit.then (Code.rounds P b Q c) Q) a w
    refine g3 w F m a _ H fun o w' D G W X => ?_
    by_cases he:J = .normal
    ·subst he
     simp only[sg]at p
     split at p
     ·rename_i d hd
      simp only[Aas]at p;subst p
      obtain⟨q,s,t,u⟩:=Hs W hd
      show Code.rounds P b Q c o w'
      exact ih d h w' q s o Q t fun L M N O S T=>A L M N O S (X.trans (u.trans T))
     grind
    ·have j:(match Yo np f J K os with
      |some x=>some (Sum.inr x)
      |none=>none)=some y:=by
      cases J<;>first|grind|exact p
     split at j
     ·rename_i z hz
      simp only[Aas]at j;subst j
      simp only[Aas]at h;subst h
      obtain⟨Y,d,o1,o2⟩:=ue os _ hz
      obtain⟨q,s,t,u⟩:=Hs W o1
      have Z:=(h2 (Exit×St) fun e st=>some (e,st)).symm.trans (o2 (Exit×St) fun e st=>some (e,st))
      simp only[Aas,Aa4]at Z
      obtain⟨rfl,rfl⟩:=Z
      have:=A o w' q s t (X.trans u)
      cases e<;>first|grind|exact this
     grind
 intro w F m a Q H A;obtain⟨q,s,t,u⟩:=Hs H U;exact wp_loop_rounds many (C many v (by rw[<- Bo];exact V) w q s a Q t fun L M N O S T=>A L M N O S (u.trans T))
end
section
variable {w:World} {F F0:Nat->Prop} {m m2:Mp} {H H2:List Ob} {ids:List Nat}
theorem Dat.flat:∀ (t:Ty),t.flat=true->∀ {d:t.den} {cs:List Value} {c:World},Dat w F t d cs->Dat c F0 t d cs:=by
 intro t;induction t with
  |unit=>exact fun _ _ _ _ h=>h
  |bool=>exact fun _ _ _ _ h=>h
  |int k=>exact fun _ _ _ _ h=>h
  |slice e _=>intro h;simp[Ty.flat]at h
  |mapi j e _=>intro h;simp[Ty.flat]at h
  |nul e=>exact fun _ _ _ _ h=>h
  |prod a b f g=>intro h d cs c hd;simp only[Ty.flat,Aau]at h;obtain⟨o,c2,i,l,p⟩:=hd;exact⟨o,c2,i,f h.1 l,g h.2 p⟩
  |arr n e q=>intro h d cs c hd;obtain⟨i,l⟩:=hd;exact⟨i,CC (fun x _ cs r=>q (by simpa [Ty.flat]using h) r) l⟩
theorem Cl.flat{t:Ty}(b:t.flat=true){d:t.den}{v:Value}{c:World}(h:Cl w F t d v):Cl c F0 t d v:=by unfold Cl at *;split;rename_i a;simp only[a,Abc]at h;obtain⟨vs,e,hd⟩:=h;exact⟨vs,e,hd.flat t b⟩;rename_i a;simp only[a]at h;exact Dat.flat t b h
theorem AJg{k v:Ty}(d:k.flat=true)(f:v.flat=true){g:World}:∀ {a:List (k.den×v.den)} {b:List MapEntry},K3 w F k v a b->K3 g F0 k v a b:=by
 intro a;induction a with
  |nil=>exact fun h=>h
  |cons e a i=>rintro b ⟨j,c,l,⟨n,o⟩,p⟩;exact⟨j,c,l,⟨n.flat d,o.flat f⟩,i p⟩
mutual
theorem Rep.flat:∀ (a:AV) {v:Value},Ln a=true->Rep w F m H a v->Rep w F0 m H a v
 |.DM,_,_,_=>by unfold Rep;trivial
 |.data t d,v,hf,h=>by unfold Rep at *;exact h.flat (by simpa [Ln]using hf)
 |.nils _,v,_,h=>by unfold Rep at *;exact h
 |.agg cs,v,hf,h=>by unfold Rep at *;obtain⟨vs,e,h,b⟩:=h;exact⟨vs,e,BG.flat cs (by simpa [Ln]using hf) h,b⟩
 |.own id,v,_,h=>by unfold Rep at *;exact h
 |.win id off n,v,_,h=>by unfold Rep at *;exact h
 |.ptr id off,v,_,h=>by unfold Rep at *;exact h
 |.eptr id i sub,v,_,h=>by unfold Rep at *;exact h
 |.dptr cs,v,hf,h=>by simp[Ln]at hf
 |.clo f caps,v,hf,h=>by unfold Rep at *;obtain⟨cs,e,h⟩:=h;exact⟨cs,e,BG.flat caps (by simpa [Ln]using hf) h⟩
 |.bnd f caps,v,hf,h=>by unfold Rep at *;obtain⟨cs,e,h⟩:=h;exact⟨cs,e,BG.flat caps (by simpa [Ln]using hf) h⟩
 |.str _,v,_,h=>by unfold Rep at *;exact h
 |.clip _ _,v,hf,h=>by simp[Ln]at hf
 |.mp id,v,_,h=>by unfold Rep at *;exact h
 |.rowp _ _ _,v,_,h=>by unfold Rep at *;exact h
 |.glob _,v,_,h=>by unfold Rep at *;exact h
 |.nilp,v,_,h=>by unfold Rep at *;exact h
 |.ifc _,v,_,h=>by unfold Rep at *;exact h
 |.aptr _ _,v,_,h=>by unfold Rep at *;exact h
 |.tup vs,v,hf,h=>by unfold Rep at *;obtain⟨us,e,h⟩:=h;exact⟨us,e,BG.flat vs (by simpa [Ln]using hf) h⟩
theorem BG.flat:∀ (cs:List AV) {vs:List Value},LR cs=true->BG w F m H cs vs->BG w F0 m H cs vs
 |[],vs,_,h=>by unfold BG at *;exact h
 |c::cs,vs,hf,h=>by unfold BG at *;simp only[LR,Aau]at hf;obtain⟨v,a,e,b,d⟩:=h;exact⟨v,a,e,Rep.flat c hf.1 b,BG.flat cs hf.2 d⟩
end
def xM(ids:List Nat)(H H2:List Ob)(m m2:Mp):Prop:=∀ j o,H[j]? = some o->H2[ids.getD j 0]? = some (Eo ids o)/\m2 (ids.getD j 0)=m j
theorem GK(f:xM ids H H2 m m2)(Q:Option Ob->Option (Nat×Nat)->Prop)(c:∀ l,¬ Q none l)(a:∀ cs l,Q (some (.box cs)) l->Q (some (.box (K1 ids cs))) l)(b:∀ T t t' d l,Q (some (.prs T t d)) l->Q (some (.prs T t' d)) l)(j:Nat)(h:Q H[j]? (m j)):Q H2[ids.getD j 0]? (m2 (ids.getD j 0)):=by
 cases e:H[j]? with
  |none=>grind
  |some o=>rw[e]at h;obtain⟨g,i⟩:=f j o e;rw[g,i];cases o<;>first|exact h|exact a _ _ h|exact b _ _ _ _ _ h
mutual
theorem Rep.ren(b:xM ids H H2 m m2):∀ (a:AV) {v:Value},Rep w F m H a v->Rep w F m2 H2 (Ew ids a) v
 |.DM,_,_=>by simp only[Ew];unfold Rep;trivial
 |.rowp _ _ _,_,_=>by simp only[Ew];unfold Rep;trivial
 |.glob g,v,h=>by simp only[Ew];unfold Rep at *;exact h
 |.nilp,v,h=>by simp only[Ew];unfold Rep at *;exact h
 |.ifc _,v,h=>by simp only[Ew];unfold Rep at *;exact h
 |.aptr id n,v,h=>by simp only[Ew];unfold Rep at *;exact GK b (fun o l=>G5 o l n v) (fun l h=>h) (fun cs l h=>h) (fun _ _ _ _ l h=>h) id h
 |.data t d,v,h=>by simp only[Ew];unfold Rep at *;exact h
 |.nils _,v,h=>by simp only[Ew];unfold Rep at *;exact h
 |.agg cs,v,h=>by simp only[Ew];unfold Rep at *;obtain⟨vs,e,h,c⟩:=h;exact⟨vs,e,BG.ren b cs h,c⟩
 |.own id,v,h=>by simp only[Ew];unfold Rep at *;exact GK b (fun o l=>By o l v) (fun l h=>h) (fun cs l h=>h) (fun _ _ _ _ l h=>h) id h
 |.win id off n,v,h=>by simp only[Ew];unfold Rep at *;exact GK b (fun o l=>I8 o l off n v) (fun l h=>h) (fun cs l h=>h) (fun _ _ _ _ l h=>h) id h
 |.ptr id off,v,h=>by simp only[Ew];unfold Rep at *;exact GK b (fun o l=>H0 o l off v) (fun l h=>h) (fun cs l h=>h) (fun _ _ _ _ l h=>h) id h
 |.eptr id i sub,v,h=>by simp only[Ew];unfold Rep at *;exact GK b (fun o l=>Dz o l i sub v) (fun l h=>h) (fun cs l h=>h) (fun _ _ _ _ l h=>h) id h
 |.dptr cs,v,h=>by simp only[Ew];unfold Rep at *;obtain⟨ad,us,e,c,k,p,q⟩:=h;refine⟨ad,us,e,fun j=>c (by rintro rfl;exact j rfl),BG.ren b cs k,p,q⟩
 |.clo f caps,v,h=>by simp only[Ew];unfold Rep at *;obtain⟨cs,e,h⟩:=h;exact⟨cs,e,BG.ren b caps h⟩
 |.bnd f caps,v,h=>by simp only[Ew];unfold Rep at *;obtain⟨cs,e,h⟩:=h;exact⟨cs,e,BG.ren b caps h⟩
 |.str _,v,h=>by simp only[Ew];unfold Rep at *;exact h
 |.clip _ _,v,h=>by simp only[Ew];unfold Rep at *;exact h
 |.mp id,v,h=>by simp only[Ew];unfold Rep at *;exact GK b (fun o l=>Oi o l v) (fun l h=>h) (fun cs l h=>h) (fun _ _ _ _ l h=>h) id h
 |.tup vs,v,h=>by simp only[Ew];unfold Rep at *;obtain⟨us,e,h⟩:=h;exact⟨us,e,BG.ren b vs h⟩
theorem BG.ren(b:xM ids H H2 m m2):∀ (cs:List AV) {vs:List Value},BG w F m H cs vs->BG w F m2 H2 (K1 ids cs) vs
 |[],vs,h=>by simp only[K1];unfold BG at *;exact h
 |c::cs,vs,h=>by simp only[K1];unfold BG at *;obtain⟨v,a,e,d,f⟩:=h;exact⟨v,a,e,Rep.ren b c d,BG.ren b cs f⟩
end
theorem AM2(a:Nat)(b:List Int):K1 ids (Ha a b)=Ha (ids.getD a 0) b:=by
 induction b with
  |nil=>rfl
  |cons x xs c=>have:K1 ids (Ha a (x::xs))=Ew ids (.eptr a x.toNat 0)::K1 ids (Ha a xs):=rfl;rw[this,c];rfl
theorem AJb(a:Nat)(b:List Int):LR (Ha a b)=true:=by
 induction b with
  |nil=>rfl
  |cons x xs c=>have:LR (Ha a (x::xs))=(Ln (.eptr a x.toNat 0)&&LR (Ha a xs)):=rfl;rw[this,c];rfl
theorem AA1{i j k:Nat}:∀ {ids:List Nat},Fc ids=true->ids[i]? = some k->ids[j]? = some k->i=j:=by
 intro ids h;have:ids.Nodup:=by
  induction ids with
   |nil=>simp
   |cons a ids d=>simp only[Fc,Aau,Ab8,List.contains_eq_mem,AbX]at h;grind
 intro b c;exact(AdK (E2 b) this).1 (b.trans c.symm)
theorem sS{i:Nat}{o:Ob}:∀ (ids:List Nat) (os:List Ob) (H:List Ob) (j:Nat),Fc ids=true->ids[j]? = some i->os[j]? = some o->i<H.length->(Bq (ids.zip os) H)[i]? = some o:=by
 intro ids;induction ids with
  |nil=>simp
  |cons a ids g=>
   intro os H j b c d e;cases os with
    |nil=>grind
    |cons x os=>
     simp only[Fc,Aau,Ab8,List.contains_eq_mem,AbX]at b;simp only[List.zip_cons_cons,Bq];cases j with
      |zero=>simp only[Abf,Aas]at c d;subst c;subst d;rw[Cb _ _ fun p f => ?_,Adl e];rintro rfl;exact b.1 (List.of_mem_zip f).1
      |succ j=>grind
def Lo:List Nat->Nat->Option Nat
 |[],_=>none
 |x::xs,i=>if x=i then some 0 else(Lo xs i).map (· + 1)
theorem Y1{i j:Nat}:∀ {ids:List Nat},Lo ids i=some j->ids[j]? = some i:=by
 intro ids;induction ids generalizing j with
  |nil=>intro h;simp[Lo]at h
  |cons a ids b=>intro h;simp only[Lo]at h;split at h;grind;rw[Aa0]at h;grind
theorem vd{i:Nat}:∀ {ids:List Nat},Lo ids i=none->i∉ids:=by
 intro ids;induction ids with
  |nil=>simp
  |cons a ids c=>intro h;simp only[Lo]at h;split at h;cases h;rename_i b;rw[Adm]at h;grind
theorem AJf{i j:Nat}{ids:List Nat}(b:Fc ids=true)(h:ids[j]? = some i):Lo ids i=some j:=by
 cases a:Lo ids i with
  |none=>exact absurd (Aay h) (vd a)
  |some k=>rw[AA1 b h (Y1 a)]
def mOf(ids:List Nat)(a m:Mp):Mp
 |.o i=>match Lo ids i with
  |some j=>a j
  |none=>m i
 |.r i k=>m (.r i k)
theorem kQ{fz:List Bool}:∀ {ids:List Nat} {c:List Bnd},Gq H fz ids c=true->∀ {j i:Nat},ids[j]? = some i->c[j]? = some (.whole i)\/((∀ id,c[j]?≠some (.whole id))/\Bi H fz i=true):=by
 intro ids;induction ids with
  |nil=>simp
  |cons a ids g=>
   intro c h j i d;simp only[Gq,Aau]at h;obtain⟨e,k⟩:=h;cases j with
    |zero=>
     simp only[Abf,Aas]at d;subst d;split at e;grind;rename_i f;refine .inr ⟨fun id l => ?_,e⟩;cases c with
      |nil=>grind
      |cons b c=>simp_all
    |succ j=>grind
theorem AJE:∀ (n:Nat) (a:List Bnd) (slot:Nat),(DQ n a slot).length=n:=by
 intro n;induction n with
  |zero=>intro a slot;cases a<;>rfl
  |succ n c=>
   intro a slot;cases a with
    |nil=>simp[DQ,c]
    |cons b a=>cases b<;>simp[DQ,c]
theorem CL(st:St)(v:AV)(l:Loc):(place st v l).heap.length=st.heap.length:=by
 cases l with
  |tmp t=>rfl
  |cell j c=>simp only[place];grind
  |cap t i=>rfl
  |obj j=>rfl
theorem AQA:∀ (its:A1) (d:Bd (leaves its)) (st:St),(enc its d st).heap.length=st.heap.length+Db its:=by
 intro its;induction its with
  |nil=>intro d st;rfl
  |cons p r a=>
   intro d st;obtain⟨l,c⟩:=p;cases c with
    |dat t=>exact(a _ _).trans (by rw[CL];rfl)
    |own T e=>exact(a _ _).trans (by rw[CL];simp[E_,Db];omega)
    |box n=>exact(a _ _).trans (by rw[CL];simp[E_,Db];omega)
    |map k v=>exact(a _ _).trans (by rw[CL];simp[E_,Db];omega)
    |prs T j=>exact(a _ _).trans (by rw[CL];simp[E_,Db];omega)
    |rows T e t=>exact(a _ _).trans (by rw[CL];simp[E_,Db];omega)
    |mrows j e t=>exact(a _ _).trans (by rw[CL];simp[E_,Db];omega)
    |aptr T e n=>exact(a _ _).trans (by rw[CL];simp[E_,Db];omega)
    |aptr' j n=>exact(a _ _).trans (by rw[CL];rfl)
    |bndp f j=>exact(a _ _).trans (by rw[CL];rfl)
    |nilp=>exact(a _ _).trans (by rw[CL];rfl)
    |own' j=>exact(a _ _).trans (by rw[CL];rfl)
    |ptr' j o=>exact(a _ _).trans (by rw[CL];rfl)
    |map' j=>exact(a _ _).trans (by rw[CL];rfl)
    |win' j=>exact(a _ _).trans (by rw[CL];rfl)
    |sub' j=>exact(a _ _).trans (by rw[CL];rfl)
    |clo f b=>exact(a _ _).trans (by rw[CL];rfl)
    |bnd f j=>exact(a _ _).trans (by rw[CL];rfl)
    |nil e=>exact(a _ _).trans (by rw[CL];rfl)
end
end Go.Pev
end
