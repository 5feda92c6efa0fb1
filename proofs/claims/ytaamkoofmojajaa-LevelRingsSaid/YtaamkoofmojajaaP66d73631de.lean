/- A part of the proofs of this seat: PevOps10 PevKeep PevPrs PevOps12 PevMore PevKeys PevKeys2 PevOps11 PevCode PevLocal PevDraw PevDraw2 PevDec PevDec2 PevFlow PevFlow2 PevCall PevCall2 PevCall3 PevCall4 PevTop PevClone. -/
import Derived.Test.YtaamkoofmojajaaP94a61ea667
import Derived.IntWalk
import Derived.Laws.StructEq
import Derived.Laws.BytesArg
import Derived.LoopN
import Derived.Laws.Sem
import Derived.KernelRfl
import Derived.Lib.SliceRun
set_option linter.unusedVariables false
set_option linter.unusedSimpArgs false
set_option linter.unusedSectionVars false
set_option maxRecDepth 100000
section
namespace Go.Pev
open Go.RowKit
section
variable {P:Program} {E:Env}
theorem AKb{H:List Ob}{fz:List Bool}{slot id:Nat}{T:TypeId}{t:Ty}{xs:List t.den}(hf:Ay H fz slot=true)(ho:H[id]? = some (.arr T t xs)):slot≠id:=by
 rintro rfl
 rw[(BP hf).1]at ho;cases ho
theorem IC{w:World}{F:Nat→Prop}{m:Mp}{H:List Ob}{fz:List Bool}(hi:HI w F m H fz){slot:Nat}(hf:Ay H fz slot=true){T e ty:TypeId}{t:Ty}{i:TypeInfo}{z:Value}(hu:P.underlying T=some (.slice e))
  (hi0:P.info? e=some i) (hz:i.zero=some z) (hzs:z.cells.size=i.size) (hsz:i.size=t.size) (hpos:0<t.size) (hby:i.bytes≤1024) {ys:List t.den} (hfit:ys.length≤4294967296) (a:Option Addr)
  {A:Option Addr} {c:Nat} {news:List Value} (hA:ys≠[]→A.isSome=true) (hrows:rows (Dat w F t) ys news) (hnews:∀ ad,A=some ad→∀ j u,news[j]? = some u→w.cell? (ad.add j)=some u) :
  ∃ v w' m',(Builtin.append_ #[T,T] ty #[.slice a 0 0,.slice A ys.length c]).run P w = .ok v w'∧At w F m H fz w' F m' (H.set slot (.arr e t ys)) fz∧Rep w' F m' (H.set slot (.arr e t ys)) (.own slot) v:=by
 have hk:=fun(x:t.den) cs (h:Dat w F t x cs)=>Dat.length t h
 have hl:=BF hk hrows
 obtain⟨v,w',hrun,h1,h2,h3,h4,h5,h6⟩:=JN (P:=P) (w:=w) (ty:=ty) hu hi0 hz hzs a (A:=A) (m:=ys.length) (c:=c) (news:=news) (by rw[hl,hsz]) (fun h=>hA (by rintro rfl;simp at h)) hnews hfit hby
 rcases h6 with⟨h0,rfl⟩|⟨cap',vs,rfl,q1,q2,q3,q4,q5⟩
 ·have hy:ys=[]:=AUr h0
  subst hy
  have hgw:=At.grow hi h1 h2 h3 h4 h5
  obtain⟨m',hg,hrep⟩:=GL hgw.2 hf e hpos a
  exact⟨_,w',m',hrun,hgw.trans hg,hrep⟩
 ·obtain⟨m',hg,hrep⟩:=Fa hi hf hpos q1 h1 h2 h3 h4 h5 q2 q3 (by rw[q4,hsz]) hrows (by rw[hl,← hsz];exact q5)
  exact⟨_,w',m',hrun,hg,hrep⟩
theorem P5{w:World}{F:Nat→Prop}{m:Mp}{H:List Ob}{fz:List Bool}(hi:HI w F m H fz){slot:Nat}(hf:Ay H fz slot=true){T e ty:TypeId}{t:Ty}{i:TypeInfo}{z:Value}(hu:P.underlying T=some (.slice e))
  (hi0:P.info? e=some i) (hz:i.zero=some z) (hzs:z.cells.size=i.size) (hsz:i.size=t.size) (hpos:0<t.size) (hby:i.bytes≤1024) {id:Nat} {xs:List t.den} (ho:H[id]? = some (.arr e t xs)) (hun:Au fz id=true)
  {b cap:Nat} (hm:m id=some (b,cap)) {n:Nat} (hn:n≤xs.length) {ys:List t.den} (hfit:n+ys.length≤4294967296)
  {A:Option Addr} {c:Nat} {news:List Value} (hA:ys≠[]→A.isSome=true) (hrows:rows (Dat w F t) ys news) (hnews:∀ ad,A=some ad→∀ j u,news[j]? = some u→w.cell? (ad.add j)=some u) :
  ∃ v w' m',(Builtin.append_ #[T,T] ty #[.slice (some ⟨b,0,none⟩) n cap,.slice A ys.length c]).run P w = .ok v w' ∧
   At w F m H fz w' F m' ((H.set id .dead).set slot (.arr e t (xs.take n++ys))) fz∧Rep w' F m' ((H.set id .dead).set slot (.arr e t (xs.take n++ys))) (.own slot) v:=by
 have hk:=fun(x:t.den) cs (h:Dat w F t x cs)=>Dat.length t h
 have hl:=BF hk hrows
 obtain⟨_,hob⟩:=hi.obj id _ ho
 rw[hm]at hob
 obtain⟨vs,row,e1,e2,e3,e4,e5,e6⟩:=hob
 have hrl:=BF hk e5
 have hold:vs.toList.take (n*i.size)=row.take (n*t.size):=by
  rw[← e6,AWa,hsz,AVe (by rw[hrl];exact AU8 _ hn)]
 obtain⟨v,w',hrun,hgr⟩:=VN (P:=P) (w:=w) (ty:=ty) hu hi0 hz hzs (by omega) e1 (n:=n) (by omega) e3 (by rw[e4,hsz]) (A:=A) (m:=ys.length) (c:=c) (news:=news) (by rw[hl,hsz]) (fun h=>hA (by rintro rfl;simp at h)) hnews
  (fun u hu=>R0 (fun x cs (h:Dat w F t x cs)=>Dat.Gk t h) hrows u hu) hfit hby
 rw[hold]at hgr
 have hlen:(xs.take n++ys).length=n+ys.length:=by rw[AUb,AUq];omega
 have hr0:=Ik (EF hk n e5) hrows
 have hcell:∀ a:Addr,F a.block→w'.cell? a=w.cell? a:=fun a ha=>by
  have h1:a.block≠b:=by rintro h;exact hi.off id b cap (Cf ho hun) hm (h▸ha)
  simp[World.cell?,hgr.keep _ (hi.lt _ ha) (fun b' h=>by cases h;exact h1)]
 have hlts:=Ap (BP hf).1
 have hgs:((H.set id .dead).set slot (.arr e t (xs.take n++ys)))[slot]? = some (.arr e t (xs.take n++ys)):=BK (by simpa using hlts)
 have main:∀ (g cap':Nat) (vs':Array Value),(w.heap.size≤g∨g=b)→w'.heap[g]? = some (.cells vs' e (0,0))→n+ys.length≤cap'→cap'≤maxLen→vs'.size=cap'*t.size→vs'.toList.take ((n+ys.length)*t.size)=row.take (n*t.size)++news →
   ∃ m',At w F m H fz w' F m' ((H.set id .dead).set slot (.arr e t (xs.take n++ys))) fz∧Rep w' F m' ((H.set id .dead).set slot (.arr e t (xs.take n++ys))) (.own slot) (.slice (some ⟨g,0,none⟩) (n+ys.length) cap'):=by
  intro g cap' vs' hg q1 q2 q3 q4 q5
  have:=At.move (w':=w') hi (Cf ho hun) hm hf (ob:=.arr e t (xs.take n++ys)) trivial (b':=g) (c':=cap') hg.symm hgr.os hgr.tape hgr.output hgr.size (fun k hk hne=>hgr.keep k hk (fun b' h=>by cases h;exact hne))
   (fun _=>⟨hpos,vs',row.take (n*t.size)++news,q1,by rw[hlen];exact q2,q3,q4,BJ (fun x _ cs hx=>hx.mono hcell (fun _ h=>h) t) hr0,by
    have:(row.take (n*t.size)++news).length=(n+ys.length)*t.size:=by rw[BF hk hr0,hlen]
    rw[this];exact q5⟩)
  refine⟨_,this,?_⟩
  unfold Rep
  rw[hgs,An,← hlen]
  rfl
 rcases hgr.res with⟨h0,rfl,rfl⟩|⟨g,cap',vs',rfl,q1,q2,q3,q4,q5,q6⟩
 ·have hy:ys=[]:=AUr h0
  subst hy
  obtain⟨m',hg,hrep⟩:=main b cap vs (.inr rfl) e1 (by simp;omega) e3 e4 (by
   cases hrows
   rw[AVk,AU3,AVi]
   rw[hsz]at hold
   exact hold)
  exact⟨_,_,m',hrun,hg,by simpa using hrep⟩
 ·obtain⟨m',hg,hrep⟩:=main g cap' vs' (by rcases q6 with h|h;exact .inl h;cases h;exact .inr rfl) q1 q2 q3 (by rw[q4,hsz]) (by rw[← hsz]at *;exact q5)
  exact⟨_,_,m',hrun,hg,hrep⟩
theorem AAv{w w':World}{ρc:Operand→Value}{o:Oper}{T T':TypeId}{s x:Operand}{v n u:Value}(hop:o.op = .call { callee:=.builtin .append,args:=#[s,x],argTypes:=#[T,T'] })(e1:ρc s=v)(e2:ρc x=n)
  (hrun:(Builtin.append_ #[T,T'] o.type #[v,n]).run P w = .ok u w'):(execOp ρc o).run P w = .ok (.value u) w':=by simp[execOp,hop,resolve,invoke,builtin,e1,e2,hrun]
theorem AFe{w:World}{F:Nat→Prop}{m:Mp}{H:List Ob}{fz:List Bool}(hi:HI w F m H fz){slot:Nat}(hf:Ay H fz slot=true){T T' e ty:TypeId}{t:Ty}{i:TypeInfo}{z:Value}(hu:P.underlying T=some (.slice e))
  (hi0:P.info? e=some i) (hz:i.zero=some z) (hok:Bc (zeroCells t) z.cells.toList=true) (hsz:i.size=t.size) (hpos:0<t.size) (hby:i.bytes≤1024) {kt kx:IntKind} (hk:P.underlying T'=some (.int kt)) {n:Nat} (hfit:n≤4294967296) :
  ∃ v w' m',(Builtin.append_ #[T,T'] ty #[.slice none 0 0,.int kx n]).run P w = .ok v w'∧At w F m H fz w' F m' (H.set slot (.arr e t (List.replicate n t.zero))) fz∧Rep w' F m' (H.set slot (.arr e t (List.replicate n t.zero))) (.own slot) v:=by
 have hzd:=B9 (w:=w) (F:=F) t _ hok
 have hzl:z.cells.size=t.size:=by rw[← AUi];exact Dat.length t hzd
 have hw:IntKind.i64.wrap (n:Int)=n:=IntWalk.i64_in _ (by omega)
 have hbb:(n:Int)*(i.bytes:Int)≤281474976710656:=by
  have:n*i.bytes≤4294967296*1024:=AWb hfit hby
  have h2:((n*i.bytes:Nat):Int)≤281474976710656:=by omega
  rwa [Int.natCast_mul]at h2
 rcases AVZ n with h0|h0
 ·subst h0
  obtain⟨m',hg,hrep⟩:=GL (w:=w) hi hf e hpos none
  refine⟨.slice none 0 0,w,m',?_,by simpa using hg,by simpa using hrep⟩
  have hw0:IntKind.i64.wrap 0=0:=hw
  simp[Builtin.append_,run_underlying hu,run_underlying hk,sizeOf,typeInfo,hi0,asInt,asIntOf,hw0]
 ·have hge:=grownCap_ge w n 0 e
  have hle:=grownCap_le_maxLen w n 0 e (by simp only[maxLen];omega)
  have hrows:=Dw (w:=w) (F:=F) hzd n
  have hrl:=BF (fun x cs (h:Dat w F t x cs)=>Dat.length t h) hrows
  rw[AVm]at hrl
  have hcells:∀ k,(Builtin.zeroCells z.cells k).toList=(List.replicate k z.cells.toList).flatten:=C7 z.cells
  have hrun:(Builtin.append_ #[T,T'] ty #[.slice none 0 0,.int kx n]).run P w = .ok (.slice (some ⟨w.heap.size,0,none⟩) n (grownCap w n 0 e)) (w.drew.alloc (.cells (Builtin.zeroCells z.cells n++Builtin.zeroCells z.cells (grownCap w n 0 e-n)) e)):=by
   have hn:n≠0:=by omega
   have hn2:¬ ((n:Int)<0):=by omega
   have hn3:¬ (281474976710656<(n:Int)*(i.bytes:Int)):=by omega
   have h63':¬ (9223372036854775807<(n:Int)):=by omega
   have h48':¬ (281474976710656<Builtin.nextslicecap n 0*i.bytes):=by
    rw[nextslicecap_zero h0]
    have:n*i.bytes≤4294967296*1024:=AWb hfit hby
    omega
   have hsz0:¬ (i.size=0):=by omega
   simp[Builtin.append_,run_underlying hu,run_underlying hk,sizeOf,typeInfo,zeroValue,hi0,hz,asInt,asIntOf,hw,hn,hn2,hn3,h63',h48',Question.forced,run_firstCells_none,newRow,grownCap]
   intro h
   have:n*i.size≠0:=Nat.mul_ne_zero hn hsz0
   omega
  obtain⟨m',hg,hrep⟩:=Fa hi hf (w':=w.drew.alloc (.cells (Builtin.zeroCells z.cells n++Builtin.zeroCells z.cells (grownCap w n 0 e-n)) e)) hpos (xs:=List.replicate n t.zero) (heap_alloc_new w.drew _) rfl rfl rfl (by simp) (fun b hb=>heap_alloc_old w.drew _ b hb)
   (cap:=grownCap w n 0 e) (by simpa using hge) hle (by
    rw[Array.size_append,size_zeroCells,size_zeroCells,hzl,← AVJ];congr 1;omega) hrows (by
    rw[hrl,AWO,hcells,← hrl,AWt])
  rw[AVm]at hrep
  exact⟨_,_,m',hrun,hg,hrep⟩
end
end Go.Pev
end
section
namespace Go.Pev
open Go.RowKit
section
variable {P:Program}
theorem WN{H:List Ob}{fz:List Bool}{ids:List Nat}{i:Nat}(h:owned H (Ag ids fz) i):owned H fz i:=by
 unfold owned at *
 cases ho:H[i]? with
 |none=>rw[ho]at h;exact h.elim
 |some o=>
  rw[ho]at h
  cases o with
  |free=>exact h.elim
  |dead=>exact h.elim
  |box cs=>trivial
  |map k v es=>trivial
  |prs T t is=>trivial
  |arr T t xs=>
   simp only at h ⊢
   rw[Ax]at h
   simp only[Bool.or_eq_false_iff]at h
   exact h.1
theorem Xa{w w':World}{F:Nat→Prop}{m:Mp}{H:List Ob}{fz:List Bool}(hi:HI w F m H fz){id:Nat}{e:TypeId}{t:Ty}{xs:List t.den}(ho:H[id]? = some (.arr e t xs))(hun:Au fz id=true)
  (os:w'.os=w.os) (tape:w'.tape=w.tape) (output:w'.output=w.output) (size:w.heap.size≤w'.heap.size) (G:Nat→Prop)
  (hG:∀ k,G k→k<w'.heap.size∧((∃ c,m id=some (k,c))∨w.heap.size≤k)) (hb:∀ b c,m id=some (b,c)→G b)
  (hkeep:∀ k,k<w.heap.size→(∀ c,m id≠some (k,c))→w'.heap[k]? = w.heap[k]?)
  (hob:ObI w' (fun k=>F k∨G k) m H (.arr e t xs) (m id)):At w F m H fz w' (fun k=>F k∨G k) m H (Ag [id] fz):=by
 have hid:=Cf ho hun
 have hown:∀ i,owned H (Ag [id] fz) i→owned H fz i∧i≠id:=by
  intro i h
  refine⟨WN h,?_⟩
  rintro rfl
  unfold owned at h
  rw[ho]at h
  simp only at h
  rw[Ax]at h
  have hl:i<fz.length:=by rw[← hi.len];exact Ap ho
  simp[hl]at h
 have hcell:∀ a:Addr,F a.block→w'.cell? a=w.cell? a:=fun a ha=>by
  simp[World.cell?,hkeep _ (hi.lt _ ha) (fun c hc=>hi.off id _ c hid hc ha)]
 refine⟨⟨os,tape,output,size,fun b hb' hne=>hkeep b hb' (fun c hc=>hne id c hid hc),fun _ h=>.inl h,?_,fun i b c h1 h2=>.inl ⟨i,c,(hown i h1).1,h2⟩,Cc.refl H m⟩,⟨?_,?_,?_,?_,?_,by rw[CL];exact hi.len⟩⟩
 ·rintro b (h|h)
  ·exact .inl h
  ·rcases(hG b h).2 with⟨c,hc⟩|h
   ·exact .inr (.inl ⟨id,c,hid,hc⟩)
   ·exact .inr (.inr h)
 ·intro j o hj
  by_cases hji:j=id
  ·subst hji;rw[ho]at hj;cases hj;exact hob
  ·exact ObI.mono hcell (fun _ h=>.inl h) (Cc.refl H m) (fun hf hd b c hl hlt=>hkeep b hlt (fun c' hc'=>hi.ne hid hc' hj hf hd hl hji rfl)) (hi.obj j o hj)
 ·exact fun i j b c b' c' h1 h2=>hi.sep i j b c b' c' (hown i h1).1 (hown j h2).1
 ·rintro i b c h1 h2 (hF|hg)
  ·exact hi.off i b c (hown i h1).1 h2 hF
  ·rcases(hG b hg).2 with⟨c',hc'⟩|h
   ·exact hi.sep i id b c b c' (hown i h1).1 hid (hown i h1).2 h2 hc' rfl
   ·have:=hi.I4 (hown i h1).1 h2;omega
 ·intro i T t' xs' b c hio hf hmi
  by_cases hii:i=id
  ·subst hii;exact .inr (hb b c hmi)
  ·refine .inl (hi.froz i T t' xs' b c hio ?_ hmi)
   rw[Ax]at hf
   simpa [hii]using hf
 ·rintro b (h|h)
  ·exact AVn (hi.lt b h) size
  ·exact(hG b h).1
theorem AQv{w':World}{F':Nat→Prop}{m:Mp}{H:List Ob}{g cap:Nat}{vs:Array Value}{e:TypeId}{t:Ty}{zs:List t.den}{row:List Value}(hg:w'.heap[g]? = some (.cells vs e (0,0)))(ht:vs.toList.take row.length=row)
  (hrows:rows (Dat w' F' t) zs row) (hle:zs.length≤cap) (hF:F' g) {n:Nat} (hn:n=zs.length):Rep w' F' m H (.data (.slice t) zs) (.slice (some ⟨g,0,none⟩) n cap):=by
 subst hn
 unfold Rep
 show Dat w' F' (.slice t) zs [_]
 refine⟨some ⟨g,0,none⟩,cap,rfl,hle,fun _=>⟨⟨g,0,none⟩,row,rfl,hF,hrows,fun j u hj => ?_⟩⟩
 rw[Addr.add_lit,AVL]
 have hj':vs.toList[j]? = some u:=by
  rw[← ht,AVY]at hj
  split at hj
  ·exact hj
  ·cases hj
 rw[AWB]at hj'
 simp[World.cell?,hg,hj']
theorem AFf{w:World}{F:Nat→Prop}{m:Mp}{H:List Ob}{fz:List Bool}(hi:HI w F m H fz){T e ty:TypeId}{t:Ty}{i:TypeInfo}{z:Value}(hu:P.underlying T=some (.slice e))
  (hi0:P.info? e=some i) (hz:i.zero=some z) (hzs:z.cells.size=i.size) (hsz:i.size=t.size) (hpos:0<t.size) (hby:i.bytes≤1024) {id:Nat} {xs:List t.den} (ho:H[id]? = some (.arr e t xs)) (hun:Au fz id=true)
  {ys:List t.den} (hfit:xs.length+ys.length≤4294967296)
  {A:Option Addr} {c:Nat} {news:List Value} (hA:ys≠[]→A.isSome=true) (hrows:rows (Dat w F t) ys news) (hnews:∀ ad,A=some ad→∀ j u,news[j]? = some u→w.cell? (ad.add j)=some u)
  {s:Value} (hs:Rep w F m H (.own id) s) :
  ∃ v w' F',(Builtin.append_ #[T,T] ty #[s,.slice A ys.length c]).run P w = .ok v w'∧At w F m H fz w' F' m H (Ag [id] fz)∧Rep w' F' m H (.data (.slice t) (xs++ys)) v:=by
 have hk:=fun(x:t.den) cs (h:Dat w F t x cs)=>Dat.length t h
 have hl:=BF hk hrows
 have hid:=Cf ho hun
 unfold Rep at hs
 rw[ho]at hs
 have hob:=hi.obj id _ ho
 obtain⟨_,hob'⟩:=hob
 cases hm:m id with
 |none=>
  rw[hm]at hs hob'
  obtain⟨a,rfl⟩:=hs
  simp only at hob'
  subst hob'
  obtain⟨v,w',hrun,h1,h2,h3,h4,h5,h6⟩:=JN (P:=P) (w:=w) (ty:=ty) hu hi0 hz hzs a (A:=A) (m:=ys.length) (c:=c) (news:=news) (by rw[hl,hsz]) (fun h=>hA (by rintro rfl;simp at h)) hnews (by simpa using hfit) hby
  have hg:=Xa (w':=w') hi ho hun h1 h2 h3 h4 (fun k=>k=w.heap.size∧k<w'.heap.size) (fun k hk=>⟨hk.2,.inr (Nat.le_of_eq hk.1.symm)⟩) (fun b c h=>by rw[hm]at h;cases h) (fun k hk _=>h5 k hk) (by
   rw[hm];exact⟨hpos,rfl⟩)
  refine⟨v,w',_,hrun,hg,?_⟩
  rw[AVA]
  rcases h6 with⟨h0,rfl⟩|⟨cap',vs,rfl,q1,q2,q3,q4,q5⟩
  ·have hy:ys=[]:=AUr h0
   subst hy
   unfold Rep
   exact⟨a,0,rfl,AUV _,fun h=>absurd rfl h⟩
  ·have hcell:∀ a:Addr,F a.block→w'.cell? a=w.cell? a:=fun a ha=>by simp[World.cell?,h5 _ (hi.lt _ ha)]
   exact AQv q1 (by rw[hl,← hsz];exact q5) (BJ (fun x _ cs hx=>hx.mono hcell (fun _ h=>.inl h) t) hrows) q2 (.inr ⟨rfl,BG q1⟩) rfl
 |some p=>
  obtain⟨b,cap⟩:=p
  rw[hm]at hs hob'
  simp only[BU]at hs
  obtain⟨vs,row,e1,e2,e3,e4,e5,e6⟩:=hob'
  subst hs
  have hrl:=BF hk e5
  have hblt:b<w.heap.size:=BG e1
  have hG:∀ (w':World),w.heap.size≤w'.heap.size→∀ k,(k=b∨(k=w.heap.size∧k<w'.heap.size))→k<w'.heap.size∧((∃ c,m id=some (k,c))∨w.heap.size≤k):=by
   rintro w' h k (rfl|⟨h1,h2⟩)
   ·exact⟨AVn hblt h,.inl ⟨cap,hm⟩⟩
   ·exact⟨h2,.inr (Nat.le_of_eq h1.symm)⟩
  have main:∀ (w':World) (vs0:Array Value),w'.os=w.os→w'.tape=w.tape→w'.output=w.output→w.heap.size≤w'.heap.size→(∀ k,k<w.heap.size→k≠b→w'.heap[k]? = w.heap[k]?)→w'.heap[b]? = some (.cells vs0 e (0,0))→vs0.size=cap*t.size→vs0.toList.take row.length=row →
    (∀ a:Addr,F a.block→w'.cell? a=w.cell? a)∧At w F m H fz w' (fun k=>F k∨(k=b∨(k=w.heap.size∧k<w'.heap.size))) m H (Ag [id] fz):=by
   intro w' vs0 h1 h2 h3 h4 h5 h6 h7 h8
   have hcell:∀ a:Addr,F a.block→w'.cell? a=w.cell? a:=fun a ha=>by
    have h:a.block≠b:=by rintro h;exact hi.off id b cap hid hm (h▸ha)
    simp[World.cell?,h5 _ (hi.lt _ ha) h]
   refine⟨hcell,Xa hi ho hun h1 h2 h3 h4 _ (hG w' h4) (fun b' c' h=>by rw[hm]at h;cases h;exact .inl rfl) (fun k hk hne=>h5 k hk (by rintro rfl;exact hne cap hm)) ?_⟩
   rw[hm]
   exact⟨hpos,vs0,row,h6,e2,e3,h7,BJ (fun x _ cs hx=>hx.mono hcell (fun _ h=>.inl h) t) e5,h8⟩
  have hrr:=Ik e5 hrows
  have hlen:(row++news).length=(xs.length+ys.length)*t.size:=by rw[AUb,hrl,hl,AVJ]
  have fin:∀ (w':World) (g cap':Nat) (vs':Array Value),(∀ a:Addr,F a.block→w'.cell? a=w.cell? a)→(g=b∨(g=w.heap.size∧g<w'.heap.size))→w'.heap[g]? = some (.cells vs' e (0,0))→xs.length+ys.length≤cap'→vs'.toList.take (row++news).length=row++news →
    Rep w' (fun k=>F k∨(k=b∨(k=w.heap.size∧k<w'.heap.size))) m H (.data (.slice t) (xs++ys)) (.slice (some ⟨g,0,none⟩) (xs.length+ys.length) cap'):=by
   intro w' g cap' vs' hcell hg hgv hle htk
   exact AQv hgv htk (BJ (fun x _ cs hx=>hx.mono hcell (fun _ h=>.inl h) t) hrr) (by simpa using hle) (.inr hg) (by simp)
  cases A with
  |none=>
   have hy:ys=[]:=by
    cases ys with
    |nil=>rfl
    |cons a b=>exact absurd (hA (by simp)) (by simp)
   subst hy
   obtain⟨hc,hgo⟩:=main w vs rfl rfl rfl (AUV _) (fun _ _ _=>rfl) e1 e4 e6
   have hn0:news=[]:=AUr (by rw[hl];simp)
   subst hn0
   exact⟨_,w,_,FH hu hi0 _ e2 none c,hgo,fin w b cap vs hc (.inl rfl) e1 (by simpa using e2) (by simpa using e6)⟩
  |some ad=>
   have hone:∀ u∈news,u.oneCell'=true:=fun u hu=>R0 (fun x cs (h:Dat w F t x cs)=>Dat.Gk t h) hrows u hu
   by_cases hroom:xs.length+ys.length≤cap
   ·have hnl:news.length=ys.length*i.size:=by rw[hl,hsz]
    have hsum:xs.length*i.size+news.length≤vs.size:=by
     rw[hnl,e4,hsz,← AVJ];exact AU8 _ hroom
    have hr:=run_append_room (P:=P) w T ty e i hu hi0 b xs.length cap vs e1 ad ys.length c news hnl (hnews ad rfl) hone hroom hsum
    have hrow:vs.toList.take (xs.length*i.size)=row:=by rw[hsz,← hrl];exact e6
    rw[hrow]at hr
    obtain⟨hc,hgo⟩:=main (w.setRow b (row++news++vs.toList.drop (xs.length*i.size+news.length)).toArray) (row++news++vs.toList.drop (xs.length*i.size+news.length)).toArray rfl rfl rfl (by simp) (fun k _ hk=>setRow_other w b k _ hk) (setRow_heap w b vs (row++news++vs.toList.drop (xs.length*i.size+news.length)).toArray e _ e1) (by
     simp only[AWY,AUb,AVD,AUi]
     rw[hrl,e4]
     rw[hsz]at hsum ⊢
     rw[e4]at hsum
     omega) (by rw[AVc];exact AWt)
    exact⟨_,_,_,hr,hgo,fin _ b cap _ hc (.inl rfl) (setRow_heap w b vs _ e _ e1) hroom (by exact AWt)⟩
   ·have hbytes:(xs.length+ys.length)*i.bytes≤140737488355328:=AVT (AWb hfit hby) (by omega)
    have holds:∀ j u,row[j]? = some u→w.cell? ((⟨b,0,none⟩:Addr).add j)=some u:=fun j u hj=>by
     rw[Addr.add_lit,AVL]
     have hj':vs.toList[j]? = some u:=by
      rw[← e6,AVY]at hj
      split at hj
      ·exact hj
      ·cases hj
     rw[AWB]at hj'
     simp[World.cell?,e1,hj']
    have hr:=run_append_grow (P:=P) w T ty e i z hu hi0 hz ⟨b,0,none⟩ xs.length cap row (by rw[hrl,hsz]) holds ad ys.length c news (by rw[hl,hsz]) (hnews ad rfl) (by omega) (by omega) (growslice_fits (by omega) hbytes)
    obtain⟨hc,hgo⟩:=main (w.drew.alloc (.cells (row.toArray++news.toArray++Builtin.zeroCells z.cells (grownCap w (xs.length+ys.length) cap e-(xs.length+ys.length))) e)) vs rfl rfl rfl (by simp) (fun k hk _=>heap_alloc_old w.drew _ k hk) ((heap_alloc_old w.drew _ b hblt).trans e1) e4 e6
    have hge:=grownCap_ge w (xs.length+ys.length) cap e
    exact⟨_,_,_,hr,hgo,fin _ w.heap.size _ _ hc (.inr ⟨rfl,BG (heap_alloc_new w.drew _)⟩) (heap_alloc_new w.drew _) hge (by
     rw[AWO,AWO];exact AWt)⟩
end
end Go.Pev
end
section
namespace Go.Pev
open Go.RowKit
section
variable {P:Program}
theorem ATE{w:World}{F:Nat→Prop}{m:Mp}{H:List Ob}{fz:List Bool}(hi:HI w F m H fz){id:Nat}{T:TypeId}{tgt:Nat}{is:List Int}(ho:H[id]? = some (.prs T tgt is)){v:Value}(hv:Rep w F m H (.own id) v):
  ∃ A c,v = .slice A is.length c∧(is≠[]→A.isSome=true)∧∃ us,AW w F m H (EH tgt is) us∧(∀ u∈us,u.oneCell'=true)∧∀ ad,A=some ad→∀ j u,us[j]? = some u→w.cell? (ad.add j)=some u:=by
 have hob:=hi.obj id _ ho
 unfold Rep at hv
 rw[ho]at hv
 cases hm:m id with
 |none=>
  rw[hm]at hv hob
  obtain⟨a,rfl⟩:=hv
  have hob:is=[]:=hob
  subst hob
  exact⟨a,0,rfl,fun h=>absurd rfl h,[],by show AW w F m H [] [];unfold AW;rfl,(by simp),fun _ _ j u h=>by simp at h⟩
 |some p=>
  obtain⟨b,cap⟩:=p
  rw[hm]at hv hob
  simp only[BU]at hv
  obtain⟨vs,us,e1,e2,e3,e4,e5,e6,e7⟩:=hob
  refine⟨some ⟨b,0,none⟩,cap,hv,fun _=>rfl,us,e5,e6,fun ad h j u hu => ?_⟩
  cases h
  rw[Ch,DE e1]
  have:=CD e7 hu
  rw[← this];congr 1;omega
theorem Hb{w:World}{F:Nat→Prop}{m:Mp}{H:List Ob}{fz:List Bool}(hi:HI w F m H fz){slot:Nat}(hf:Ay H fz slot=true){T e ty:TypeId}{i:TypeInfo}{z:Value}(hu:P.underlying T=some (.slice e))
  (hi0:P.info? e=some i) (hz:i.zero=some z) (hzs:z.cells.size=1) (hsz:i.size=1) (hby:i.bytes≤1024) {tgt:Nat} {ys:List Int} (hfit:ys.length≤4294967296) (a:Option Addr)
  {A:Option Addr} {c:Nat} {news:List Value} (hA:ys≠[]→A.isSome=true) (hr:AW w F m H (EH tgt ys) news) (hone:∀ u∈news,u.oneCell'=true) (hnews:∀ ad,A=some ad→∀ j u,news[j]? = some u→w.cell? (ad.add j)=some u) :
  ∃ v w' m',(Builtin.append_ #[T,T] ty #[.slice a 0 0,.slice A ys.length c]).run P w = .ok v w'∧At w F m H fz w' F m' (H.set slot (.prs e tgt ys)) fz∧Rep w' F m' (H.set slot (.prs e tgt ys)) (.own slot) v:=by
 have hl:news.length=ys.length:=by rw[Am hr,SB]
 obtain⟨v,w',hrun,h1,h2,h3,h4,h5,h6⟩:=JN (P:=P) (w:=w) (ty:=ty) hu hi0 hz (by rw[hzs,hsz]) a (A:=A) (m:=ys.length) (c:=c) (news:=news) (by rw[hl,hsz];omega) (fun h=>hA (by rintro rfl;simp at h)) hnews hfit hby
 rcases h6 with⟨h0,rfl⟩|⟨cap',vs,rfl,q1,q2,q3,q4,q5⟩
 ·have hy:ys=[]:=AUr h0
  subst hy
  have hgw:=At.grow hi h1 h2 h3 h4 h5
  obtain⟨m',hg,hrep⟩:=WZ hgw.2 hf e tgt a
  exact⟨_,w',m',hrun,hgw.trans hg,hrep⟩
 ·obtain⟨m',hg,hrep⟩:=MJ hi hf q1 h1 h2 h3 h4 h5 q2 q3 (by rw[q4,hsz];omega) hr hone (by rw[hsz,Nat.mul_one]at q5;rw[hl];exact q5)
  exact⟨_,w',m',hrun,hg,hrep⟩
theorem Qg{w:World}{F:Nat→Prop}{m:Mp}{H:List Ob}{fz:List Bool}(hi:HI w F m H fz){slot:Nat}(hf:Ay H fz slot=true){T e ty:TypeId}{i:TypeInfo}{z:Value}(hu:P.underlying T=some (.slice e))
  (hi0:P.info? e=some i) (hz:i.zero=some z) (hzs:z.cells.size=1) (hsz:i.size=1) (hby:i.bytes≤1024) {tgt id:Nat} {xs:List Int} (ho:H[id]? = some (.prs e tgt xs))
  {b cap:Nat} (hm:m id=some (b,cap)) {ys:List Int} (hfit:xs.length+ys.length≤4294967296)
  {A:Option Addr} {c:Nat} {news:List Value} (hA:ys≠[]→A.isSome=true) (hr:AW w F m H (EH tgt ys) news) (hone:∀ u∈news,u.oneCell'=true) (hnews:∀ ad,A=some ad→∀ j u,news[j]? = some u→w.cell? (ad.add j)=some u) :
  ∃ v w' m',(Builtin.append_ #[T,T] ty #[.slice (some ⟨b,0,none⟩) xs.length cap,.slice A ys.length c]).run P w = .ok v w' ∧
   At w F m H fz w' F m' ((H.set id .dead).set slot (.prs e tgt (xs++ys))) fz∧Rep w' F m' ((H.set id .dead).set slot (.prs e tgt (xs++ys))) (.own slot) v:=by
 have hl:news.length=ys.length:=by rw[Am hr,SB]
 have hob:=hi.obj id _ ho
 rw[hm]at hob
 obtain⟨vs,us,e1,e2,e3,e4,e5,e6,e7⟩:=hob
 have hul:us.length=xs.length:=by rw[Am e5,SB]
 have hold:vs.toList.take (xs.length*i.size)=us:=by rw[hsz,Nat.mul_one,← hul];exact e7
 obtain⟨v,w',hrun,hgr⟩:=VN (P:=P) (w:=w) (ty:=ty) hu hi0 hz (by rw[hzs,hsz]) (by omega) e1 (n:=xs.length) e2 e3 (by rw[e4,hsz];omega) (A:=A) (m:=ys.length) (c:=c) (news:=news) (by rw[hl,hsz];omega) (fun h=>hA (by rintro rfl;simp at h)) hnews
  hone hfit hby
 rw[hold]at hgr
 have hlen:(xs++ys).length=xs.length+ys.length:=AUb ..
 have hr0:AW w F m H (EH tgt (xs++ys)) (us++news):=by rw[AOy];exact E9 e5 hr
 have hone0:∀ u∈us++news,u.oneCell'=true:=fun u hu=>by
  rcases AUQ.1 hu with h|h
  ·exact e6 u h
  ·exact hone u h
 have hlts:=Ap (BP hf).1
 have hgs:((H.set id .dead).set slot (.prs e tgt (xs++ys)))[slot]? = some (.prs e tgt (xs++ys)):=BK (by simpa using hlts)
 have hnl:(us++news).length=xs.length+ys.length:=by rw[AUb,hul,hl]
 have main:∀ (g cap':Nat) (vs':Array Value),(w.heap.size≤g∨g=b)→w'.heap[g]? = some (.cells vs' e (0,0))→xs.length+ys.length≤cap'→cap'≤maxLen→vs'.size=cap'→vs'.toList.take (xs.length+ys.length)=us++news →
   ∃ m',At w F m H fz w' F m' ((H.set id .dead).set slot (.prs e tgt (xs++ys))) fz∧Rep w' F m' ((H.set id .dead).set slot (.prs e tgt (xs++ys))) (.own slot) (.slice (some ⟨g,0,none⟩) (xs.length+ys.length) cap'):=by
  intro g cap' vs' hg q1 q2 q3 q4 q5
  have:=At.move (w':=w') hi (XN ho) hm hf (ob:=.prs e tgt (xs++ys)) trivial (b':=g) (c':=cap') hg.symm hgr.os hgr.tape hgr.output hgr.size (fun k hk hne=>hgr.keep k hk (fun b' h=>by cases h;exact hne))
   (fun hmono=>⟨vs',us++news,q1,by rw[hlen];exact q2,q3,q4,AFj hmono hr0,hone0,by rw[hnl];exact q5⟩)
  refine⟨_,this,?_⟩
  unfold Rep
  rw[hgs,An,← hlen]
  rfl
 rcases hgr.res with⟨h0,rfl,rfl⟩|⟨g,cap',vs',rfl,q1,q2,q3,q4,q5,q6⟩
 ·have hy:ys=[]:=AUr h0
  subst hy
  have hn0:news=[]:=AUr (by rw[hl];rfl)
  subst hn0
  obtain⟨m',hg,hrep⟩:=main b cap vs (.inr rfl) e1 (by simpa using e2) e3 e4 (by
   rw[AVk,AU3,AVi,← hul]
   exact e7)
  exact⟨_,_,m',hrun,hg,by simpa using hrep⟩
 ·obtain⟨m',hg,hrep⟩:=main g cap' vs' (by rcases q6 with h|h;exact .inl h;cases h;exact .inr rfl) q1 q2 q3 (by rw[q4,hsz];omega) (by rw[hsz,Nat.mul_one]at q5;exact q5)
  exact⟨_,_,m',hrun,hg,hrep⟩
end
end Go.Pev
end
section
namespace Go.Pev
open Go.RowKit
section
variable {P:Program} {E:Env}
theorem ABI(args:Array Operand)(ts:Array TypeId):Claim P E (.call { callee:=.builtin .append,args:=args,argTypes:=ts }):=by
 intro R ty ρ H fz slot k r h
 simp only[evalOp]at h
 split at h
 ·rename_i s x T T' ha hts
  obtain rfl:=ASy ha
  obtain rfl:=ASy hts
  split at h
  ·rename_i e t hsl hTT
   simp only[AUP]at hTT
   subst hTT
   split at h
   ·rename_i ys fr zz hys hz hby
    obtain⟨hu,hty0,hpos⟩:=C5 hsl
    obtain⟨t',cs'⟩:=zz
    obtain⟨hty',hcs',i,z,hi0,hz0,hok,hsz,hza⟩:=B0 hz
    subst hcs'
    have:t'=t:=by rw[hty0]at hty';exact(AVa hty').symm
    subst this
    have hzs:z.cells.size=i.size:=by
     have hzd:=B9 (w:=default) (F:=fun _=>False) t' _ hok
     rw[hsz,← AUi];exact Dat.length t' hzd
    have hby':i.bytes≤1024:=by simpa [hi0]using hby
    split at h
    ·rename_i et hs
     split at h
     ·rename_i hfit
      split at h
      ·rename_i hf
       refine⟨_,_,h,fun R' k'=>by simp only[evalOp,hsl,AUX,hys,hz,hby,hs,hfit,hf],A7 fun w F m ρc o hop hty hi hr => ?_⟩
       have hrs:=hr s
       rw[hs]at hrs
       unfold Rep at hrs
       obtain⟨A,c,q1,q2,q3,news,q4,q5⟩:=GW hi hys (hr x)
       obtain⟨v,w',m',hrun,hg,hrep⟩:=IC (P:=P) (ty:=o.type) hi hf hu hi0 hz0 hzs hsz hpos hby' (by have:(ys.length:Int)≤4294967296:=(GM _).1 hfit;omega) none (c:=c) q3 q4 q5
       exact⟨v,w',F,m',B6 hop hrs q1 hrun,hg,hrep⟩
      ·cases h
     ·cases h
    ·rename_i id hs
     split at h
     ·rename_i e' t2 xs ho
      split at h
      ·rename_i hue
       split at h
       ·rename_i xs' hc
        split at h
        ·rename_i hfit
         split at h
         ·rename_i hkp
          refine⟨_,_,h,fun R' k'=>by simp only[evalOp,hsl,AUX,hys,hz,hby,hs,ho,hue,hc,hfit,hkp],A7 fun w F m ρc o hop hty hi hr => ?_⟩
          simp only[AUR,AUP]at hue
          obtain⟨hun,rfl⟩:=hue
          obtain⟨et,hx⟩:=Eh hc
          subst et;simp only at hx;subst hx
          have hrs:=hr s
          rw[hs]at hrs
          obtain⟨A,c,q1,q2,q3,news,q4,q5⟩:=GW hi hys (hr x)
          have hfit':xs.length+ys.length≤4294967296:=by
           have:((xs.length:Int)+(ys.length:Int))≤4294967296:=(GM _).1 hfit
           omega
          obtain⟨v,w',F',hrun,hg,hrep⟩:=AFf (P:=P) (ty:=o.type) hi hu hi0 hz0 hzs hsz hpos hby' ho hun hfit' (c:=c) q3 q4 q5 hrs
          exact⟨v,w',F',m,B6 hop rfl q1 hrun,hg,hrep⟩
         rename_i hkp
         split at h
         ·rename_i hf
          refine⟨_,_,h,fun R' k'=>by simp only[evalOp,hsl,AUX,hys,hz,hby,hs,ho,hue,hc,hfit,hkp,hf],A7 fun w F m ρc o hop hty hi hr => ?_⟩
          simp only[AUR,AUP]at hue
          obtain⟨hun,rfl⟩:=hue
          obtain⟨et,hx⟩:=Eh hc
          subst et;simp only at hx;subst hx
          have hrs:=hr s
          rw[hs]at hrs
          unfold Rep at hrs
          rw[ho]at hrs
          obtain⟨A,c,q1,q2,q3,news,q4,q5⟩:=GW hi hys (hr x)
          have hfit':xs.length+ys.length≤4294967296:=by
           have:((xs.length:Int)+(ys.length:Int))≤4294967296:=(GM _).1 hfit
           omega
          have hsn:=AKb hf ho
          cases hm:m id with
          |none=>
           obtain⟨_,hob⟩:=hi.obj id _ ho
           rw[hm]at hrs hob
           obtain⟨a,e1⟩:=hrs
           simp only at hob;subst hob
           have hkill:=At.kill hi (Cf ho hun)
           obtain⟨v,w',m',hrun,hg,hrep⟩:=IC (P:=P) (ty:=o.type) hkill.2 (Kv hf hsn) hu hi0 hz0 hzs hsz hpos hby' (by simpa using hfit') a (c:=c) q3 q4 q5
           exact⟨v,w',F,m',B6 hop e1 q1 hrun,hkill.trans hg,hrep⟩
          |some p=>
           obtain⟨b,cap⟩:=p
           rw[hm]at hrs
           simp only[BU]at hrs
           obtain⟨v,w',m',hrun,hg,hrep⟩:=P5 (P:=P) (ty:=o.type) hi hf hu hi0 hz0 hzs hsz hpos hby' ho hun hm (AUV _) hfit' (c:=c) q3 q4 q5
           rw[AWK]at hg hrep
           exact⟨v,w',F,m',B6 hop hrs q1 hrun,hg,hrep⟩
         ·cases h
        ·cases h
       ·cases h
      ·cases h
     ·cases h
    ·rename_i id n hs
     split at h
     ·rename_i e' t2 xs ho
      split at h
      ·rename_i hue
       split at h
       ·rename_i xs' hc
        split at h
        ·rename_i hfit
         split at h
         ·rename_i hf
          refine⟨_,_,h,fun R' k'=>by simp only[evalOp,hsl,AUX,hys,hz,hby,hs,ho,hue,hc,hfit,hf],A7 fun w F m ρc o hop hty hi hr => ?_⟩
          simp only[AUR,AUP]at hue
          obtain⟨hun,rfl⟩:=hue
          obtain⟨et,hx⟩:=Eh hc
          subst et;simp only at hx;subst hx
          have hrs:=hr s
          rw[hs]at hrs
          unfold Rep at hrs
          rw[ho]at hrs
          obtain⟨hle,hrs⟩:=hrs
          obtain⟨A,c,q1,q2,q3,news,q4,q5⟩:=GW hi hys (hr x)
          have hfit':n+ys.length≤4294967296:=by
           have:((n:Int)+(ys.length:Int))≤4294967296:=(GM _).1 hfit
           omega
          have hsn:=AKb hf ho
          obtain⟨_,hob⟩:=hi.obj id _ ho
          have zero:∀ a,n=0→ρc s = .slice a 0 0→∃ u w' F' m',(execOp ρc o).run P w = .ok (.value u) w'∧At w F m H fz w' F' m' ((H.set id .dead).set slot (.arr e _ (Bs (DN n xs) ys))) fz ∧
            Rep w' F' m' ((H.set id .dead).set slot (.arr e _ (Bs (DN n xs) ys))) (.own slot) u:=by
           intro a h0 e1
           subst h0
           have hkill:=At.kill hi (Cf ho hun)
           obtain⟨v,w',m',hrun,hg,hrep⟩:=IC (P:=P) (ty:=o.type) hkill.2 (Kv hf hsn) hu hi0 hz0 hzs hsz hpos hby' (by simpa using hfit') a (c:=c) q3 q4 q5
           exact⟨v,w',F,m',B6 hop e1 q1 hrun,hkill.trans hg,hrep⟩
          cases hm:m id with
          |none=>
           rw[hm]at hrs hob
           obtain⟨a,e1⟩:=hrs
           simp only at hob;subst hob
           have hn:n=0:=by simpa using hle
           exact zero a hn (by rw[e1,hn])
          |some p=>
           obtain⟨b,cap⟩:=p
           rw[hm]at hrs hob
           obtain⟨a,e1,e2⟩:=hrs
           obtain⟨vs,row,o1,o2,_⟩:=hob
           rcases AVZ cap with hcap|hcap
           ·exact zero a (by omega) (by rw[e1,hcap,show n=0 from by omega])
           ·have ha:=e2 hcap
            rw[AWq]at ha
            subst ha
            obtain⟨v,w',m',hrun,hg,hrep⟩:=P5 (P:=P) (ty:=o.type) hi hf hu hi0 hz0 hzs hsz hpos hby' ho hun hm (n:=n) (by omega) hfit' (c:=c) q3 q4 q5
            exact⟨v,w',F,m',B6 hop e1 q1 hrun,hg,hrep⟩
         ·cases h
        ·cases h
       ·cases h
      ·cases h
     ·cases h
    ·cases h
   ·cases h
  ·rename_i e t hsl hTT
   split at h
   ·rename_i et j n zz kk hs hx hz hk hby
    split at h
    ·rename_i hfit
     split at h
     ·rename_i hf
      refine⟨_,_,h,fun R' k'=>by simp only[evalOp,hsl,hTT,hs,hx,hz,hk,hby,hfit,hf],A7 fun w F m ρc o hop hty hi hr => ?_⟩
      obtain⟨hu,hty0,hpos⟩:=C5 hsl
      obtain⟨t',cs'⟩:=zz
      obtain⟨hty',hcs',i,z,hi0,hz0,hok,hsz,hza⟩:=B0 hz
      subst hcs'
      have:t'=t:=by rw[hty0]at hty';exact(AVa hty').symm
      subst this
      rw[OR]at hfit
      obtain⟨n',rfl⟩:=AUW hfit.1
      have hrs:=hr s
      rw[hs]at hrs
      unfold Rep at hrs
      have e2:=A5 (hx▸hr x)
      have hby':i.bytes≤1024:=by simpa [hi0]using hby
      obtain⟨v,w',m',hrun,hg,hrep⟩:=AFe (P:=P) (ty:=o.type) hi hf hu hi0 hz0 hok hsz hpos hby' (Pm hk) (kx:=j) (n:=n') (by omega)
      exact⟨v,w',F,m',AAv hop hrs e2 hrun,hg,hrep⟩
     ·cases h
    ·cases h
   ·cases h
  ·rename_i hsl hTT
   simp only[AUP]at hTT
   subst hTT
   split at h
   ·rename_i e ix hce hx
    split at h
    ·rename_i e1 tgt ys hox
     split at h
     ·rename_i he
      simp only[AUP]at he
      subst he
      obtain⟨hu,ii,z,hi0,hz0,hsz,hzs,hby⟩:=Pz hce
      split at h
      ·rename_i et hs
       split at h
       ·rename_i hfit
        split at h
        ·rename_i hf
         refine⟨_,_,h,fun R' k'=>by simp only[evalOp,hsl,AUX,hce,hx,hox,hs,hfit,hf],A7 fun w F m ρc o hop hty hi hr => ?_⟩
         have hrs:=hr s
         rw[hs]at hrs
         unfold Rep at hrs
         obtain⟨A,c,q1,q2,news,q3,q4,q5⟩:=ATE hi hox (hx▸hr x)
         obtain⟨v,w',m',hrun,hg,hrep⟩:=Hb (P:=P) (ty:=o.type) hi hf hu hi0 hz0 hzs hsz hby (by have:(ys.length:Int)≤4294967296:=(GM _).1 hfit;omega) none (c:=c) q2 q3 q4 q5
         exact⟨v,w',F,m',B6 hop hrs q1 hrun,hg,hrep⟩
        ·cases h
       ·cases h
      ·rename_i id hs
       split at h
       ·rename_i e2 tgt2 xs ho
        split at h
        ·rename_i hue
         split at h
         ·rename_i hfit
          split at h
          ·rename_i hf
           refine⟨_,_,h,fun R' k'=>by simp only[evalOp,hsl,AUX,hce,hx,hox,hs,ho,hue,hfit,hf],A7 fun w F m ρc o hop hty hi hr => ?_⟩
           simp only[AUR,AUP]at hue
           obtain⟨rfl,rfl⟩:=hue
           have hrs:=hr s
           rw[hs]at hrs
           unfold Rep at hrs
           rw[ho]at hrs
           obtain⟨A,c,q1,q2,news,q3,q4,q5⟩:=ATE hi hox (hx▸hr x)
           have hfit':xs.length+ys.length≤4294967296:=by
            have:((xs.length:Int)+(ys.length:Int))≤4294967296:=(GM _).1 hfit
            omega
           have hsn:=AEz hf ho
           cases hm:m id with
           |none=>
            have hob:=hi.obj id _ ho
            rw[hm]at hrs hob
            obtain⟨a,e1⟩:=hrs
            have hob:xs=[]:=hob
            subst hob
            have hkill:=At.kill hi (XN ho)
            obtain⟨v,w',m',hrun,hg,hrep⟩:=Hb (P:=P) (ty:=o.type) hkill.2 (Kv hf hsn) hu hi0 hz0 hzs hsz hby (by simpa using hfit') a (c:=c) q2 (hkill.1.AUG hi q3) q4 q5
            exact⟨v,w',F,m',B6 hop e1 q1 hrun,hkill.trans hg,hrep⟩
           |some p=>
            obtain⟨b,cap⟩:=p
            rw[hm]at hrs
            simp only[BU]at hrs
            obtain⟨v,w',m',hrun,hg,hrep⟩:=Qg (P:=P) (ty:=o.type) hi hf hu hi0 hz0 hzs hsz hby ho hm hfit' (c:=c) q2 q3 q4 q5
            exact⟨v,w',F,m',B6 hop hrs q1 hrun,hg,hrep⟩
          ·cases h
         ·cases h
        ·cases h
       ·cases h
      ·cases h
     ·cases h
    ·cases h
   ·cases h
  ·cases h
 ·cases h
end
end Go.Pev
end
section
namespace Go.Pev
open Go.RowKit
section
variable {P:Program} {E:Env}
theorem ANX(args:Array Operand)(ts:Array TypeId):Claim P E (.call { callee:=.builtin .cap,args:=args,argTypes:=ts }):=by
 intro R ty ρ H fz slot k r h
 simp only[evalOp]at h
 split at h
 ·rename_i x T ha hts
  obtain rfl:=ANo ha
  obtain rfl:=ANo hts
  split at h
  ·rename_i e et hu hx
   refine⟨_,_,h,fun R' k'=>by simp only[evalOp,hu,hx],AS fun w F m ρc o hop hty hi hr=>⟨.int .i64 0,?_,Ao _ _⟩⟩
   have hrx:=hr x
   rw[hx]at hrx
   unfold Rep at hrx
   simp[execOp,hop,resolve,invoke,builtin,hrx,Builtin.cap_,run_underlying hu,goInt]
  ·cases h
 ·cases h
theorem ANU(args:Array Operand)(ts:Array TypeId):Claim P E (.call { callee:=.builtin .min,args:=args,argTypes:=ts }):=by
 intro R ty ρ H fz slot k r h
 simp only[evalOp]at h
 split at h
 ·rename_i x y ha
  obtain rfl:=ASy ha
  split at h
  ·rename_i j a j' b hx hy
   refine⟨_,_,h,fun R' k'=>by simp only[evalOp,hx,hy],AS fun w F m ρc o hop hty hi hr=>⟨.int j (ES a b),?_,Ao _ _⟩⟩
   have e1:=A5 (hx▸hr x)
   have e2:=A5 (hy▸hr y)
   simp[execOp,hop,resolve,invoke,builtin,e1,e2,run_min_int2,ES]
  ·cases h
 ·cases h
theorem Vr{w:World}(ts:Array TypeId)(t:TypeId)(k k':IntKind)(x y:Int):(Builtin.max_ ts t #[.int k x,.int k' y]).run P w = .ok (.int k (if y > x then y else x)) w:=by
 simp[Builtin.max_,Builtin.max2]
theorem ANV(args:Array Operand)(ts:Array TypeId):Claim P E (.call { callee:=.builtin .max,args:=args,argTypes:=ts }):=by
 intro R ty ρ H fz slot k r h
 simp only[evalOp]at h
 split at h
 ·rename_i x y ha
  obtain rfl:=ASy ha
  split at h
  ·rename_i j a j' b hx hy
   refine⟨_,_,h,fun R' k'=>by simp only[evalOp,hx,hy],AS fun w F m ρc o hop hty hi hr=>⟨.int j (imax a b),?_,Ao _ _⟩⟩
   have e1:=A5 (hx▸hr x)
   have e2:=A5 (hy▸hr y)
   simp[execOp,hop,resolve,invoke,builtin,e1,e2,Vr,imax]
  ·cases h
 ·cases h
theorem ACZ{H:List Ob}{i:Nat}{o:Ob}(h:H[i]? = some o):H.set i o=H:=by
 apply AWD
 intro j
 by_cases hij:j=i
 ·subst hij;rw[BK (Ap h),h]
 ·rw[Aw hij]
theorem UK{α:Type}{off n:Nat}{z:α}{xs:List α}(h:off+n≤xs.length):(C1 off n z xs).length=xs.length:=by
 simp only[C1,AUb,AUq,AVm,AVD];omega
theorem AFF{α:Type}(off:Nat)(z:α)(xs:List α):C1 off 0 z xs=xs:=by simp[C1]
theorem Xz{w:World}{F:Nat→Prop}{m:Mp}{H:List Ob}{fz:List Bool}(hi:HI w F m H fz){id:Nat}{T:TypeId}{t:Ty}{xs:List t.den}(ho:H[id]? = some (.arr T t xs))(hf:Au fz id=true)
  {b cap:Nat} (hm:m id=some (b,cap)) {off n:Nat} (hle:off+n≤xs.length) {z:List Value} (hz:Dat w F t t.zero z) (h1:∀ u∈z,u.oneCell'=true) {zs:Array Value} (hzs:zs.toList=(List.replicate n z).flatten) :
  ∃ w',(storeCells ⟨b,off*t.size,none⟩ zs.toList).run P w = .ok () w'∧At w F m H fz w' F m (H.set id (.arr T t (C1 off n t.zero xs))) fz:=by
 have hob:=hi.obj id _ ho
 obtain⟨h0,hob⟩:=hob
 rw[hm]at hob
 obtain⟨vs,row,e1,e2,e3,e4,e7,e8⟩:=hob
 have hk:=fun(x:t.den) cs (h:Dat w F t x cs)=>Dat.length t h
 have hlen:=BF hk e7
 have hrz:=Dw (w:=w) (F:=F) hz n
 have hdl:=BF hk hrz
 rw[AVm,← hzs]at hdl
 have hle1:off*t.size+n*t.size≤xs.length*t.size:=by
  have:=AU8 t.size hle
  rwa [AVJ]at this
 have hle2:xs.length*t.size≤cap*t.size:=AU8 _ e2
 have hvl:vs.toList.length=cap*t.size:=by rw[AUi,e4]
 have hst:=run_storeCells_at P b (off*t.size) T zs.toList 0 vs w e1 (by simp only[AVi,hdl,e4];omega) (by
  intro u hu
  rw[hzs,List.mem_flatten]at hu
  obtain⟨l,hl,hul⟩:=hu
  rw[AV6 hl]at hul
  exact h1 u hul)
 simp only[AVi,hdl]at hst
 obtain⟨r1,r2,r3,r4,r5⟩:=Ig (w:=w) (b:=b) (cs:=(vs.toList.take (off*t.size)++zs.toList++vs.toList.drop (off*t.size+n*t.size)).toArray)
 refine⟨_,hst,?_⟩
 refine At.set hi (Cf ho hf) hm ho ⟨rfl,(UK hle).symm⟩ r1 r2 r3 r4 r5 fun hmono => ?_
 refine⟨h0,?_⟩
 rw[hm]
 refine⟨_,row.take (off*t.size)++(zs.toList++row.drop (off*t.size+n*t.size)),setRow_heap w b vs _ T _ e1,by rw[UK hle];exact e2,e3,?_,?_,?_⟩
 ·simp only[AWY,AUb,AUq,AVD,hvl,hdl];omega
 ·have hcell:∀ a:Addr,F a.block→(w.setRow b (vs.toList.take (off*t.size)++zs.toList++vs.toList.drop (off*t.size+n*t.size)).toArray).cell? a=w.cell? a:=fun a ha=>
   cell_setRow_other w b _ a (by rintro rfl;exact hi.off id _ cap (Cf ho hf) hm ha)
  refine BJ (R:=Dat w F t) (fun x _ cs hx=>hx.mono hcell (fun _ h=>h) t) ?_
  have:=HK hk (off+n) e7
  rw[AVJ]at this
  exact Ik (EF hk off e7) (Ik (by rw[hzs];exact hrz) this)
 ·have hrl:(row.take (off*t.size)++(zs.toList++row.drop (off*t.size+n*t.size))).length=row.length:=by
   simp only[AUb,AUq,AVD,hdl];omega
  rw[hrl]
  show List.take row.length (vs.toList.take (off*t.size)++zs.toList++vs.toList.drop (off*t.size+n*t.size))=_
  have h1:row.take (off*t.size)=vs.toList.take (off*t.size):=by
   rw[← e8,AWa,AVe (by omega)]
  have h2:row.drop (off*t.size+n*t.size)=(vs.toList.drop (off*t.size+n*t.size)).take (row.length-(off*t.size+n*t.size)):=by
   conv=>lhs;rw[← e8]
   rw[List.drop_take]
  rw[h1,h2,AVx,AVK (by simp only[AUb,AUq,hvl,hdl];omega),AVc]
  congr 3
  simp only[AUb,AUq,hvl,hdl];omega
theorem GO{w w':World}{ρc:Operand→Value}{o:Oper}{T:TypeId}{x:Operand}{v:Value}(hop:o.op = .call { callee:=.builtin .clear,args:=#[x],argTypes:=#[T] })(e1:ρc x=v)
  (hrun:(Builtin.clear_ #[T] o.type #[v]).run P w = .ok (.tuple #[]) w'):(execOp ρc o).run P w = .ok (.value (.tuple #[])) w':=by simp[execOp,hop,resolve,invoke,builtin,e1,hrun]
theorem F4{w:World}{T e ty:TypeId}(hu:P.underlying T=some (.slice e))(a:Option Addr)(c:Nat):(Builtin.clear_ #[T] ty #[.slice a 0 c]).run P w = .ok (.tuple #[]) w:=by
 cases a<;>simp[Builtin.clear_,run_underlying hu]
theorem Ii{w w':World}{T e ty:TypeId}(hu:P.underlying T=some (.slice e)){i:TypeInfo}{z:Value}(hi0:P.info? e=some i)(hz:i.zero=some z)(a:Addr){n:Nat}(hn:0<n)(c:Nat)
  (h:(storeCells a (Builtin.zeroCells z.cells n).toList).run P w = .ok () w'):(Builtin.clear_ #[T] ty #[.slice (some a) n c]).run P w = .ok (.tuple #[]) w':=by
 obtain⟨m,rfl⟩:∃ m,n=m+1:=⟨n-1,by omega⟩
 simp[Builtin.clear_,run_underlying hu,BZ hi0 hz,h]
theorem AKk{w:World}{F:Nat→Prop}{t:Ty}{d:t.den}{z:List Value}(h:Dat w F t d z):∀ u∈z,u.oneCell'=true:=fun u hu=>Dat.Gk t h u hu
theorem AFR(args:Array Operand)(ts:Array TypeId):Claim P E (.call { callee:=.builtin .clear,args:=args,argTypes:=ts }):=by
 intro R ty ρ H fz slot k r h
 simp only[evalOp]at h
 split at h
 ·rename_i x T ha hts
  obtain rfl:=ANo ha
  obtain rfl:=ANo hts
  split at h
  ·rename_i e t hsl
   split at h
   ·rename_i zz hz
    obtain⟨hu,hty0,hpos⟩:=C5 hsl
    obtain⟨t',cs'⟩:=zz
    obtain⟨hty',hcs',i,z,hi0,hz0,hok,hsz,hza⟩:=B0 hz
    subst hcs'
    have:t'=t:=by rw[hty0]at hty';exact(AVa hty').symm
    subst this
    have hcells:∀ k,(Builtin.zeroCells z.cells k).toList=(List.replicate k z.cells.toList).flatten:=C7 z.cells
    split at h
    ·rename_i et hx
     refine⟨_,_,h,fun R' k'=>by simp only[evalOp,hsl,hz,hx],A7 fun w F m ρc o hop hty hi hr => ?_⟩
     have hrx:=hr x
     rw[hx]at hrx
     unfold Rep at hrx
     exact⟨_,w,F,m,GO hop hrx (F4 hu _ _),At.refl hi,by unfold Rep;trivial⟩
    ·rename_i id hx
     split at h
     ·rename_i e' t2 xs ho
      split at h
      ·rename_i hun
       refine⟨_,_,h,fun R' k'=>by simp only[evalOp,hsl,hz,hx,ho,hun],A7 fun w F m ρc o hop hty hi hr => ?_⟩
       simp only[AUR,AUP]at hun
       obtain⟨hun,ht⟩:=hun
       subst ht
       have hzd:=B9 (w:=w) (F:=F) t' _ hok
       have hrx:=hr x
       rw[hx]at hrx
       unfold Rep at hrx
       rw[ho]at hrx
       obtain⟨_,hob⟩:=hi.obj id _ ho
       have none_:xs=[]→∀ a c,ρc x = .slice a 0 c→∃ u w' F' m',(execOp ρc o).run P w = .ok (.value u) w'∧At w F m H fz w' F' m' (DQ { objs:=[(id,.arr e' t' (C1 0 xs.length t'.zero xs))] } H) (IE { objs:=[(id,.arr e' t' (C1 0 xs.length t'.zero xs))] } fz) ∧
         Rep w' F' m' (DQ { objs:=[(id,.arr e' t' (C1 0 xs.length t'.zero xs))] } H) .junk u:=by
        intro hxs a c e1
        refine⟨_,w,F,m,GO hop e1 (F4 hu _ _),?_,by unfold Rep;trivial⟩
        have:C1 0 xs.length t'.zero xs=xs:=by rw[hxs];rfl
        rw[this]
        have hs:DQ { objs:=[(id,.arr e' t' xs)] } H=H:=ACZ ho
        rw[hs]
        exact At.refl hi
       cases hm:m id with
       |none=>
        rw[hm]at hrx hob
        obtain⟨a,e1⟩:=hrx
        simp only at hob
        exact none_ hob a 0 e1
       |some p=>
        obtain⟨b,cap⟩:=p
        rw[hm]at hrx
        simp only[BU]at hrx
        rcases AVZ xs.length with hl|hl
        ·exact none_ (AUr hl) (some ⟨b,0,none⟩) cap (by rw[hrx,hl])
        ·obtain⟨w',hst,hg⟩:=Xz (P:=P) hi ho hun hm (off:=0) (n:=xs.length) (by omega) hzd (AKk hzd) (hcells xs.length)
         rw[AWq]at hst
         exact⟨_,w',F,m,GO hop hrx (Ii hu hi0 hz0 _ hl _ hst),hg,by unfold Rep;trivial⟩
      ·cases h
     ·cases h
    ·rename_i id off n hx
     split at h
     ·rename_i e' t2 xs ho
      split at h
      ·rename_i hun
       refine⟨_,_,h,fun R' k'=>by simp only[evalOp,hsl,hz,hx,ho,hun],A7 fun w F m ρc o hop hty hi hr => ?_⟩
       simp only[AUR,AUP]at hun
       obtain⟨hun,ht⟩:=hun
       subst ht
       have hzd:=B9 (w:=w) (F:=F) t' _ hok
       have hrx:=hr x
       rw[hx]at hrx
       unfold Rep at hrx
       rw[ho]at hrx
       obtain⟨hle,hrx⟩:=hrx
       obtain⟨_,hob⟩:=hi.obj id _ ho
       have none_:n=0→∀ a c,ρc x = .slice a n c→∃ u w' F' m',(execOp ρc o).run P w = .ok (.value u) w'∧At w F m H fz w' F' m' (DQ { objs:=[(id,.arr e' t' (C1 off n t'.zero xs))] } H) (IE { objs:=[(id,.arr e' t' (C1 off n t'.zero xs))] } fz) ∧
         Rep w' F' m' (DQ { objs:=[(id,.arr e' t' (C1 off n t'.zero xs))] } H) .junk u:=by
        intro hxs a c e1
        subst hxs
        refine⟨_,w,F,m,GO hop e1 (F4 hu _ _),?_,by unfold Rep;trivial⟩
        rw[AFF]
        have hs:DQ { objs:=[(id,.arr e' t' xs)] } H=H:=ACZ ho
        rw[hs]
        exact At.refl hi
       cases hm:m id with
       |none=>
        rw[hm]at hrx hob
        obtain⟨a,e1⟩:=hrx
        simp only at hob
        subst hob
        exact none_ (by simp at hle;omega) a 0 e1
       |some p=>
        obtain⟨b,cap⟩:=p
        rw[hm]at hrx hob
        obtain⟨vs,row,o1,o2,_⟩:=hob
        obtain⟨a,e1,e2⟩:=hrx
        rcases AVZ n with hl|hl
        ·exact none_ hl a _ e1
        ·have ha:=e2 (by omega)
         subst ha
         obtain⟨w',hst,hg⟩:=Xz (P:=P) hi ho hun hm (off:=off) (n:=n) hle hzd (AKk hzd) (hcells n)
         exact⟨_,w',F,m,GO hop e1 (Ii hu hi0 hz0 _ hl _ hst),hg,by unfold Rep;trivial⟩
      ·cases h
     ·cases h
    ·cases h
   ·cases h
  ·cases h
 ·cases h
end
end Go.Pev
end
section
namespace Go.Pev
open Go.RowKit
section
variable {P:Program}
def CH:(t:Ty)→t.den→List Value
 |.unit,_=>[]
 |.bool,b=>[.bool b]
 |.int k,n=>[.int k n]
 |.prod a b,d=>CH a d.1++CH b d.2
 |.slice _,_=>[]
 |.arr _ _,_=>[]
def Bo(t:Ty)(d:t.den):Value:=match t,d with
 |.int k,n=>.int k n
 |t,d=>.agg (CH t d).toArray
structure ANr(P:Program)(kt:TypeId)(t:Ty):Prop where
 rep:∀ (w:World) (F:Nat→Prop) (d:t.den) (v:Value),BW w F t d v↔v=Bo t d
 check:∀ (w:World) (b:Bool) (d:t.den),(Instr.checkKey b 10000 kt (Bo t d)).run P w = .ok () w
 stays:∀ (w:World) (d:t.den),(Instr.keyThatStays (Bo t d) (Bo t d)).run P w = .ok (Bo t d) w
 find:∀ (w:World) (F:Nat→Prop) (b:Ty) (key:t.den) (es:List (t.den×b.den)) (ms:List MapEntry),Gg w F t b es ms →
  (@DJ _ _ (decDen t) es key=none∧@AK _ _ (decDen t) es key=none∧(Instr.findKey kt (Bo t key) ms).run P w = .ok none w) ∨
  (∃ x n me,@DJ _ _ (decDen t) es key=some n∧@AK _ _ (decDen t) es key=some x∧(Instr.findKey kt (Bo t key) ms).run P w = .ok (some (n,me.val)) w∧ms[n]? = some me∧BW w F b x me.val∧me.key=Bo t key)
theorem ANr.store{kt:TypeId}{t:Ty}(hK:ANr P kt t){w:World}{F:Nat→Prop}{b:Ty}(key:t.den)(val:b.den)(v:Value)(hv:BW w F b val v):∀ {es:List (t.den×b.den)} {ms:List MapEntry},Gg w F t b es ms →
  (∀ clock,@DJ _ _ (decDen t) es key=none→Gg w F t b (@Ab _ _ (decDen t) es key val) (ms++[{ key:=Bo t key,val:=v,born:=clock }])) ∧
  (∀ n,@DJ _ _ (decDen t) es key=some n→Gg w F t b (@Ab _ _ (decDen t) es key val) (ms.modify n fun e=>{ e with key:=Bo t key,val:=v })):=by
 haveI:=decDen t
 intro es
 induction es with
 |nil=>
  rintro ms rfl
  exact⟨fun clock _=>⟨_,[],rfl,⟨(hK.rep w F key _).2 rfl,hv⟩,rfl⟩,fun n h=>by simp[DJ]at h⟩
 |cons e es ih=>
  rintro ms ⟨me0,ms',rfl,⟨h1,h2⟩,h3⟩
  obtain⟨a,x⟩:=e
  obtain⟨ih1,ih2⟩:=ih h3
  by_cases hak:a=key
  ·subst hak
   refine⟨fun clock h=>by simp[DJ]at h,fun n h => ?_⟩
   simp only[DJ,AUv,AUM]at h
   subst h
   simp only[Ab,AUv,List.modify_zero_cons]
   exact⟨_,ms',rfl,⟨(hK.rep w F a _).2 rfl,hv⟩,h3⟩
  ·simp only[Ab,hak,AUa,DJ]
   refine⟨fun clock h => ?_,fun n h => ?_⟩
   ·rw[AWx]at h
    exact⟨me0,_,rfl,⟨h1,h2⟩,ih1 clock h⟩
   ·rw[AUd]at h
    obtain⟨n',h',rfl⟩:=h
    rw[List.modify_succ_cons]
    exact⟨me0,_,rfl,⟨h1,h2⟩,ih2 n' h'⟩
theorem ASK{kt:TypeId}{j:IntKind}(hu:P.underlying kt=some (.int j)):ANr P kt (.int j):=by
 have hrep:∀ (w:World) (F:Nat→Prop) (d:Int) (v:Value),BW w F (.int j) d v↔v = .int j d:=by
  intro w F d v
  show Dat w F (.int j) d [v]↔_
  simp[Dat]
 refine⟨hrep,fun w b d => ?_,fun w d => ?_,fun w F b key es ms h => ?_⟩
 ·have gen:∀ n,(Instr.checkKey b (n+1) kt (.int j d)).run P w = .ok () w:=fun n=>by simp[Instr.checkKey,run_underlying hu]
  exact gen 9999
 ·have gen:∀ n,Instr.sameBits n (.int j d) (.int j d)=true:=fun n=>by cases n<;>simp[Instr.sameBits]
  show(Instr.keyThatStays (.int j d) (.int j d)).run P w=_
  simp[Instr.keyThatStays,gen]
  rfl
 ·have hfk:∀ r,Instr.findNow (.int j) (.int j key) ms 0=some r→(Instr.findKey kt (.int j key) ms).run P w = .ok r w:=by
   intro r hr'
   simp[Instr.findKey,run_underlying hu,hr']
  have gen:∀ (es:List (Int×b.den)) (ms:List MapEntry) (i:Nat),Gg w F (.int j) b es ms →
    (DJ (α:=Int) es key=none∧AK (α:=Int) es key=none∧Instr.findNow (.int j) (.int j key) ms i=some none) ∨
    (∃ x n me,DJ (α:=Int) es key=some n∧AK (α:=Int) es key=some x∧Instr.findNow (.int j) (.int j key) ms i=some (some (i+n,me.val))∧ms[n]? = some me∧BW w F b x me.val∧me.key = .int j key):=by
   intro es
   induction es with
   |nil=>rintro ms i rfl;exact .inl ⟨rfl,rfl,rfl⟩
   |cons e es ih=>
    rintro ms i ⟨me,ms',rfl,⟨h1,h2⟩,h3⟩
    obtain⟨a,x⟩:=e
    have hk:=(hrep w F a _).1 h1
    simp only at h2
    by_cases hak:a=key
    ·subst hak
     refine .inr ⟨x,0,me,by simp[DJ],by simp[AK],?_,rfl,h2,hk⟩
     simp[Instr.findNow,Instr.sameNow,hk]
    ·have hfn:Instr.findNow (.int j) (.int j key) (me::ms') i=Instr.findNow (.int j) (.int j key) ms' (i+1):=by
      have:(key==a)=false:=by simp;exact fun h=>hak h.symm
      simp[Instr.findNow,Instr.sameNow,hk,this]
     rcases ih ms' (i+1) h3 with⟨q0,q1,q2⟩|⟨y,n,me',q0,q1,q2,q3,q4,q5⟩
     ·exact .inl ⟨by simp[DJ,hak,q0],by simp[AK,hak,q1],by rw[hfn];exact q2⟩
     ·exact .inr ⟨y,n+1,me',by simp[DJ,hak,q0],by simp[AK,hak,q1],by rw[hfn,q2,show i+1+n=i+(n+1)from by omega],by simpa using q3,q4,q5⟩
  rcases gen es ms 0 h with⟨q0,q1,q2⟩|⟨x,n,me,q0,q1,q2,q3,q4,q5⟩
  ·exact .inl ⟨q0,q1,hfk _ q2⟩
  ·rw[AVL]at q2
   exact .inr ⟨x,n,me,q0,q1,hfk _ q2,q3,q4,q5⟩
theorem MT{w:World}{F:Nat→Prop}:∀ (t:Ty) {n:List Bool},kinds? t=some n→∀ (d:t.den) (cs:List Value),Dat w F t d cs↔cs=CH t d
 |.unit,_,_,d,cs=>Iff.rfl
 |.prod (.int k) r,n,h,d,cs=>by
  simp only[kinds?,AUd]at h
  obtain⟨n',h',rfl⟩:=h
  constructor
  ·rintro⟨c1,c2,rfl,h1,h2⟩
   rw[(MT r h' d.2 c2).1 h2]
   have h1:c1=[.int k d.1]:=h1
   rw[h1];rfl
  ·rintro rfl
   exact⟨[.int k d.1],CH r d.2,rfl,rfl,(MT r h' d.2 _).2 rfl⟩
 |.prod .bool r,n,h,d,cs=>by
  simp only[kinds?,AUd]at h
  obtain⟨n',h',rfl⟩:=h
  constructor
  ·rintro⟨c1,c2,rfl,h1,h2⟩
   rw[(MT r h' d.2 c2).1 h2]
   have h1:c1=[.bool d.1]:=h1
   rw[h1];rfl
  ·rintro rfl
   exact⟨[.bool d.1],CH r d.2,rfl,rfl,(MT r h' d.2 _).2 rfl⟩
 |.prod .unit _,_,h,_,_=>by simp[kinds?]at h
 |.prod (.slice _) _,_,h,_,_=>by simp[kinds?]at h
 |.prod (.prod _ _) _,_,h,_,_=>by simp[kinds?]at h
 |.prod (.arr _ _) _,_,h,_,_=>by simp[kinds?]at h
 |.bool,_,h,_,_=>by simp[kinds?]at h
 |.int _,_,h,_,_=>by simp[kinds?]at h
 |.slice _,_,h,_,_=>by simp[kinds?]at h
 |.arr _ _,_,h,_,_=>by simp[kinds?]at h
theorem OT:∀ (t:Ty) {n:List Bool},kinds? t=some n→∀ (d d':t.den),A6 n (BA t d) (BA t d')=some (@decide (d=d') (decDen t d d'))
 |.unit,n,h,d,d'=>by
  simp only[kinds?,AUM]at h
  subst h
  cases d;cases d'
  simp[BA,A6]
 |.prod (.int k) r,n,h,d,d'=>by
  simp only[kinds?,AUd]at h
  obtain⟨n',h',rfl⟩:=h
  obtain⟨a,x⟩:=d
  obtain⟨b,y⟩:=d'
  have:=OT r h' x y
  simp only[BA,AWc,A6,AUX,this,ET]
  congr 1
  by_cases h1:a=b
  ·subst h1
   by_cases h2:x=y
   ·subst h2;simp
   ·simp[h2]
  ·simp[h1]
 |.prod .bool r,n,h,d,d'=>by
  simp only[kinds?,AUd]at h
  obtain⟨n',h',rfl⟩:=h
  obtain⟨a,x⟩:=d
  obtain⟨b,y⟩:=d'
  have:=OT r h' x y
  simp only[BA,AWc,A6,this]
  congr 1
  by_cases h1:a=b
  ·subst h1
   by_cases h2:x=y
   ·subst h2;simp
   ·simp[h2]
  ·simp[h1]
 |.prod .unit _,_,h,_,_=>by simp[kinds?]at h
 |.prod (.slice _) _,_,h,_,_=>by simp[kinds?]at h
 |.prod (.prod _ _) _,_,h,_,_=>by simp[kinds?]at h
 |.prod (.arr _ _) _,_,h,_,_=>by simp[kinds?]at h
 |.bool,_,h,_,_=>by simp[kinds?]at h
 |.int _,_,h,_,_=>by simp[kinds?]at h
 |.slice _,_,h,_,_=>by simp[kinds?]at h
 |.arr _ _,_,h,_,_=>by simp[kinds?]at h
theorem Kt:∀ (t:Ty) {n:List Bool},kinds? t=some n→∀ (d:t.den),∀ v∈CH t d,(∃ k i,v = .int k i)∨∃ b,v = .bool b
 |.unit,_,_,d,v,hv=>by simp[CH]at hv
 |.prod (.int k) r,n,h,d,v,hv=>by
  simp only[kinds?,AUd]at h
  obtain⟨n',h',rfl⟩:=h
  simp only[CH,AWc,AUT]at hv
  rcases hv with rfl|hv
  ·exact .inl ⟨_,_,rfl⟩
  ·exact Kt r h' d.2 v hv
 |.prod .bool r,n,h,d,v,hv=>by
  simp only[kinds?,AUd]at h
  obtain⟨n',h',rfl⟩:=h
  simp only[CH,AWc,AUT]at hv
  rcases hv with rfl|hv
  ·exact .inr ⟨_,rfl⟩
  ·exact Kt r h' d.2 v hv
 |.prod .unit _,_,h,_,_,_=>by simp[kinds?]at h
 |.prod (.slice _) _,_,h,_,_,_=>by simp[kinds?]at h
 |.prod (.prod _ _) _,_,h,_,_,_=>by simp[kinds?]at h
 |.prod (.arr _ _) _,_,h,_,_,_=>by simp[kinds?]at h
 |.bool,_,h,_,_,_=>by simp[kinds?]at h
 |.int _,_,h,_,_,_=>by simp[kinds?]at h
 |.slice _,_,h,_,_,_=>by simp[kinds?]at h
 |.arr _ _,_,h,_,_,_=>by simp[kinds?]at h
theorem HR{t:Ty}{n:List Bool}(h:kinds? t=some n)(d:t.den):Bo t d = .agg (CH t d).toArray∧t.isAgg=true:=by
 cases t<;>first|exact⟨rfl,rfl⟩|(simp[kinds?]at h)
end
end Go.Pev
end
section
namespace Go.Pev
open Go.RowKit
section
variable {P:Program}
theorem Ku:∀ (t:Ty) {n:List Bool},kinds? t=some n→∀ (d:t.den),(CH t d).length=n.length
 |.unit,n,h,d=>by simp only[kinds?,AUM]at h;subst h;rfl
 |.prod (.int k) r,n,h,d=>by
  simp only[kinds?,AUd]at h
  obtain⟨n',h',rfl⟩:=h
  simp[CH,Ku r h' d.2]
 |.prod .bool r,n,h,d=>by
  simp only[kinds?,AUd]at h
  obtain⟨n',h',rfl⟩:=h
  simp[CH,Ku r h' d.2]
 |.prod .unit _,_,h,_=>by simp[kinds?]at h
 |.prod (.slice _) _,_,h,_=>by simp[kinds?]at h
 |.prod (.prod _ _) _,_,h,_=>by simp[kinds?]at h
 |.prod (.arr _ _) _,_,h,_=>by simp[kinds?]at h
 |.bool,_,h,_=>by simp[kinds?]at h
 |.int _,_,h,_=>by simp[kinds?]at h
 |.slice _,_,h,_=>by simp[kinds?]at h
 |.arr _ _,_,h,_=>by simp[kinds?]at h
theorem ABJ{w:World}{T:TypeId}(h:Ih P T=true)(b:Bool)(n:Nat){v:Value}:(Instr.checkKey b (n+1) T v).run P w = .ok () w:=by
 rcases Bd h with⟨k,hk,_⟩|⟨hk,_⟩
 ·simp[Instr.checkKey,run_underlying hk]
 ·simp[Instr.checkKey,run_underlying hk]
theorem ABK{w:World}(b:Bool)(d:Nat)(xs:Array Value):∀ (fs:List Field) (i:Nat),Cz P fs i=true→i+fs.length≤xs.size →
  (forIn fs PUnit.unit fun (f : Field) (_ : PUnit) => ((if f.name ≠ "_" then (part f.type xs f.offset >>= fun v => Instr.checkKey b (d + 1) f.type v >>= fun _ => pure (ForInStep.yield PUnit.unit)) else pure (ForInStep.yield PUnit.unit)) : Sem (ForInStep PUnit))).run P w = .ok PUnit.unit w := by
 intro fs
 induction fs with
 |nil=>intro i _ _;simp[Sem.run_pure]
 |cons f fs ih=>
  intro i hok hl
  simp only[Cz,AUR,bne_iff_ne,AUP]at hok
  obtain⟨hn,ho,hsc,hok⟩:=hok
  rw[AUY]at hl
  have hag:DR P f.type=some false:=by
   rcases Bd hsc with⟨k,hk,_⟩|⟨hk,_⟩<;>simp[DR,hk]
  have hlt:i<xs.size:=by omega
  have p1:(part f.type xs f.offset).run P w = .ok xs[i] w:=by
   rw[ho];simp[part,Bz hag,hlt]
  have h3:=ih (i+1) hok (by omega)
  simp only[List.forIn_cons,Sem.run_bind,hn,ne_eq,not_false_eq_true,AUv,p1,Result.andThen_ok,ABJ hsc,Sem.run_pure]
  exact h3
theorem AIK{kt:TypeId}{t:Ty}{n:List Bool}(hs:structEq P kt=some n)(hk:kinds? t=some n):ANr P kt t:=by
 obtain⟨fs,hu,hgt,hst,hok,hn⟩:=Vp hs
 have hfo:P.fieldsOf kt=fs:=by simp[Program.fieldsOf,hu]
 have hrep:∀ (w:World) (F:Nat→Prop) (d:t.den) (v:Value),BW w F t d v↔v=Bo t d:=by
  intro w F d v
  obtain⟨e1,e2⟩:=HR hk d
  unfold BW
  rw[AUf e2,e1]
  constructor
  ·rintro⟨vs,rfl,h⟩
   have:=(MT t hk d _).1 h
   rw[← this]
  ·rintro rfl
   exact⟨_,rfl,(MT t hk d _).2 (by simp)⟩
 have hlen:∀ d:t.den,(CH t d).length=fs.size:=by
  intro d
  rw[Ku t hk d,hn,AVu,AUi]
 refine⟨hrep,fun w b d => ?_,fun w d => ?_,fun w F b key es ms h => ?_⟩
 ·rw[(HR hk d).1]
  have:=fun m=>ABK (P:=P) (w:=w) b m (CH t d).toArray fs.toList 0 hok (by rw[AWY,hlen,AUi];omega)
  have gen:∀ m,(Instr.checkKey b (m+1+1) kt (.agg (CH t d).toArray)).run P w = .ok () w:=by
   intro m
   rw[Instr.checkKey]
   simp only[Sem.run_bind,run_underlying hu,Result.andThen_ok]
   rw[← Array.forIn_toList,this m]
   rfl
  exact gen 9998
 ·rw[(HR hk d).1]
  have gen:∀ m,Instr.sameBits (m+1) (.agg (CH t d).toArray) (.agg (CH t d).toArray)=true:=by
   intro m
   have hz:∀ l:List Value,(∀ v∈l,(∃ k i,v = .int k i)∨∃ b,v = .bool b)→((l.zip l).all fun p=>Instr.sameBits m p.1 p.2)=true:=by
    intro l
    induction l with
    |nil=>intro _;rfl
    |cons v l ih=>
     intro h
     rw[List.zip_cons_cons,List.all_cons,ih (fun x hx=>h x (by simp[hx]))]
     rcases h v (by simp)with⟨k,i,rfl⟩|⟨b,rfl⟩
     ·cases m<;>simp[Instr.sameBits]
     ·cases m<;>simp[Instr.sameBits]
   simp only[Instr.sameBits,beq_self_eq_true,AWy]
   exact hz _ (Kt t hk d)
  unfold Instr.keyThatStays
  rw[gen 9999]
  rfl
 ·have heq:∀ d d':t.den,(Op.equal kt (Bo t d) (Bo t d')).run P w = .ok (@decide (d=d') (decDen t d d')) w:=by
   intro d d'
   rw[(HR hk d).1,(HR hk d').1]
   unfold Op.equal Op.maxDepth
   rw[run_equalIn_agg w 9999 kt _ _ (by rw[hfo];exact hu) hst,hfo]
   have r:∀ x:t.den,AW w F (fun _=>none) [] (BA t x) ((CH t x).toArray.toList.drop 0):=fun x=>GN t ((MT t hk x _).2 (by simp))
   exact MP 9998 _ _ fs.toList 0 (BA t d) (BA t d') _ hok (r d) (r d') (by rw[← hn];exact OT t hk d d')
  have gen:∀ (es:List (t.den×b.den)) (ms:List MapEntry) (i:Nat),Gg w F t b es ms →
    (DJ es key=none∧AK es key=none∧(Instr.findAsking kt (Bo t key) ms i).run P w = .ok none w) ∨
    (∃ x n me,DJ es key=some n∧AK es key=some x∧(Instr.findAsking kt (Bo t key) ms i).run P w = .ok (some (i+n,me.val)) w∧ms[n]? = some me∧BW w F b x me.val∧me.key=Bo t key):=by
   intro es
   induction es with
   |nil=>rintro ms i rfl;exact .inl ⟨rfl,rfl,by simp[Instr.findAsking]⟩
   |cons e es ih=>
    rintro ms i ⟨me,ms',rfl,⟨h1,h2⟩,h3⟩
    obtain⟨a,x⟩:=e
    have hkk:=(hrep w F a _).1 h1
    simp only at h2
    have hq:=heq key a
    by_cases hak:a=key
    ·subst hak
     rw[AUO rfl]at hq
     refine .inr ⟨x,0,me,by simp[DJ],by simp[AK],?_,rfl,h2,hkk⟩
     simp[Instr.findAsking,hkk,hq]
    ·rw[AUN (fun h=>hak h.symm)]at hq
     have hfn:(Instr.findAsking kt (Bo t key) (me::ms') i).run P w=(Instr.findAsking kt (Bo t key) ms' (i+1)).run P w:=by
      simp[Instr.findAsking,hkk,hq]
     rcases ih ms' (i+1) h3 with⟨q0,q1,q2⟩|⟨y,n,me',q0,q1,q2,q3,q4,q5⟩
     ·exact .inl ⟨by simp[DJ,hak,q0],by simp[AK,hak,q1],by rw[hfn];exact q2⟩
     ·exact .inr ⟨y,n+1,me',by simp[DJ,hak,q0],by simp[AK,hak,q1],by rw[hfn,q2,show i+1+n=i+(n+1)from by omega],by simpa using q3,q4,q5⟩
  have hfk:∀ r,(Instr.findAsking kt (Bo t key) ms).run P w = .ok r w→(ms=[]→r=none)→(Instr.findKey kt (Bo t key) ms).run P w = .ok r w:=by
   intro r hr' hnil
   cases ms with
   |nil=>simp[Instr.findKey,run_underlying hu,Instr.findNow,hnil rfl]
   |cons me ms=>
    simp only[Instr.findKey,Sem.run_bind,run_underlying hu,Result.andThen_ok,Instr.findNow,Instr.sameNow]
    exact hr'
  rcases gen es ms 0 h with⟨q0,q1,q2⟩|⟨x,n,me,q0,q1,q2,q3,q4,q5⟩
  ·exact .inl ⟨q0,q1,hfk _ q2 (fun _=>rfl)⟩
  ·rw[AVL]at q2
   exact .inr ⟨x,n,me,q0,q1,hfk _ q2 (fun e=>by subst e;simp at q3),q3,q4,q5⟩
theorem WM{T:TypeId}{t:Ty}(h:Lu P T=some t):∃ e k,P.underlying T=some (.array 2 e)∧P.underlying e=some (.int k)∧BD P e=some 1∧t = .prod (.int k) (.prod (.int k) .unit):=by
 unfold Lu at h
 split at h
 ·rename_i n e hu
  split at h
  ·rename_i k hn he hs
   rw[AUP]at hn hs
   subst hn
   cases h
   exact⟨e,k,hu,he,hs,rfl⟩
  ·cases h
 ·cases h
theorem AP5{kt:TypeId}{t:Ty}(hp:Lu P kt=some t):ANr P kt t:=by
 obtain⟨e,j,hu,he,hs,rfl⟩:=WM hp
 obtain⟨i0,hi0,hi1⟩:=BL hs
 have hk:kinds? (.prod (.int j) (.prod (.int j) .unit))=some [true,true]:=rfl
 have hag:DR P e=some false:=by simp[DR,he]
 have hsz:∀ w,(sizeOf e).run P w = .ok 1 w:=fun w=>by rw[run_sizeOf hi0,hi1]
 have hkv:∀ d:(Ty.prod (.int j) (.prod (.int j) .unit)).den,Bo (.prod (.int j) (.prod (.int j) .unit)) d = .agg #[.int j d.1,.int j d.2.1]:=fun d=>rfl
 have hrep:∀ (w:World) (F:Nat→Prop) (d:(Ty.prod (.int j) (.prod (.int j) .unit)).den) (v:Value),BW w F (.prod (.int j) (.prod (.int j) .unit)) d v↔v=Bo (.prod (.int j) (.prod (.int j) .unit)) d:=by
  intro w F d v
  obtain⟨e1,e2⟩:=HR hk d
  unfold BW
  rw[AUf e2,e1]
  constructor
  ·rintro⟨vs,rfl,h⟩
   have:=(MT _ hk d _).1 h
   rw[← this]
  ·rintro rfl
   exact⟨_,rfl,(MT _ hk d _).2 (by simp)⟩
 have hpart:∀ (w:World) (a b:Value),(part e #[a,b] 0).run P w = .ok a w∧(part e #[a,b] 1).run P w = .ok b w:=fun w a b=>by
  constructor<;>simp[part,Bz hag]
 have hck1:∀ (w:World) (b:Bool) (n:Nat) (d:Int),(Instr.checkKey b (n+1) e (.int j d)).run P w = .ok () w:=fun w b n d=>by simp[Instr.checkKey,run_underlying he]
 refine⟨hrep,fun w b d => ?_,fun w d => ?_,fun w F b key es ms h => ?_⟩
 ·rw[hkv]
  have gen:∀ m,(Instr.checkKey b (m+1+1) kt (.agg #[.int j d.1,.int j d.2.1])).run P w = .ok () w:=by
   intro m
   rw[Instr.checkKey]
   simp only[Sem.run_bind,run_underlying hu,Result.andThen_ok]
   simp[Std.Legacy.Range.forIn_eq_forIn_range',Std.Legacy.Range.size,List.range',hsz,(hpart w _ _).1,(hpart w _ _).2,hck1]
  exact gen 9998
 ·rw[hkv]
  have gen:∀ m,Instr.sameBits (m+1) (.agg #[.int j d.1,.int j d.2.1]) (.agg #[.int j d.1,.int j d.2.1])=true:=by
   intro m
   cases m<;>simp[Instr.sameBits]
  unfold Instr.keyThatStays
  rw[gen 9999]
  rfl
 ·have heq:∀ d d':(Ty.prod (.int j) (.prod (.int j) .unit)).den,(Op.equal kt (Bo (.prod (.int j) (.prod (.int j) .unit)) d) (Bo (.prod (.int j) (.prod (.int j) .unit)) d')).run P w = .ok (@decide (d=d') (decDen (.prod (.int j) (.prod (.int j) .unit)) d d')) w:=by
   intro d d'
   rw[hkv,hkv]
   have hone:∀ (n:Nat) (a b:Int),(Op.equalIn (n+1) e (.int j a) (.int j b)).run P w = .ok (a==b) w:=fun n a b=>by simp[Op.equalIn,run_underlying he]
   have gen:∀ n,(Op.equalIn (n+1+1) kt (.agg #[.int j d.1,.int j d.2.1]) (.agg #[.int j d'.1,.int j d'.2.1])).run P w = .ok ((d.1==d'.1)&&(d.2.1==d'.2.1)) w:=by
    intro n
    rw[Op.equalIn]
    simp only[Sem.run_bind,run_underlying hu,Result.andThen_ok,hsz]
    simp only[Std.Legacy.Range.forIn_eq_forIn_range',Std.Legacy.Range.size,List.range',AWq,AVo]
    by_cases h1:d.1=d'.1
    ·by_cases h2:d.2.1=d'.2.1<;>simp[hone,(hpart w _ _).1,(hpart w _ _).2,h1,h2]
    ·simp[hone,(hpart w _ _).1,(hpart w _ _).2,h1]
   unfold Op.equal
   have:=gen 9998
   rw[show Op.maxDepth=9998+1+1 from rfl,this]
   congr 1
   rw[AWR,AUR,AV4,AV4]
   rw[AVS]
   obtain⟨a,b,⟨⟩⟩:=d
   obtain⟨a',b',⟨⟩⟩:=d'
   constructor
   ·rintro⟨h1,h2⟩
    have h1:a=a':=h1
    have h2:b=b':=h2
    rw[h1,h2]
   ·intro h
    cases h
    exact⟨rfl,rfl⟩
  have gen:∀ (es:List ((Ty.prod (.int j) (.prod (.int j) .unit)).den×b.den)) (ms:List MapEntry) (i:Nat),Gg w F (.prod (.int j) (.prod (.int j) .unit)) b es ms →
    (@DJ _ _ (decDen _) es key=none∧@AK _ _ (decDen _) es key=none∧(Instr.findAsking kt (Bo (.prod (.int j) (.prod (.int j) .unit)) key) ms i).run P w = .ok none w) ∨
    (∃ x n me,@DJ _ _ (decDen _) es key=some n∧@AK _ _ (decDen _) es key=some x∧(Instr.findAsking kt (Bo (.prod (.int j) (.prod (.int j) .unit)) key) ms i).run P w = .ok (some (i+n,me.val)) w∧ms[n]? = some me∧BW w F b x me.val∧me.key=Bo (.prod (.int j) (.prod (.int j) .unit)) key):=by
   intro es
   induction es with
   |nil=>rintro ms i rfl;exact .inl ⟨rfl,rfl,by simp[Instr.findAsking]⟩
   |cons e' es ih=>
    rintro ms i ⟨me,ms',rfl,⟨h1,h2⟩,h3⟩
    obtain⟨a,x⟩:=e'
    have hkk:=(hrep w F a _).1 h1
    simp only at h2
    have hq:=heq key a
    by_cases hak:a=key
    ·subst hak
     rw[AUO rfl]at hq
     refine .inr ⟨x,0,me,by simp[DJ],by simp[AK],?_,rfl,h2,hkk⟩
     simp[Instr.findAsking,hkk,hq]
    ·rw[AUN (fun h=>hak h.symm)]at hq
     have hfn:(Instr.findAsking kt (Bo (.prod (.int j) (.prod (.int j) .unit)) key) (me::ms') i).run P w=(Instr.findAsking kt (Bo (.prod (.int j) (.prod (.int j) .unit)) key) ms' (i+1)).run P w:=by
      simp[Instr.findAsking,hkk,hq]
     rcases ih ms' (i+1) h3 with⟨q0,q1,q2⟩|⟨y,n,me',q0,q1,q2,q3,q4,q5⟩
     ·exact .inl ⟨by simp[DJ,hak,q0],by simp[AK,hak,q1],by rw[hfn];exact q2⟩
     ·exact .inr ⟨y,n+1,me',by simp[DJ,hak,q0],by simp[AK,hak,q1],by rw[hfn,q2,show i+1+n=i+(n+1)from by omega],by simpa using q3,q4,q5⟩
  have hfk:∀ r,(Instr.findAsking kt (Bo (.prod (.int j) (.prod (.int j) .unit)) key) ms).run P w = .ok r w→(ms=[]→r=none)→(Instr.findKey kt (Bo (.prod (.int j) (.prod (.int j) .unit)) key) ms).run P w = .ok r w:=by
   intro r hr' hnil
   cases ms with
   |nil=>simp[Instr.findKey,run_underlying hu,Instr.findNow,hnil rfl]
   |cons me ms=>
    simp only[Instr.findKey,Sem.run_bind,run_underlying hu,Result.andThen_ok,Instr.findNow,Instr.sameNow]
    exact hr'
  rcases gen es ms 0 h with⟨q0,q1,q2⟩|⟨x,n,me,q0,q1,q2,q3,q4,q5⟩
  ·exact .inl ⟨q0,q1,hfk _ q2 (fun _=>rfl)⟩
  ·rw[AVL]at q2
   exact .inr ⟨x,n,me,q0,q1,hfk _ q2 (fun e=>by subst e;simp at q3),q3,q4,q5⟩
theorem L3{kt:TypeId}{t:Ty}(h:Pn P kt=some t):ANr P kt t:=by
 unfold Pn at h
 split at h
 ·rename_i t' hi
  cases h
  unfold AP8 at hi
  split at hi
  ·rename_i k hu
   cases hi
   exact ASK hu
  ·cases hi
 ·split at h
  ·rename_i n t' hs ht
   split at h
   ·rename_i hd
    cases h
    exact AIK hs (AVs hd)
   ·cases h
  ·exact AP5 h
end
end Go.Pev
end
section
namespace Go.Pev
open Go.RowKit
section
variable {P:Program} {E:Env}
theorem AJG(hE:∀ g,AP P g (E.spec g))(f:Operand)(args:Array Operand)(ts:Array TypeId):Claim P E (.call { callee:=.value f,args:=args,argTypes:=ts }):=by
 intro R ty ρ H fz slot k r h
 simp only[evalOp]at h
 split at h
 ·rename_i g caps hf
  obtain⟨v,e,h1,h2,h3,h4⟩:=hE g R _ H fz slot k r h
  refine⟨v,e,h1,fun R' k'=>by simp only[evalOp,hf];exact h2 R' k',?_⟩
  intro w F m a o next Q hop hty hi hr hn
  have hrf:=hr f
  rw[hf]at hrf
  unfold Rep at hrf
  obtain⟨cs,e1,e2⟩:=hrf
  have hargs:AW w F m H (args.toList.map ρ++caps) ((args.map a.eval++cs).toList):=by
   rw[AWO,AVU]
   exact E9 (Cl (by simp) fun i c v hc hv=>by
    rw[AVQ]at hc hv
    cases hx:args.toList[i]? with
    |none=>rw[hx]at hc;cases hc
    |some x=>
     rw[hx]at hc hv
     cases hc;cases hv
     exact hr x) e2
  have hcall:=h4 w F m _ hi hargs
  rw[AVp]at hcall
  unfold Oper.wp
  have hrun:(execOp a.eval o).run P w = .ok (.enter g (args.map a.eval++cs)) w:=by
   simp[execOp,hop,resolve,e1,Deferred.ofValue,invoke,h3 _ w]
  rw[hrun]
  exact hcall.mono fun en w' ⟨u,hen,F',m',hg,hrep⟩=>by
   subst hen
   exact hn u w' F' m' hg hrep
 ·rename_i g caps hf
  obtain⟨v,e,h1,h2,h3,h4⟩:=hE g R _ H fz slot k r h
  refine⟨v,e,h1,fun R' k'=>by simp only[evalOp,hf];exact h2 R' k',?_⟩
  intro w F m a o next Q hop hty hi hr hn
  have hrf:=hr f
  rw[hf]at hrf
  unfold Rep at hrf
  obtain⟨cs,e1,e2⟩:=hrf
  have hargs:AW w F m H (caps++args.toList.map ρ) ((cs++args.map a.eval).toList):=by
   rw[AWO,AVU]
   exact E9 e2 (Cl (by simp) fun i c v hc hv=>by
    rw[AVQ]at hc hv
    cases hx:args.toList[i]? with
    |none=>rw[hx]at hc;cases hc
    |some x=>
     rw[hx]at hc hv
     cases hc;cases hv
     exact hr x)
  have hcall:=h4 w F m _ hi hargs
  rw[AVp]at hcall
  unfold Oper.wp
  have hrun:(execOp a.eval o).run P w = .ok (.enter g (cs++args.map a.eval)) w:=by
   simp[execOp,hop,resolve,e1,Deferred.ofValue,invoke,h3 _ w]
  rw[hrun]
  exact hcall.mono fun en w' ⟨u,hen,F',m',hg,hrep⟩=>by
   subst hen
   exact hn u w' F' m' hg hrep
 ·cases h
theorem AGA{T:TypeId}(h:AJm P T=true):P.underlying T=some .string:=by
 unfold AJm at h
 split at h
 ·assumption
 ·cases h
theorem ABL{T:TypeId}(h:Q8 P T=true):∃ e,P.underlying T=some (.slice e)∧P.underlying e=some (.int .u8):=by
 unfold Q8 at h
 split at h
 ·rename_i e hu
  split at h
  ·rename_i hu';exact⟨e,hu,hu'⟩
  ·cases h
 ·cases h
theorem AGT{w:World}{F:Nat→Prop}:∀ {xs:List Int} {row:List Value},rows (Dat w F (.int .u8)) xs row→row=xs.map (Value.int .u8):=by
 intro xs
 induction xs with
 |nil=>rintro row rfl;rfl
 |cons x xs ih=>
  rintro row ⟨c1,c2,rfl,h1,h2⟩
  rw[ih h2]
  have h1:c1=[.int .u8 x]:=by simpa [Dat]using h1
  rw[h1];rfl
theorem AGs:∀ (xs:List Int) (s:ByteArray),bytesOf (xs.foldl (fun r n=>r.push (UInt8.ofNat n.toNat)) s)=bytesOf s++UL xs:=by
 intro xs
 induction xs with
 |nil=>intro s;simp[UL]
 |cons x xs ih=>
  intro s
  rw[AVN,ih]
  simp[bytesOf,UL,ByteArray.push]
theorem AQx{S T:TypeId}{x:Operand}{w:World}{F:Nat→Prop}{m:Mp}{H:List Ob}{fz:List Bool}{v:AV}{xs:List Int}{fr:List Nat}{ρc:Operand→Value}{o:Oper}(hop:o.op = .convert S T x)
  (hs:Q8 P S=true) (hd:AJm P T=true) (hi:HI w F m H fz) (hx:Ej H (.slice (.int .u8)) v=some (xs,fr)) (hr:Rep w F m H v (ρc x)) :
  ∃ u,(execOp ρc o).run P w = .ok (.value u) w∧Rep w F m H (.str (UL xs)) u:=by
 obtain⟨e,h1,h2⟩:=ABL hs
 have h3:=AGA hd
 obtain⟨a,cap,e1,hle,hne,news,hrows,hcell⟩:=GW hi hx hr
 cases a with
 |none=>
  have hxs:xs=[]:=by
   cases xs with
   |nil=>rfl
   |cons a b=>exact absurd (hne (by simp)) (by simp)
  subst hxs
  refine⟨.string ByteArray.empty,?_,?_⟩
  ·simp[execOp,hop,e1,run_convert_bytes_string w S T e none _ _ h1 h2 h3,Conv.bytesToString]
  ·unfold Rep;exact⟨_,rfl,rfl⟩
 |some ad=>
  have hn:=AGT hrows
  subst hn
  have hl:(Go.loadCells ad xs.length).run P w = .ok (xs.map (Value.int .u8)).toArray w:=by
   have:=run_loadCells_list (P:=P) w ad (xs.map (Value.int .u8)) (fun j v hj=>hcell ad rfl j v hj)
   simpa using this
  refine⟨.string (xs.foldl (fun r n=>r.push (UInt8.ofNat n.toNat)) ByteArray.empty),?_,?_⟩
  ·simp[execOp,hop,e1,run_convert_bytes_string w S T e (some ad) _ _ h1 h2 h3,run_bytesToString w ad _ cap xs hl]
  ·unfold Rep;exact⟨_,rfl,(AGs _ _).trans (AVA _)⟩
theorem Wk(S T:TypeId)(x:Operand):Claim P E (.convert S T x):=by
 intro R ty ρ H fz slot k r h
 simp only[evalOp]at h
 split at h
 ·rename_i j' n j hx hs hk
  refine⟨_,_,h,fun R' k'=>by simp only[evalOp,hx,hs,hk],AS fun w F m ρc o hop hty hi hr=>⟨.int j (j.wrap n),?_,Ao _ _⟩⟩
  have e1:=A5 (hx▸hr x)
  obtain⟨d,hd⟩:=AV7.1 hs
  simp[execOp,hop,e1,convert,run_underlying hd,run_underlying (Pm hk),Conv.intToInt]
 ·rename_i v b1 b2 hne
  split at h
  ·rename_i hs hd
   split at h
   ·rename_i xs fr hx
    refine⟨_,_,h,fun R' k' => ?_,AS fun w F m ρc o hop hty hi hr=>AQx hop hs hd hi hx (hr x)⟩
    simp only[evalOp]
    simp only[hs,hd,hx]
   ·cases h
  ·cases h
theorem AOt{w:World}{F:Nat→Prop}{k:IntKind}{n:Int}{v:Value}(h:BW w F (.int k) n v):v = .int k n:=by
 unfold BW at h
 have h:Dat w F (.int k) n [v]:=h
 simpa [Dat]using h
theorem CN{w:World}{r:Nat}{ms:Array MapEntry}{clock:Nat}(h:w.heap[r]? = some (.map ms clock)):(getObj r).run P w = .ok (.map ms clock) w:=by
 simp[getObj,Sem.run,h]
theorem ABF(T:TypeId)(mm x:Operand)(ok:Bool):Claim P E (.lookup T mm x ok):=by
 intro R ty ρ H fz slot k r h
 simp only[evalOp]at h
 split at h
 ·rename_i kt vt id hu hm
  split at h
  ·rename_i ka b es ho
   split at h
   ·rename_i b' cs' hkt hz
    split at h
    ·rename_i key fr hb hx
     simp only[AUP]at hb
     subst hb
     have hkt':=hkt
     simp only[AUP]at hkt'
     have hK:=L3 hkt'
     obtain⟨hty',hcs',i,z,hi0,hz0,hok,hsz,hza⟩:=B0 hz
     subst hcs'
     have main:∀ (w:World) (F:Nat→Prop) (m:Mp) (ρc:Operand→Value) (o:Oper),o.op = .lookup T mm x ok→HI w F m H fz→(∀ x,Rep w F m H (ρ x) (ρc x)) →
       ∃ u,(execOp ρc o).run P w = .ok (.value (if ok then .tuple #[u,.bool (AK (α:=ka.den) es key).isSome]else u)) w∧BW w F b' ((AK (α:=ka.den) es key).getD b'.zero) u:=by
      intro w F m ρc o hop hi hr
      have hrm:=hr mm
      rw[hm]at hrm
      unfold Rep at hrm
      rw[ho]at hrm
      obtain⟨bb,c,e1,e2⟩:=hrm
      obtain⟨b2,c',ms,clock,e3,e4,e5,_⟩:=hi.obj id _ ho
      rw[e1]at e3;cases e3
      have hkv:ρc x=Bo ka key:=(hK.rep _ _ _ _).1 (Ex hi hx (hr x))
      have hck:=hK.check w ms.isEmpty key
      rcases hK.find w F _ key es ms.toList e5 with⟨_,q1,q2⟩|⟨y,n,me,_,q1,q2,q3,q4,_⟩
      ·refine⟨z,?_,by rw[q1];exact NH hok hza⟩
       rw[q1]
       simp only[execOp,hop,e2,hkv,Instr.lookup,Sem.run_bind,run_underlying hu,Result.andThen_ok,CN e4,hck,q2,BZ hi0 hz0,Sem.run_pure]
       cases ok<;>rfl
      ·refine⟨me.val,?_,by rw[q1];exact q4⟩
       rw[q1]
       simp only[execOp,hop,e2,hkv,Instr.lookup,Sem.run_bind,run_underlying hu,Result.andThen_ok,CN e4,hck,q2,Sem.run_pure]
       cases ok<;>rfl
     split at h
     ·refine⟨_,_,h,fun R' k'=>by simp only[evalOp,hu,hm,ho,hkt,hz,AUX,hx],AS fun w F m ρc o hop hty hi hr => ?_⟩
      obtain⟨u,h1,h2⟩:=main w F m ρc o hop hi hr
      refine⟨_,h1,?_⟩
      unfold Rep
      refine⟨_,rfl,?_⟩
      unfold AW
      refine⟨u,_,rfl,by unfold Rep;exact h2,VP (BM _)⟩
     ·refine⟨_,_,h,fun R' k'=>by simp only[evalOp,hu,hm,ho,hkt,hz,AUX,hx],AS fun w F m ρc o hop hty hi hr => ?_⟩
      obtain⟨u,h1,h2⟩:=main w F m ρc o hop hi hr
      exact⟨u,h1,by unfold Rep;exact h2⟩
    ·cases h
   ·cases h
  ·cases h
 ·cases h
theorem DY{w:World}{r:Nat}{ms ms':Array MapEntry}{clock clock':Nat}(h:w.heap[r]? = some (.map ms clock)):
  (setObj r (.map ms' clock')).run P w = .ok () { w with heap:=w.heap.setIfInBounds r (.map ms' clock') }:=by
 simp[setObj,Sem.run,h]
theorem GV.push{ms:Array MapEntry}{clock:Nat}(h:GV ms clock)(key val:Value):GV (ms.push { key:=key,val:=val,born:=clock }) (clock+1):=by
 obtain⟨h1,h2⟩:=h
 refine⟨by rw[Array.size_push,h1],fun i e he => ?_⟩
 rw[Array.getElem?_push]at he
 split at he
 ·cases he
  show clock=_
  omega
 ·exact h2 i e he
theorem GV.modify{ms:Array MapEntry}{clock:Nat}(h:GV ms clock)(n:Nat){f:MapEntry→MapEntry}(hf:∀ e,(f e).born=e.born):GV (ms.modify n f) clock:=by
 obtain⟨h1,h2⟩:=h
 refine⟨by rw[Array.size_modify,h1],fun i e he => ?_⟩
 rw[Array.getElem?_modify]at he
 split at he
 ·rw[AUd]at he
  obtain⟨e',he',rfl⟩:=he
  rw[hf];exact h2 i e' he'
 ·exact h2 i e he
theorem Qc(T:TypeId)(mm x y:Operand):Claim P E (.mapUpdate T mm x y):=by
 intro R ty ρ H fz slot k r h
 simp only[evalOp]at h
 split at h
 ·rename_i kt vt id hu hm
  split at h
  ·rename_i ka b es ho
   split at h
   ·rename_i key fr0 val fr hkt hx hy
    refine⟨_,_,h,fun R' k'=>by simp only[evalOp,hu,hm,ho,hkt,hx,hy],Fi fun w F m ρc o hop hty hi hr => ?_⟩
    have hkt':=hkt
    simp only[AUP]at hkt'
    have hK:=L3 hkt'
    have hgf:=At.freeze hi fr
    have hrm:=hr mm
    rw[hm]at hrm
    unfold Rep at hrm
    rw[ho]at hrm
    obtain⟨bb,c,e1,e2⟩:=hrm
    obtain⟨b2,c',ms,clock,e3,e4,e5,e6⟩:=hgf.2.obj id _ ho
    rw[e1]at e3;cases e3
    have hkv:ρc x=Bo ka key:=(hK.rep _ _ _ _).1 (Ex hi hx (hr x))
    have hvd:=Ex hi hy (hr y)
    have hck:=hK.check w false key
    have hst:=hK.stays w key
    have hlt:=BG e4
    have main:∀ (ms':Array MapEntry) (clock':Nat),Gg w (DK F m H fr) ka b (Ab (α:=ka.den) es key val) ms'.toList→GV ms' clock' →
      At w (DK F m H fr) m H (Ag fr fz) { w with heap:=w.heap.setIfInBounds bb (.map ms' clock') } (DK F m H fr) m (H.set id (.map ka b (Ab (α:=ka.den) es key val))) (Ag fr fz):=by
     intro ms' clock' he hbo
     refine At.set hgf.2 (Dn ho) e1 ho trivial rfl rfl rfl (by simp) (fun k hk=>by simp[AU1 hk]) fun _ => ?_
     refine⟨bb,c,ms',clock',e1,by simp[hlt],?_,hbo⟩
     refine he.mono (fun a ha => ?_) (fun _ h=>h)
     have:a.block≠bb:=by rintro rfl;exact hgf.2.off id _ c (Dn ho) e1 ha
     simp[World.cell?,AU1 this]
    obtain⟨s1,s2⟩:=hK.store key val _ hvd e5
    rcases hK.find w _ _ key es ms.toList e5 with⟨q1,_,q2⟩|⟨y',n,me,q1,_,q2,q3,q4,q5⟩
    ·have hg:=main (ms.push { key:=Bo ka key,val:=ρc y,born:=clock }) (clock+1) (by rw[Array.toList_push];exact s1 clock q1) (e6.push _ _)
     refine⟨_,_,m,?_,hgf.trans hg⟩
     simp only[execOp,hop,e2,hkv,Instr.mapUpdate,Sem.run_bind,run_underlying hu,Result.andThen_ok,CN e4,hck,q2,DY e4,Sem.run_pure]
    ·have hg:=main (ms.modify n fun e=>{ e with key:=Bo ka key,val:=ρc y }) clock (by rw[AWl];exact s2 n q1) (e6.modify _ fun _=>rfl)
     refine⟨_,_,m,?_,hgf.trans hg⟩
     have hgetn:ms[n]? = some me:=by simpa using q3
     have hold:(((ms[n]?).map (·.key)).getD (Bo ka key))=Bo ka key:=by rw[hgetn];exact q5
     simp only[execOp,hop,e2,hkv,Instr.mapUpdate,Sem.run_bind,run_underlying hu,Result.andThen_ok,CN e4,hck,q2,hold,hst,DY e4,Sem.run_pure]
   ·cases h
  ·cases h
 ·cases h
theorem ABG(T:TypeId)(mm x y:Operand):Claim P E (.insert T mm x y):=by
 intro R ty ρ H fz slot k r h
 simp only[evalOp]at h
 split at h
 ·rename_i kt vt id hu hm
  split at h
  ·rename_i ka b es ho
   split at h
   ·rename_i key fr0 val fr hkt hx hy
    refine⟨_,_,h,fun R' k'=>by simp only[evalOp,hu,hm,ho,hkt,hx,hy],Fi fun w F m ρc o hop hty hi hr => ?_⟩
    have hkt':=hkt
    simp only[AUP]at hkt'
    have hK:=L3 hkt'
    have hgf:=At.freeze hi fr
    have hrm:=hr mm
    rw[hm]at hrm
    unfold Rep at hrm
    rw[ho]at hrm
    obtain⟨bb,c,e1,e2⟩:=hrm
    obtain⟨b2,c',ms,clock,e3,e4,e5,e6⟩:=hgf.2.obj id _ ho
    rw[e1]at e3;cases e3
    have hkv:ρc x=Bo ka key:=(hK.rep _ _ _ _).1 (Ex hi hx (hr x))
    have hvd:=Ex hi hy (hr y)
    have hck:=hK.check w false key
    have hst:=hK.stays w key
    have hlt:=BG e4
    have main:∀ (ms':Array MapEntry) (clock':Nat),Gg w (DK F m H fr) ka b (Ab (α:=ka.den) es key val) ms'.toList→GV ms' clock' →
      At w (DK F m H fr) m H (Ag fr fz) { w with heap:=w.heap.setIfInBounds bb (.map ms' clock') } (DK F m H fr) m (H.set id (.map ka b (Ab (α:=ka.den) es key val))) (Ag fr fz):=by
     intro ms' clock' he hbo
     refine At.set hgf.2 (Dn ho) e1 ho trivial rfl rfl rfl (by simp) (fun k hk=>by simp[AU1 hk]) fun _ => ?_
     refine⟨bb,c,ms',clock',e1,by simp[hlt],?_,hbo⟩
     refine he.mono (fun a ha => ?_) (fun _ h=>h)
     have:a.block≠bb:=by rintro rfl;exact hgf.2.off id _ c (Dn ho) e1 ha
     simp[World.cell?,AU1 this]
    obtain⟨s1,s2⟩:=hK.store key val _ hvd e5
    rcases hK.find w _ _ key es ms.toList e5 with⟨q1,_,q2⟩|⟨y',n,me,q1,_,q2,q3,q4,q5⟩
    ·have hg:=main (ms.push { key:=Bo ka key,val:=ρc y,born:=clock }) (clock+1) (by rw[Array.toList_push];exact s1 clock q1) (e6.push _ _)
     refine⟨_,_,m,?_,hgf.trans hg⟩
     simp only[execOp,hop,e2,hkv,Instr.mapUpdate,Sem.run_bind,run_underlying hu,Result.andThen_ok,CN e4,hck,q2,DY e4,Sem.run_pure]
    ·have hg:=main (ms.modify n fun e=>{ e with key:=Bo ka key,val:=ρc y }) clock (by rw[AWl];exact s2 n q1) (e6.modify _ fun _=>rfl)
     refine⟨_,_,m,?_,hgf.trans hg⟩
     have hgetn:ms[n]? = some me:=by simpa using q3
     have hold:(((ms[n]?).map (·.key)).getD (Bo ka key))=Bo ka key:=by rw[hgetn];exact q5
     simp only[execOp,hop,e2,hkv,Instr.mapUpdate,Sem.run_bind,run_underlying hu,Result.andThen_ok,CN e4,hck,q2,hold,hst,DY e4,Sem.run_pure]
   ·cases h
  ·cases h
 ·cases h
theorem Zt{ms:Array MapEntry}{n:Nat}{me:MapEntry}(h:ms[n]? = some me){f g:MapEntry→MapEntry}(he:f me=g me):ms.modify n f=ms.modify n g:=by
 apply Array.ext_getElem?
 intro i
 rw[Array.getElem?_modify,Array.getElem?_modify]
 split
 ·rename_i hi
  subst hi
  rw[h,AWS,AWS,he]
 ·rfl
theorem UZ(T:TypeId)(mm x:Operand):Claim P E (.mapEntry T mm x):=by
 intro R ty ρ H fz slot k r h
 simp only[evalOp]at h
 split at h
 ·rename_i kt vt id hu hm
  split at h
  ·rename_i ka b es ho
   split at h
   ·rename_i b' cs' key fr hkt hz hx
    split at h
    ·rename_i hb
     simp only[AUP]at hb
     subst hb
     refine⟨_,_,h,fun R' k'=>by simp only[evalOp,hu,hm,ho,hkt,hz,hx,AUX],A7 fun w F m ρc o hop hty hi hr => ?_⟩
     have hkt':=hkt
     simp only[AUP]at hkt'
     have hK:=L3 hkt'
     obtain⟨hty',hcs',i,z,hi0,hz0,hok,hsz,hza⟩:=B0 hz
     subst hcs'
     have hrm:=hr mm
     rw[hm]at hrm
     unfold Rep at hrm
     rw[ho]at hrm
     obtain⟨bb,c,e1,e2⟩:=hrm
     obtain⟨b2,c',ms,clock,e3,e4,e5,e6⟩:=hi.obj id _ ho
     rw[e1]at e3;cases e3
     have hkv:ρc x=Bo ka key:=(hK.rep _ _ _ _).1 (Ex hi hx (hr x))
     have hck:=hK.check w false key
     have hst:=hK.stays w key
     have hlt:=BG e4
     have main:∀ (val:b'.den) (ms':Array MapEntry) (clock':Nat),Gg w F ka b' (Ab (α:=ka.den) es key val) ms'.toList→GV ms' clock' →
       At w F m H fz { w with heap:=w.heap.setIfInBounds bb (.map ms' clock') } F m (H.set id (.map ka b' (Ab (α:=ka.den) es key val))) fz:=by
      intro val ms' clock' he hbo
      refine At.set hi (Dn ho) e1 ho trivial rfl rfl rfl (by simp) (fun k hk=>by simp[AU1 hk]) fun _ => ?_
      refine⟨bb,c,ms',clock',e1,by simp[hlt],?_,hbo⟩
      refine he.mono (fun a ha => ?_) (fun _ h=>h)
      have:a.block≠bb:=by rintro rfl;exact hi.off id _ c (Dn ho) e1 ha
      simp[World.cell?,AU1 this]
     have tup:∀ (d:b'.den) (u:Value) (n:Nat),BW w F b' d u→Rep w F m H (.tup [.data b' d,.data (.int .i64) (n:Int)]) (.tuple #[u,goInt (n:Int)]):=by
      intro d u n hd
      unfold Rep
      refine⟨_,rfl,?_⟩
      unfold AW
      exact⟨u,_,rfl,by unfold Rep;exact hd,VP (Ao _ _)⟩
     have hlen:=UG e5
     rcases hK.find w _ _ key es ms.toList e5 with⟨q1,q0,q2⟩|⟨y',n,me,q1,q0,q2,q3,q4,q5⟩
     ·obtain⟨s1,_⟩:=hK.store key b'.zero z (NH hok hza) e5
      have hg:=main b'.zero (ms.push { key:=Bo ka key,val:=z,born:=clock }) (clock+1) (by rw[Array.toList_push];exact s1 clock q1) (e6.push _ _)
      have hp:Kb (α:=ka.den) es key=(clock:Int):=by
       unfold Kb
       rw[q1,e6.1]
       rw[AUi]at hlen
       rw[Option.getD_none,hlen]
      rw[q0,Option.getD_none,hp]
      refine⟨_,_,F,m,?_,hg,hg.1.rep hi (tup b'.zero z clock (NH hok hza))⟩
      simp only[execOp,hop,e2,hkv,Instr.mapEntry,Sem.run_bind,run_underlying hu,Result.andThen_ok,CN e4,hck,q2,BZ hi0 hz0,DY e4,Sem.run_pure]
     ·obtain⟨_,s2⟩:=hK.store key y' me.val q4 e5
      have hgetn:ms[n]? = some me:=by simpa using q3
      have hmod:(ms.modify n fun e=>{ e with key:=Bo ka key,val:=me.val })=ms.modify n fun e=>{ e with key:=Bo ka key }:=Zt hgetn rfl
      have hg:=main y' (ms.modify n fun e=>{ e with key:=Bo ka key,val:=me.val }) clock (by rw[AWl];exact s2 n q1) (e6.modify _ fun _=>rfl)
      rw[hmod]at hg
      have hp:Kb (α:=ka.den) es key=(n:Int):=by
       unfold Kb
       rw[q1,AU5]
      rw[q0,AU5,hp]
      have hold:(((ms[n]?).map (·.key)).getD (Bo ka key))=Bo ka key:=by rw[hgetn];exact q5
      have hbn:(((ms[n]?).map fun x=>(x.born:Int)).getD 0)=(n:Int):=by
       rw[hgetn]
       show(me.born:Int)=n
       rw[e6.2 n me hgetn]
      refine⟨_,_,F,m,?_,hg,hg.1.rep hi (tup y' me.val n q4)⟩
      simp only[execOp,hop,e2,hkv,Instr.mapEntry,Sem.run_bind,run_underlying hu,Result.andThen_ok,CN e4,hck,q2,hold,hst,hbn,DY e4,Sem.run_pure]
    ·cases h
   ·cases h
  ·cases h
 ·cases h
theorem AQn{w:World}{F:Nat→Prop}{a b:Ty}(val:b.den)(v:Value)(hv:BW w F b val v):∀ {es:List (a.den×b.den)} {ms:List MapEntry} (n:Nat),Gg w F a b es ms→Gg w F a b (es.modify n fun e=>(e.1,val)) (ms.modify n fun e=>{ e with val:=v }):=by
 intro es
 induction es with
 |nil=>rintro ms n rfl;cases n<;>rfl
 |cons e es ih=>
  rintro ms n ⟨me,ms',rfl,⟨h1,h2⟩,h3⟩
  cases n with
  |zero=>exact⟨_,ms',rfl,⟨h1,hv⟩,h3⟩
  |succ n=>exact⟨me,_,rfl,⟨h1,h2⟩,ih n h3⟩
theorem ANF{ms:Array MapEntry}{clock:Nat}(h:GV ms clock){i:Nat}(hi:i<ms.size):ms.findIdx? (fun e=>(e.born:Int)==(i:Int))=some i:=by
 rw[Array.findIdx?_eq_some_iff_getElem]
 refine⟨hi,?_,fun j hj => ?_⟩
 ·have:=h.2 i ms[i] (by simp[hi])
  simp[this]
 ·have:=h.2 j ms[j] (by simp)
  simp[this]
  omega
theorem Oa(T:TypeId)(mm s y:Operand):Claim P E (.entryStore T mm s y):=by
 intro R ty ρ H fz slot k r h
 simp only[evalOp]at h
 split at h
 ·rename_i id i0 hm hs
  split at h
  ·rename_i ka b es ho
   split at h
   ·rename_i val fr hy
    split at h
    rotate_left
    ·cases h
    rename_i hc
    refine⟨_,_,h,fun R' k'=>by simp only[evalOp,hm,hs,ho,hy,hc],Fi fun w F m ρc o hop hty hi hr => ?_⟩
    have hgf:=At.freeze hi fr
    have hrm:=hr mm
    rw[hm]at hrm
    unfold Rep at hrm
    rw[ho]at hrm
    obtain⟨bb,c,e1,e2⟩:=hrm
    obtain⟨b2,c',ms,clock,e3,e4,e5,e6⟩:=hgf.2.obj id _ ho
    rw[e1]at e3;cases e3
    have hrs:=hr s
    rw[hs]at hrs
    unfold Rep at hrs
    have hsv:=AOt hrs
    have hvd:=Ex hi hy (hr y)
    have hlt:=BG e4
    have hlen:=UG e5
    rw[AUi]at hlen
    rw[AUR,Az,Aq,AVS,AVS]at hc
    obtain⟨n,rfl⟩:=AUW hc.1
    have hn:n<ms.size:=by
     have:=hc.2
     unfold AQ at this
     omega
    have hfi:=ANF e6 hn
    have hg:At w (DK F m H fr) m H (Ag fr fz) { w with heap:=w.heap.setIfInBounds bb (.map (ms.modify n fun e=>{ e with val:=ρc y }) clock) } (DK F m H fr) m (H.set id (.map ka b (AHj es (n:Int) val))) (Ag fr fz):=by
     refine At.set hgf.2 (Dn ho) e1 ho trivial rfl rfl rfl (by simp) (fun k hk=>by simp[AU1 hk]) fun _ => ?_
     refine⟨bb,c,ms.modify n fun e=>{ e with val:=ρc y },clock,e1,by simp[hlt],?_,e6.modify n fun _=>rfl⟩
     have he:Gg w (DK F m H fr) ka b (es.modify n fun e=>(e.1,val)) (ms.modify n fun e=>{ e with val:=ρc y }).toList:=by
      rw[AWl];exact AQn val (ρc y) hvd n e5
     unfold AHj
     rw[AVI]
     refine he.mono (fun a ha => ?_) (fun _ h=>h)
     have:a.block≠bb:=by rintro rfl;exact hgf.2.off id _ c (Dn ho) e1 ha
     simp[World.cell?,AU1 this]
    refine⟨_,_,m,?_,hgf.trans hg⟩
    simp only[execOp,hop,e2,hsv,Instr.entryStore,Sem.run_bind,Result.andThen_ok,CN e4,asInt,asIntOf,Sem.run_pure,hfi,DY e4]
   ·cases h
  ·cases h
 ·cases h
theorem HW(hE:∀ g,AP P g (E.spec g))(o:Op):Claim P E o:=by
 cases o with
 |move x=>exact AJE x
 |assign x=>exact ABH x
 |pick c a b=>exact AJD c a b
 |alloc T=>exact AFU T
 |box T x=>exact ANY T x
 |build T parts=>exact AFS T parts
 |buildSlice T len parts=>exact Oc T len parts
 |load T x=>exact AJF T x
 |store T x y=>exact AFO T x y
 |nilCheck x=>exact UY x
 |binOp op T x y T'=>exact AFT op T x y T'
 |unOp op T x=>exact AJC op T x
 |convert S T x=>exact Wk S T x
 |makeFunc fn first cs=>exact VA fn first cs
 |makeMap T r=>exact Wi T r
 |makeSlice T x y=>exact Qd T x y
 |slice T x lo up mx=>
  cases mx with
  |none=>exact OZ T x lo up
  |some mx=>exact Qb T x lo up mx
 |fieldAddr T x f=>exact Qf T x f
 |field T x f=>exact AFQ T x f
 |indexAddr T x y=>exact Qe T x y
 |index T x y=>exact AFP T x y
 |lookup T m x ok=>exact ABF T m x ok
 |mapUpdate T m x y=>exact Qc T m x y
 |insert T m x y=>exact ABG T m x y
 |mapEntry T m x=>exact UZ T m x
 |entryStore T m s y=>exact Oa T m s y
 |extract x i=>exact Wj x i
 |call c=>
  obtain⟨callee,args,ts⟩:=c
  cases callee with
  |value f=>exact AJG hE f args ts
  |invoke r n=>intro R ty ρ H fz slot k r h;simp[evalOp]at h
  |builtin b=>
   cases b with
   |len=>exact ANW args ts
   |append=>exact ABI args ts
   |cap=>exact ANX args ts
   |min=>exact ANU args ts
   |max=>exact ANV args ts
   |clear=>exact AFR args ts
   |_=>intro R ty ρ H fz slot k r h;simp[evalOp]at h
 |_=>intro R ty ρ H fz slot k r h;simp[evalOp]at h
end
end Go.Pev
end
section
namespace Go.Pev
open Go.RowKit
structure SI(w:World)(F:Nat→Prop)(m:Mp)(st:St)(a:Act):Prop where
 tmps:∀ t,Rep w F m st.heap (st.tmps.getD t .junk) (a.tmps.getD t undef)
 size:st.tmps.length=a.tmps.size
 heap:HI w F m st.heap st.frz
 defers:a.defers=[]
def ATy{R:Type}(r:R)(k:St→Option R)(w:World)(F:Nat→Prop)(m:Mp)(H:List Ob)(fz:List Bool)(a':Act)(w':World):Prop:=
 ∃ st' F' m',k st'=some r∧SI w' F' m' st' a'∧Ext w F m H fz w' F' m' st'.heap st'.frz
section
variable {P:Program} {E:Env} {R:Type} {r:R}
theorem SI.put{w:World}{F:Nat→Prop}{m:Mp}{st:St}{a:Act}(h:SI w F m st a){v:AV}{u:Value}(hr:Rep w F m st.heap v u)(d:Option Tmp):SI w F m (st.put d v) (a.put d u):=by
 cases d with
 |none=>exact h
 |some d=>
  refine⟨fun t => ?_,by simp[St.put,Act.put,h.size],h.heap,h.defers⟩
  simp only[St.put,Act.put]
  by_cases htd:t=d
  ·subst htd
   by_cases hlt:t<st.tmps.length
   ·have hlt':t<a.tmps.size:=h.size▸hlt
    simp[hlt,hlt',hr]
   ·have hlt':¬ t<a.tmps.size:=h.size▸hlt
    have:=h.tmps t
    rw[AUS,AUz]at this ⊢
    rw[List.set_eq_of_length_le (by omega)]
    simpa [Array.setIfInBounds,hlt']using this
  ·have:=h.tmps t
   rw[AUS,AUz]at this ⊢
   rw[AU7 (AU1 htd),Array.getElem?_setIfInBounds_ne (AU1 htd)]
   exact this
theorem SI.go{w w':World}{F F':Nat→Prop}{m m':Mp}{st:St}{a:Act}(h:SI w F m st a){e:Eff}(hg:At w F m st.heap st.frz w' F' m' (DQ e st.heap) (IE e st.frz)):SI w' F' m' (st.app e) a:=
 ⟨fun t=>hg.1.rep h.heap (h.tmps t),h.size,hg.2,h.defers⟩
theorem SI.lit{w:World}{F:Nat→Prop}{m:Mp}{st:St}{a:Act}(h:SI w F m st a){d:Nat}{b:Bool}(hd:st.tmps[d]? = some (.data .bool b)):SI w F m { st with tmps:=st.tmps.set d (.data .bool b) } a:=by
 have:st.tmps.set d (.data .bool b)=st.tmps:=by
  apply AWD
  intro i
  by_cases hid:i=d
  ·subst hid
   rw[hd,AWU (by
    rcases AVF i st.tmps.length with h'|h'
    ·exact h'
    ·rw[AU0 h']at hd;cases hd)]
  ·rw[AU7 (AU1 hid)]
 rw[this];exact h
theorem KT{w:World}{F:Nat→Prop}{m:Mp}{st:St}{a:Act}(h:SI w F m st a){ops:Array Oper}{j d:Nat}(hj:(ops.toList[j]?).bind (·.dst)=some d){b:Bool}(hd:st.tmps[d]? = some (.data .bool b)):
  yielded ops a.tmps j=some b:=by
 have hlt:d<st.tmps.length:=by
  rcases AVF d st.tmps.length with h'|h'
  ·exact h'
  ·rw[AU0 h']at hd;cases hd
 have hlt':d<a.tmps.size:=h.size▸hlt
 have hr:=h.tmps d
 rw[AUS,hd,AUz,AVH hlt']at hr
 have hb:=CF hr
 simp only[AU5]at hb
 have hj':(ops[j]?).bind (·.dst)=some d:=by simpa using hj
 unfold yielded
 rw[hj']
 simp[AVH hlt',hb]
theorem ACN{w:World}{F:Nat→Prop}{m:Mp}{H:List Ob}:Rep w F m H BB undef:=by
 unfold BB Rep
 exact⟨#[],rfl,by unfold AW;rfl⟩
theorem LQ{w:World}{F:Nat→Prop}{m:Mp}{st:St}{a:Act}(h:SI w F m st a){ops:Array Oper}{j d:Nat}(hj:(ops.toList[j]?).bind (·.dst)=some d)(hd:st.tmps[d]? = some (.tup [])):
  yielded ops a.tmps j=none:=by
 have hlt:d<st.tmps.length:=by
  rcases AVF d st.tmps.length with h'|h'
  ·exact h'
  ·rw[AU0 h']at hd;cases hd
 have hlt':d<a.tmps.size:=h.size▸hlt
 have hr:=h.tmps d
 rw[AUS,hd,AUz,AVH hlt']at hr
 simp only[AU5]at hr
 unfold Rep at hr
 obtain⟨us,e,_⟩:=hr
 have hj':(ops[j]?).bind (·.dst)=some d:=by simpa using hj
 unfold yielded
 rw[hj']
 simp[AVH hlt',e]
theorem AIc{w:World}{F:Nat→Prop}{m:Mp}{st:St}{a:Act}(h:SI w F m st a){ops:Array Oper}{o:Oper}{yes no:St→Option R}(hg:guarded R ops.toList o.guard st yes no=some r):
  ∃ st',SI w F m st' a∧st'.heap=st.heap∧st'.frz=st.frz∧((Region.wanted o (yielded ops a.tmps)=true∧yes st'=some r)∨(Region.wanted o (yielded ops a.tmps)=false∧no st'=some r)):=by
 unfold guarded at hg
 split at hg
 ·rename_i hgd
  exact⟨st,h,rfl,rfl,.inl ⟨by simp[Region.wanted,hgd],hg⟩⟩
 ·rename_i j want hgd
  split at hg
  ·cases hg
  ·rename_i d hj
   split at hg
   ·rename_i b hd
    have hy:=KT h hj hd
    split at hg
    ·split at hg
     ·exact⟨_,h.lit hd,rfl,rfl,.inl ⟨by simp[Region.wanted,hgd,hy],hg⟩⟩
     ·exact⟨_,h.lit hd,rfl,rfl,.inr ⟨by simp[Region.wanted,hgd,hy],hg⟩⟩
    ·split at hg
     ·exact⟨_,h.lit hd,rfl,rfl,.inr ⟨by simp[Region.wanted,hgd,hy],hg⟩⟩
     ·exact⟨_,h.lit hd,rfl,rfl,.inl ⟨by simp[Region.wanted,hgd,hy],hg⟩⟩
   ·rename_i hd
    exact⟨st,h,rfl,rfl,.inr ⟨by simp[Region.wanted,hgd,LQ h hj hd],hg⟩⟩
   ·cases hg
theorem ALn(hE:∀ g,AP P g (E.spec g)){ops:Array Oper}{Q:Exit→Act→World→Prop}{k:St→Option R}:∀ (rest pre:List Oper) (slot:Nat) (st:St) (w:World) (F:Nat→Prop) (m:Mp) (a:Act),ops.toList=pre++rest →
  HB P E R ops.toList rest slot st k=some r→SI w F m st a→(∀ a' w',ATy r k w F m st.heap st.frz a' w'→Q .normal a' w')→wpOps P ops Q (List.range' pre.length rest.length) a w:=by
 intro rest
 induction rest with
 |nil=>
  intro pre slot st w F m a _ h hs hq
  exact hq a w ⟨st,F,m,h,hs,Ext.refl ..⟩
 |cons o rest ih=>
  intro pre slot st w F m a hops h hs hq
  simp only[HB]at h
  have hget:ops[pre.length]? = some o:=by
   rw[← AWB,hops];simp
  have hops':ops.toList=(pre++[o])++rest:=by rw[hops];simp
  have hlen:(pre++[o]).length=pre.length+1:=by simp
  rw[AUY,AW3]
  simp only[wpOps,hget]
  obtain⟨st',hs',e1,e2,hh⟩:=AIc hs h
  rcases hh with⟨hw,hy⟩|⟨hw,hn⟩
  ·rw[AUf hw]
   left
   obtain⟨v,e,h1,_,h3⟩:=HW hE o.op R _ _ _ _ _ _ _ hy
   refine h3 w F m a o _ Q rfl rfl hs'.heap (fun x=>T1 hs'.tmps x) fun u w' F' m' hg hr => ?_
   have hs2:=(hs'.go hg).put hr o.dst
   have:=ih (pre++[o]) _ _ w' F' m' (a.put o.dst u) hops' h1 hs2 fun a' w'' ⟨st2,F2,m2,q1,q2,q3⟩=>hq a' w'' ⟨st2,F2,m2,q1,q2,by
    have hx:=hg.1
    rw[e1,e2]at hx
    refine hx.trans ?_
    have:((st'.app e).put o.dst v).heap=DQ e st.heap∧((st'.app e).put o.dst v).frz=IE e st.frz:=by
     cases o.dst<;>simp[St.put,St.app,e1,e2]
    rw[this.1,this.2]at q3
    exact q3⟩
   rw[hlen]at this
   exact this
  ·rw[AUZ (by simp[hw])]
   have hs2:SI w F m (st'.put o.dst BB) (a.put o.dst undef):=hs'.put ACN o.dst
   have:=ih (pre++[o]) _ _ w F m (a.put o.dst undef) hops' hn hs2 fun a' w'' ⟨st2,F2,m2,q1,q2,q3⟩=>hq a' w'' ⟨st2,F2,m2,q1,q2,by
    have:(st'.put o.dst BB).heap=st.heap∧(st'.put o.dst BB).frz=st.frz:=by
     cases o.dst<;>simp[St.put,e1,e2]
    rw[this.1,this.2]at q3
    exact q3⟩
   rw[hlen]at this
   exact this
theorem HI.pad{w:World}{F:Nat→Prop}{m:Mp}{H:List Ob}{fz:List Bool}(hi:HI w F m H fz)(n:Nat):At w F m H fz w F m (H++List.replicate n .free) (fz++List.replicate n false):=by
 have hget:∀ i o,H[i]? = some o→(H++List.replicate n Ob.free)[i]? = some o:=fun i o h=>by
  rw[AUw (Ap h)];exact h
 have hget':∀ i o,(H++List.replicate n Ob.free)[i]? = some o→H[i]? = some o∨o=Ob.free:=fun i o h=>by
  rcases AVF i H.length with hl|hl
  ·rw[AUw hl]at h;exact .inl h
  ·rw[AU2 hl]at h
   exact .inr (AV6 (AUe h))
 have hfz:∀ i,(fz++List.replicate n false).getD i false=fz.getD i false:=fun i=>by
  rw[AUS,AUS]
  rcases AVF i fz.length with hl|hl
  ·rw[AUw hl]
  ·rw[AU2 hl,AU0 hl]
   cases hx:(List.replicate n false)[i-fz.length]? with
   |none=>rfl
   |some b=>rw[AV6 (AUe hx)];rfl
 have hown:∀ i,owned (H++List.replicate n .free) (fz++List.replicate n false) i→owned H fz i:=fun i ho=>by
  obtain⟨o,h1,h2,h3⟩:=Cw ho
  unfold owned at *
  rcases hget' i o h1 with h4|h4
  ·rw[h4];rw[h1]at ho
   cases o with
   |free=>exact absurd rfl h2
   |dead=>exact absurd rfl h3
   |box cs=>trivial
   |map a b es=>trivial
   |prs T t is=>trivial
   |arr T t xs=>simp only at ho ⊢;rw[hfz]at ho;exact ho
  ·exact absurd h4 h2
 have hcomp:Cc H (H++List.replicate n .free) m m:=by
  intro i o ho hf
  rcases Cc.refl H m i o ho hf with h|⟨hd,o',h1,h2,_⟩
  ·exact .inl (hget i _ h)
  ·exact .inr ⟨hd,o',hget i _ h1,h2,rfl⟩
 refine⟨⟨rfl,rfl,rfl,AUV _,fun _ _ _=>rfl,fun _ h=>h,fun _ h=>.inl h,fun i b c h1 h2=>.inl ⟨i,c,hown i h1,h2⟩,hcomp⟩,⟨?_,?_,?_,?_,hi.lt,by simp[hi.len]⟩⟩
 ·intro id o ho
  rcases hget' id o ho with h|rfl
  ·exact ObI.mono (fun _ _=>rfl) (fun _ h=>h) hcomp (fun _ _ _ _ _ _=>rfl) (hi.obj id o h)
  ·trivial
 ·exact fun i k b c b' c' h1 h2=>hi.sep i k b c b' c' (hown i h1) (hown k h2)
 ·exact fun i b c h1=>hi.off i b c (hown i h1)
 ·intro i T t xs b c hio hf hmi
  rw[hfz]at hf
  rcases hget' i _ hio with h|h
  ·exact hi.froz i T t xs b c h hf hmi
  ·cases h
theorem SI.pad{w:World}{F:Nat→Prop}{m:Mp}{st:St}{a:Act}(h:SI w F m st a)(n:Nat):SI w F m (st.pad n) a∧Ext w F m st.heap st.frz w F m (st.pad n).heap (st.pad n).frz:=by
 have hg:=h.heap.pad n
 exact⟨⟨fun t=>hg.1.rep h.heap (h.tmps t),h.size,hg.2,h.defers⟩,hg.1⟩
theorem ZL(hE:∀ g,AP P g (E.spec g)){id:Nat}{ops:Array Oper}{Q:Exit→Act→World→Prop}{k:St→Option R}{st:St}{w:World}{F:Nat→Prop}{m:Mp}{a:Act}(h:Fh P E R ops.toList st k=some r)(hs:SI w F m st a)
  (hq:∀ a' w',ATy r k w F m st.heap st.frz a' w'→Q .normal a' w'):(Code.region id ops false).wp P Q a w:=by
 obtain⟨h1,h2⟩:=hs.pad (D0 ops.toList)
 have:=ALn hE ops.toList [] _ _ w F m a (by simp) h h1 fun a' w' ⟨st',F',m',q1,q2,q3⟩=>hq a' w' ⟨st',F',m',q1,q2,h2.trans q3⟩
 rw[AU3,AUi,← List.range_eq_range']at this
 exact wp_region this
end
end Go.Pev
end
section
namespace Go.Pev
open Go.RowKit
theorem Fc{H H':List Ob}(t:Ty)(v:AV)(h:∀ id∈Av v,H[id]? = H'[id]?):Df H t v=Df H' t v:=by
 cases v<;>simp only[Df]
 ·rename_i id;rw[h id (by simp[Av])]
 ·rename_i id off n;rw[h id (by simp[Av])]
theorem AIZ{α:Type}{one one':List AV→Option (α×List Nat×List AV)}{H H':List Ob}
  (h1:∀ cs,(∀ id∈A9 cs,H[id]? = H'[id]?)→one cs=one' cs) (h2:∀ cs x f r,one cs=some (x,f,r)→∃ c0,cs=c0++r) :
  ∀ (n:Nat) (cs:List AV),(∀ id∈A9 cs,H[id]? = H'[id]?)→L8 one n cs=L8 one' n cs:=by
 intro n
 induction n with
 |zero=>intro cs _;rfl
 |succ n ih=>
  intro cs h
  simp only[L8]
  rw[← h1 cs h]
  cases ho:one cs with
  |none=>rfl
  |some p=>
   obtain⟨x,f,r⟩:=p
   simp only
   obtain⟨c0,hc⟩:=h2 _ _ _ _ ho
   rw[ih r fun id hid=>h id (by
    subst hc
    clear ho
    induction c0 with
    |nil=>exact hid
    |cons c c0 ih'=>simp only[AUo,A9,AUQ];exact .inr (ih' fun id hid=>h id (by simp only[AUo,A9,AUQ];exact .inr hid)))]
theorem AMp{α:Type}{one:List AV→Option (α×List Nat×List AV)}(h2:∀ cs x f r,one cs=some (x,f,r)→∃ c0,cs=c0++r):
  ∀ (n:Nat) (cs:List AV) (xs:List α) (f:List Nat) (r:List AV),L8 one n cs=some (xs,f,r)→∃ c0,cs=c0++r:=by
 intro n
 induction n with
 |zero=>intro cs xs f r h;simp only[L8,AUM,AUp]at h;exact⟨[],h.2.2⟩
 |succ n ih=>
  intro cs xs f r h
  simp only[L8]at h
  split at h
  ·cases h
  ·rename_i x f1 cs1 ho
   split at h
   ·cases h
   ·rename_i ys g cs2 hi
    simp only[AUM,AUp]at h
    obtain⟨_,_,rfl⟩:=h
    obtain⟨c0,rfl⟩:=h2 _ _ _ _ ho
    obtain⟨c1,rfl⟩:=ih _ _ _ _ hi
    exact⟨c0++c1,by simp⟩
theorem L9{H:List Ob}:∀ (t:Ty) (cs:List AV) (x:t.den) (f:List Nat) (r:List AV),As H t cs=some (x,f,r)→∃ c0,cs=c0++r:=by
 intro t
 induction t with
 |unit=>intro cs x f r h;simp only[As,AUM,AUp]at h;exact⟨[],h.2.2⟩
 |bool=>
  intro cs x f r h
  cases cs with
  |nil=>simp[As]at h
  |cons c cs=>
   unfold As at h
   split at h
   ·cases h
   ·simp only[AUM,AUp]at h;exact⟨[c],by simp[h.2.2]⟩
 |int k=>
  intro cs x f r h
  cases cs with
  |nil=>simp[As]at h
  |cons c cs=>
   unfold As at h
   split at h
   ·cases h
   ·simp only[AUM,AUp]at h;exact⟨[c],by simp[h.2.2]⟩
 |slice e _=>
  intro cs x f r h
  cases cs with
  |nil=>simp[As]at h
  |cons c cs=>
   unfold As at h
   split at h
   ·cases h
   ·simp only[AUM,AUp]at h;exact⟨[c],by simp[h.2.2]⟩
 |prod a b iha ihb=>
  intro cs x f r h
  simp only[As]at h
  split at h
  ·cases h
  ·rename_i y f1 cs1 hy
   split at h
   ·cases h
   ·rename_i z g cs2 hz
    simp only[AUM,AUp]at h
    obtain⟨_,_,rfl⟩:=h
    obtain⟨c0,rfl⟩:=iha _ _ _ _ hy
    obtain⟨c1,rfl⟩:=ihb _ _ _ _ hz
    exact⟨c0++c1,by simp⟩
 |arr n e ih=>
  intro cs x f r h
  simp only[As]at h
  exact AMp ih n cs _ _ _ h
theorem C6(a b:List AV):A9 (a++b)=A9 a++A9 b:=by
 induction a with
 |nil=>rfl
 |cons x a ih=>simp[A9,ih]
theorem KL{H H':List Ob}:∀ (t:Ty) (cs:List AV),(∀ id∈A9 cs,H[id]? = H'[id]?)→As H t cs=As H' t cs:=by
 intro t
 induction t with
 |unit=>intro cs _;cases cs<;>rfl
 |bool=>
  intro cs h
  cases cs with
  |nil=>rfl
  |cons c cs=>unfold As;rw[Fc .bool c fun id hid=>h id (by simp[A9,hid])]
 |int k=>
  intro cs h
  cases cs with
  |nil=>rfl
  |cons c cs=>unfold As;rw[Fc (.int k) c fun id hid=>h id (by simp[A9,hid])]
 |slice e _=>
  intro cs h
  cases cs with
  |nil=>rfl
  |cons c cs=>unfold As;rw[Fc (.slice e) c fun id hid=>h id (by simp[A9,hid])]
 |prod a b iha ihb=>
  intro cs h
  simp only[As]
  rw[← iha cs h]
  cases hx:As H a cs with
  |none=>rfl
  |some p=>
   obtain⟨x,f,r⟩:=p
   simp only
   obtain⟨c0,rfl⟩:=L9 a _ _ _ _ hx
   rw[ihb r fun id hid=>h id (by rw[C6];simp[hid])]
 |arr n e ih=>
  intro cs h
  simp only[As]
  exact AIZ ih (L9 e) n cs h
theorem BY{H H':List Ob}(t:Ty)(v:AV)(h:∀ id∈Av v,H[id]? = H'[id]?):Ej H t v=Ej H' t v:=by
 unfold Ej
 split
 ·cases v<;>simp only[asAgg]
  rename_i cs
  rw[KL t cs fun id hid=>h id (by simpa [Av]using hid)]
 ·exact Fc t v h
structure NG(T:List Nat)(slot n:Nat)(W:List Nat)(H H':List Ob)(fz fz':List Bool):Prop where
 heap:∀ id∈T,H[id]? = H'[id]?
 slotH:∀ s,slot≤s→s<slot+n→H[s]? = H'[s]?
 slotF:∀ s,slot≤s→s<slot+n→fz.getD s false=fz'.getD s false
 len:fz.length=fz'.length
 wrF:∀ id∈W,fz.getD id false=fz'.getD id false
theorem FY{T:List Nat}{slot n:Nat}{W:List Nat}{H H':List Ob}{fz fz':List Bool}(h:NG T slot n W H H' fz fz'){s:Nat}(h1:slot≤s)(h2:s<slot+n)(fr:List Nat):
  Ay H (Ag fr fz) s=Ay H' (Ag fr fz') s:=by
 unfold Ay
 rw[h.slotH s h1 h2,Ax,Ax,h.slotF s h1 h2,h.len]
theorem CC{T:List Nat}{slot n:Nat}{W:List Nat}{H H':List Ob}{fz fz':List Bool}(h:NG T slot n W H H' fz fz'){s:Nat}(h1:slot≤s)(h2:s<slot+n):
  Ay H fz s=Ay H' fz' s:=FY h h1 h2 []
theorem Cm{T W:List Nat}{slot n:Nat}{H H':List Ob}{fz fz':List Bool}(h:NG T slot n W H H' fz fz'){id:Nat}(hid:id∈W)(fr:List Nat):
  Au (Ag fr fz) id=Au (Ag fr fz') id:=by
 unfold Au
 rw[Ax,Ax,h.wrF id hid,h.len]
def Oo(s:Spec):Prop:=
 ∀ R args H H' fz fz' slot k,NG (A9 args) slot 4 [] H H' fz fz'→s R args H fz slot k=s R args H' fz' slot k
def ABo(S:List Nat)(H:List Ob):Prop:=∀ id∈S,∀ cs,H[id]? = some (.box cs)→∀ j∈A9 cs,j∈S
def RA(s:Spec):Prop:=
 ∀ R args H H' fz fz' slot k (S:List Nat),(∀ id∈A9 args,id∈S)→ABo S H→NG S slot 4 S H H' fz fz'→s R args H fz slot k=s R args H' fz' slot k
def G1(E:Env):Prop:=(∀ g,E.loc g=true→Oo (E.spec g))∧∀ g,E.loc2 g=true→RA (E.spec g)
section
variable {P:Program} {E:Env}
theorem Km{ρ ρ':Operand→AV}{l:List Operand}(h:∀ x∈l,ρ x=ρ' x):l.map ρ=l.map ρ':=List.map_congr_left h
theorem PH{ρ ρ':Operand→AV}{l:List (Nat×Operand)}(h:∀ x∈l.map (·.2),ρ x=ρ' x):(l.map fun p=>(p.1,ρ p.2))=l.map fun p=>(p.1,ρ' p.2):=
 List.map_congr_left fun p hp=>by rw[h p.2 (List.mem_map_of_mem hp)]
theorem L4{ρ ρ':Operand→AV}{o:Option Operand}(h:∀ x∈o.toArray,ρ x=ρ' x):HD ρ o=HD ρ' o:=by
 cases o with
 |none=>rfl
 |some x=>simp only[HD];rw[h x (by simp)]
theorem Bb{R:Type}{ρ ρ':Operand→AV}(o:Op)(ty:TypeId)(H:List Ob)(fz:List Bool)(slot:Nat)(k:AV→Eff→Option R)(h:∀ x∈o.operands,ρ x=ρ' x):
  evalOp P E R o ty ρ H fz slot k=evalOp P E R o ty ρ' H fz slot k:=by
 cases o with
 |call c=>
  obtain⟨callee,args,ts⟩:=c
  cases callee with
  |value f=>
   have hf:=h f (by simp[Op.operands,Call.operands])
   have ha:args.toList.map ρ=args.toList.map ρ':=Km fun x hx=>h x (by simp[Op.operands,Call.operands];right;simpa using hx)
   simp only[evalOp,hf,ha]
  |invoke r n=>rfl
  |builtin b=>
   have ha:∀ x∈args.toList,ρ x=ρ' x:=fun x hx=>h x (by simp[Op.operands,Call.operands];simpa using hx)
   cases b with
   |len=>
    simp only[evalOp]
    cases hl:args.toList with
    |nil=>rfl
    |cons x r=>cases r with
     |nil=>
      rw[hl]at ha
      cases ts.toList with
      |nil=>rfl
      |cons T r=>cases r with
       |nil=>simp only[ha x (by simp)]
       |cons T' r=>rfl
     |cons y r=>rfl
   |append=>
    simp only[evalOp]
    cases hl:args.toList with
    |nil=>rfl
    |cons x r=>cases r with
     |nil=>rfl
     |cons y r=>cases r with
      |nil=>
       rw[hl]at ha
       cases ts.toList with
       |nil=>rfl
       |cons T r=>cases r with
        |nil=>rfl
        |cons T' r=>cases r with
         |nil=>simp only[ha x (by simp),ha y (by simp)]
         |cons T'' r=>rfl
      |cons z r=>rfl
   |cap=>
    simp only[evalOp]
    cases hl:args.toList with
    |nil=>rfl
    |cons x r=>cases r with
     |nil=>
      rw[hl]at ha
      cases ts.toList with
      |nil=>rfl
      |cons T r=>cases r with
       |nil=>simp only[ha x (by simp)]
       |cons T' r=>rfl
     |cons y r=>rfl
   |clear=>
    simp only[evalOp]
    cases hl:args.toList with
    |nil=>rfl
    |cons x r=>cases r with
     |nil=>
      rw[hl]at ha
      cases ts.toList with
      |nil=>rfl
      |cons T r=>cases r with
       |nil=>simp only[ha x (by simp)]
       |cons T' r=>rfl
     |cons y r=>rfl
   |min=>
    simp only[evalOp]
    cases hl:args.toList with
    |nil=>rfl
    |cons x r=>cases r with
     |nil=>rfl
     |cons y r=>cases r with
      |nil=>
       rw[hl]at ha
       simp only[ha x (by simp),ha y (by simp)]
      |cons z r=>rfl
   |max=>
    simp only[evalOp]
    cases hl:args.toList with
    |nil=>rfl
    |cons x r=>cases r with
     |nil=>rfl
     |cons y r=>cases r with
      |nil=>
       rw[hl]at ha
       simp only[ha x (by simp),ha y (by simp)]
      |cons z r=>rfl
   |_=>rfl
 |build T parts=>
  have:=PH (ρ:=ρ) (ρ':=ρ') (l:=parts.toList) fun x hx=>h x (by simpa [Op.operands]using hx)
  simp only[evalOp,this]
 |buildSlice T n parts=>
  have:=PH (ρ:=ρ) (ρ':=ρ') (l:=parts.toList) fun x hx=>h x (by simpa [Op.operands]using hx)
  simp only[evalOp,this]
 |makeFunc fn first cs=>
  cases fn with
  |func f=>
   have:=Km (ρ:=ρ) (ρ':=ρ') (l:=cs.toList) fun x hx=>h x (by simp[Op.operands];right;simpa using hx)
   have hfst:=Km (ρ:=ρ) (ρ':=ρ') (l:=first.toList) fun x hx=>h x (by simp[Op.operands];left;simpa using hx)
   simp only[evalOp,this]
   cases hfl:first.toList with
   |nil=>rfl
   |cons y ys=>
    rw[hfl]at hfst
    simp only[hfst]
  |_=>rfl
 |slice T x lo up mx=>
  have hx:=h x (by simp[Op.operands])
  have hlo:=L4 (ρ:=ρ) (ρ':=ρ') (o:=lo) fun y hy=>h y (by simp[Op.operands];simp at hy;simp[hy])
  have hup:=L4 (ρ:=ρ) (ρ':=ρ') (o:=up) fun y hy=>h y (by simp[Op.operands];simp at hy;simp[hy])
  cases mx with
  |none=>simp only[evalOp,hx,hlo,hup]
  |some m=>
   have hm:=h m (by simp[Op.operands])
   simp only[evalOp,hx,hlo,hup,hm]
 |makeMap T o=>cases o<;>rfl
 |pick a b c=>simp only[evalOp,h a (by simp[Op.operands]),h b (by simp[Op.operands]),h c (by simp[Op.operands])]
 |mapUpdate a b c d=>simp only[evalOp,h b (by simp[Op.operands]),h c (by simp[Op.operands]),h d (by simp[Op.operands])]
 |mapEntry a b c=>simp only[evalOp,h b (by simp[Op.operands]),h c (by simp[Op.operands])]
 |entryStore a b c d=>simp only[evalOp,h b (by simp[Op.operands]),h c (by simp[Op.operands]),h d (by simp[Op.operands])]
 |insert a b c d=>simp only[evalOp,h b (by simp[Op.operands]),h c (by simp[Op.operands]),h d (by simp[Op.operands])]
 |move x|assign x|box _ x|load _ x|nilCheck x|unOp _ _ x|convert _ _ x|fieldAddr _ x _|field _ x _|extract x _=>
  simp only[evalOp,h x (by simp[Op.operands])]
 |store _ x y|binOp _ _ x y _|makeSlice _ x y|indexAddr _ x y|index _ x y|lookup _ x y _=>
  simp only[evalOp,h x (by simp[Op.operands]),h y (by simp[Op.operands])]
 |_=>rfl
theorem Fw{ρ:Operand→AV}{o:Op}{x:Operand}(hx:x∈o.operands){id:Nat}(hid:id∈Av (ρ x)):id∈FF ρ o:=by
 unfold FF
 exact AW4.2 ⟨x,by simpa using hx,hid⟩
theorem QV{H H':List Ob}(t:Ty):∀ (ps:List (Nat×AV)) (xs:List t.den) (fr:List Nat),(∀ p∈ps,∀ id∈Av p.2,H[id]? = H'[id]?)→Cg H t ps xs fr=Cg H' t ps xs fr:=by
 intro ps
 induction ps with
 |nil=>intro xs fr _;rfl
 |cons p ps ih=>
  intro xs fr h
  obtain⟨i,v⟩:=p
  simp only[Cg]
  rw[BY t v (h (i,v) (by simp))]
  cases Ej H' t v with
  |none=>rfl
  |some q=>cases decide (i<xs.length)with
   |true=>exact ih _ _ fun p hp=>h p (by simp[hp])
   |false=>rfl
theorem Et:∀ (t:Ty) (d:t.den),A9 (BA t d)=[]:=by
 intro t
 induction t with
 |unit=>intro d;rfl
 |bool=>intro d;rfl
 |int k=>intro d;rfl
 |slice e _=>intro d;rfl
 |prod a b iha ihb=>intro d;simp only[BA];rw[C6,iha,ihb];rfl
 |arr n e ih=>
  intro d
  simp only[BA]
  have key:∀ l:List Nat,A9 (l.flatMap fun i=>BA e (AN d i e.zero))=[]:=by
   intro l
   induction l with
   |nil=>rfl
   |cons x xs ih'=>rw[AVd,C6,ih,ih'];rfl
  exact key _
theorem AGl(l:List AV)(n:Nat){id:Nat}(h:id∈A9 (l.take n)):id∈A9 l:=by
 have:=AVV n l
 rw[← this,C6];simp[h]
theorem AGm(l:List AV)(n:Nat){id:Nat}(h:id∈A9 (l.drop n)):id∈A9 l:=by
 have:=AVV n l
 rw[← this,C6];simp[h]
theorem cells?_refs{v:AV}{vs:List AV}(h:cells? v=some vs){id:Nat}(hid:id∈A9 vs):id∈Av v:=by
 cases v with
 |junk=>simp[cells?]at h
 |tup _=>simp[cells?]at h
 |agg cs=>simp only[cells?,AUM]at h;subst h;simpa [Av]using hid
 |data t d=>
  cases t with
  |unit=>simp only[cells?,AUM]at h;subst h;simp[A9]at hid
  |prod a b=>simp only[cells?,AUM]at h;subst h;rw[Et]at hid;cases hid
  |arr n e=>simp only[cells?,AUM]at h;subst h;rw[Et]at hid;cases hid
  |bool=>simp only[cells?,AUM]at h;subst h;simpa [A9]using hid
  |int k=>simp only[cells?,AUM]at h;subst h;simpa [A9]using hid
  |slice e=>simp only[cells?,AUM]at h;subst h;simpa [A9]using hid
 |_=>simp only[cells?,AUM]at h;subst h;simpa [A9]using hid
theorem AGx{t:Ty}{d:t.den}{v:AV}{vs cs:List AV}{s:Nat}(hp:Cv (BA t d) vs s=some cs)(hc:cells? v=some vs){id:Nat}(hid:id∈A9 cs):id∈Av v:=by
 unfold Cv at hp
 split at hp
 ·simp only[AUM]at hp;subst hp
  rw[C6,C6,AUQ,AUQ]at hid
  rcases hid with(hid|hid)|hid
  ·have:=AGl _ _ hid;rw[Et]at this;cases this
  ·exact cells?_refs hc hid
  ·have:=AGm _ _ hid;rw[Et]at this;cases this
 ·cases hp
theorem KN{R:Type}(hL:G1 E){ρ:Operand→AV}(o:Op)(ty:TypeId){H H':List Ob}{fz fz':List Bool}{slot:Nat}(k:AV→Eff→Option R)
  (ha:NG (FF ρ o) slot (slotsOf o) (Dt ρ o) H H' fz fz') (hl:Ev E ρ o=true):evalOp P E R o ty ρ H fz slot k=evalOp P E R o ty ρ H' fz' slot k:=by
 have tm:∀ x∈o.operands,∀ id∈Av (ρ x),H[id]? = H'[id]? := fun x hx id hid=>ha.heap id (Fw hx hid)
 have own:∀ x∈o.operands,∀ id,ρ x = .own id→H[id]? = H'[id]? := fun x hx id h=>tm x hx id (by rw[h];simp[Av])
 have win:∀ x∈o.operands,∀ id off n,ρ x = .win id off n→H[id]? = H'[id]? := fun x hx id off n h=>tm x hx id (by rw[h];simp[Av])
 have ptr:∀ x∈o.operands,∀ id off,ρ x = .ptr id off→H[id]? = H'[id]? := fun x hx id off h=>tm x hx id (by rw[h];simp[Av])
 have ept:∀ x∈o.operands,∀ id i s,ρ x = .eptr id i s→H[id]? = H'[id]? := fun x hx id i s h=>tm x hx id (by rw[h];simp[Av])
 have mpp:∀ x∈o.operands,∀ id,ρ x = .mp id→H[id]? = H'[id]? := fun x hx id h=>tm x hx id (by rw[h];simp[Av])
 cases o with
 |alloc T=>
  simp only[evalOp,CC ha (s:=slot) (AUV _) (by simp[slotsOf])]
 |box T x=>
  simp only[evalOp,CC ha (s:=slot) (AUV _) (by simp[slotsOf])]
 |buildSlice T n parts=>
  have hf:∀ (t:Ty) xs fr,Cg H t (parts.toList.map fun p=>(p.1,ρ p.2)) xs fr=Cg H' t (parts.toList.map fun p=>(p.1,ρ p.2)) xs fr:=fun t xs fr=>
   QV t _ xs fr fun p hp id hid=>by
    obtain⟨q,hq,rfl⟩:=AUm.1 hp
    exact tm q.2 (by simp[Op.operands];exact⟨q.1,by simpa using hq⟩) id hid
  simp only[evalOp,hf,FY ha (s:=slot) (AUV _) (by simp[slotsOf]),CC ha (s:=slot) (AUV _) (by simp[slotsOf])]
  cases sliceAt P T with
  |some p=>rfl
  |none=>
   dsimp only
   cases cellAt P T with
   |none=>rfl
   |some e=>cases decide (n=1)with
    |false=>rfl
    |true=>
     cases hps:parts.toList with
     |nil=>rfl
     |cons p r=>cases r with
      |cons p' r=>rfl
      |nil=>
       simp only[AUs,AWJ]
       cases hx:ρ p.2<;>try rfl
       rename_i id i s
       dsimp only
       simp only[CE,ept p.2 (by simp[Op.operands];exact⟨p.1,(by simpa using (show p∈parts.toList by rw[hps];simp))⟩) id i s hx]
 |load T x=>
  simp only[evalOp]
  cases BD P T with
  |none=>rfl
  |some n=>cases DR P T with
   |none=>rfl
   |some ag=>
    cases hx:ρ x<;>try rfl
    ·rename_i id off;simp only[ptr x (by simp[Op.operands]) id off hx]
    ·rename_i id i s;simp only[ept x (by simp[Op.operands]) id i s hx]
 |store T x y=>
  have hy:=tm y (by simp[Op.operands])
  simp only[evalOp]
  cases hs:BD P T with
  |none=>rfl
  |some n=>cases hc:cells? (ρ y)with
   |none=>rfl
   |some vs=>
    dsimp only
    cases hd:decide (vs.length=n)with
    |false=>rfl
    |true=>
     dsimp only
     cases hx:ρ x<;>try rfl
     ·rename_i id off;dsimp only;rw[ptr x (by simp[Op.operands]) id off hx]
     ·rename_i id i s
      dsimp only
      rw[ept x (by simp[Op.operands]) id i s hx]
      have hun:∀ fr,Au (Ag fr fz) id=Au (Ag fr fz') id:=fun fr=>Cm ha (by simp[Dt,hx,Av]) fr
      cases H'[id]? with
      |none=>rfl
      |some ob=>cases ob with
       |arr T' t xs=>
        simp only[hun,BY t (ρ y) hy]
        cases (s==0&&n==t.size)with
        |true=>rfl
        |false=>
         dsimp only
         cases hp:Cv (BA t (AN xs i t.zero)) vs s with
         |none=>rfl
         |some cs=>
          dsimp only
          rw[KL t cs (fun id' hid=>hy id' (AGx hp hc hid))]
       |_=>rfl
 |nilCheck x=>
  simp only[evalOp]
  cases hx:ρ x<;>try rfl
  ·rename_i id off;simp only[Gl,ptr x (by simp[Op.operands]) id off hx]
  ·rename_i id i s;simp only[CE,ept x (by simp[Op.operands]) id i s hx]
 |fieldAddr T x f=>
  simp only[evalOp]
  cases fieldAt P T f with
  |none=>rfl
  |some p=>
   obtain⟨off,size,ag⟩:=p
   dsimp only
   cases decide (size=0)with
   |true=>rfl
   |false=>
    dsimp only
    cases hx:ρ x<;>try rfl
    ·rename_i id off;simp only[Gl,ptr x (by simp[Op.operands]) id off hx]
    ·rename_i id i s;simp only[CE,ept x (by simp[Op.operands]) id i s hx]
 |makeMap T o=>
  cases o with
  |none=>simp only[evalOp,CC ha (s:=slot) (AUV _) (by simp[slotsOf])]
  |some x=>rfl
 |makeSlice T x y=>simp only[evalOp,CC ha (s:=slot) (AUV _) (by simp[slotsOf])]
 |slice T x lo up mx=>
  have hx:=tm x (by simp[Op.operands])
  cases mx with
  |none=>
   have hsl:∀ sz l h,Er H sz (ρ x) l h R=Er H' sz (ρ x) l h R:=fun sz l h=>by
    funext kk
    unfold Er
    cases hv:ρ x with
    |data t d=>cases t<;>rfl
    |own id=>dsimp only;rw[own x (by simp[Op.operands]) id hv]
    |win id off n=>dsimp only;rw[win x (by simp[Op.operands]) id off n hv]
    |_=>rfl
   simp only[evalOp,hsl]
  |some mm=>
   have hsl:EP H (ρ x)=EP H' (ρ x):=by
    unfold EP
    cases hv:ρ x with
    |data t d=>cases t<;>rfl
    |own id=>simp only[CE,own x (by simp[Op.operands]) id hv]
    |win id off n=>simp only[CE,win x (by simp[Op.operands]) id off n hv]
    |_=>rfl
   simp only[evalOp,hsl,CC ha (s:=slot) (AUV _) (by simp[slotsOf])]
 |indexAddr T x y=>
  simp only[evalOp]
  cases hu:P.underlying T with
  |none=>rfl
  |some d=>cases d with
   |slice e=>
    cases hy:ρ y<;>try rfl
    rename_i t d'
    cases t<;>try rfl
    cases hv:ρ x with
    |data t d=>cases t<;>rfl
    |own id=>dsimp only;rw[own x (by simp[Op.operands]) id hv]
    |win id off n=>dsimp only;rw[win x (by simp[Op.operands]) id off n hv]
    |_=>rfl
   |array n e=>
    cases hy:ρ y<;>try rfl
    rename_i t d'
    cases t<;>try rfl
    rename_i j
    dsimp only
    cases BD P e with
    |none=>rfl
    |some s=>cases decide (0≤(d':Int)∧(d':Int)<(n:Int))with
     |false=>rfl
     |true=>
      dsimp only
      cases hv:ρ x<;>try rfl
      ·rename_i id off;simp only[Gl,ptr x (by simp[Op.operands]) id off hv]
      ·rename_i id i s;simp only[CE,ept x (by simp[Op.operands]) id i s hv]
   |_=>rfl
 |lookup T a b ok=>
  have hb:=fun t=>BY t (ρ b) (tm b (by simp[Op.operands]))
  simp only[evalOp]
  cases hu:P.underlying T with
  |none=>rfl
  |some d=>cases d with
   |map kt vt=>
    cases hv:ρ a<;>try rfl
    rename_i id
    dsimp only
    rw[mpp a (by simp[Op.operands]) id hv]
    simp only[hb]
   |_=>rfl
 |mapUpdate T a b c=>
  have hb:=fun t=>BY t (ρ b) (tm b (by simp[Op.operands]))
  have hc:=fun t=>BY t (ρ c) (tm c (by simp[Op.operands]))
  simp only[evalOp]
  cases hu:P.underlying T with
  |none=>rfl
  |some d=>cases d with
   |map kt vt=>
    cases hv:ρ a<;>try rfl
    rename_i id
    dsimp only
    rw[mpp a (by simp[Op.operands]) id hv]
    simp only[hb,hc]
   |_=>rfl
 |mapEntry T a b=>
  have hb:=fun t=>BY t (ρ b) (tm b (by simp[Op.operands]))
  simp only[evalOp]
  cases hu:P.underlying T with
  |none=>rfl
  |some d=>cases d with
   |map kt vt=>
    cases hv:ρ a<;>try rfl
    rename_i id
    dsimp only
    rw[mpp a (by simp[Op.operands]) id hv]
    simp only[hb]
   |_=>rfl
 |entryStore T a b c=>
  have hc:=fun t=>BY t (ρ c) (tm c (by simp[Op.operands]))
  simp only[evalOp]
  cases hv:ρ a<;>try rfl
  rename_i id
  cases hs:ρ b<;>try rfl
  rename_i t d
  cases t<;>try rfl
  rename_i j
  cases j<;>try rfl
  dsimp only
  rw[mpp a (by simp[Op.operands]) id hv]
  simp only[hc]
 |insert T a b c=>
  have hb:=fun t=>BY t (ρ b) (tm b (by simp[Op.operands]))
  have hc:=fun t=>BY t (ρ c) (tm c (by simp[Op.operands]))
  simp only[evalOp]
  cases hu:P.underlying T with
  |none=>rfl
  |some d=>cases d with
   |map kt vt=>
    cases hv:ρ a<;>try rfl
    rename_i id
    dsimp only
    rw[mpp a (by simp[Op.operands]) id hv]
    simp only[hb,hc]
   |_=>rfl
 |convert S T x=>
  have hx:=fun t=>BY t (ρ x) (tm x (by simp[Op.operands]))
  simp only[evalOp]
  split
  ·rfl
  ·simp only[hx]
 |call c=>
  obtain⟨callee,args,ts⟩:=c
  cases callee with
  |value f=>
   simp only[evalOp]
   cases hf:ρ f<;>try rfl
   ·rename_i g caps
    dsimp only
    refine hL.1 g (by simpa [Ev,hf]using hl) R _ H H' fz fz' slot k ⟨fun id hid=>ha.heap id ?_,ha.slotH,ha.slotF,ha.len,fun id hid=>by cases hid⟩
    rw[C6,AUQ]at hid
    rcases hid with hid|hid
    ·have key:∀ l:List Operand,id∈A9 (l.map ρ)→∃ x∈l,id∈Av (ρ x):=by
      intro l
      induction l with
      |nil=>intro h;simp[A9]at h
      |cons y l ih=>
       intro h
       simp only[AUs,A9,AUQ]at h
       rcases h with h|h
       ·exact⟨y,by simp,h⟩
       ·obtain⟨x,h1,h2⟩:=ih h
        exact⟨x,by simp[h1],h2⟩
     obtain⟨x,h1,h2⟩:=key _ hid
     exact Fw (x:=x) (by simp[Op.operands,Call.operands];right;simpa using h1) h2
    ·exact Fw (x:=f) (by simp[Op.operands,Call.operands]) (by rw[hf];simpa [Av]using hid)
   ·rename_i g caps
    dsimp only
    refine hL.1 g (by simpa [Ev,hf]using hl) R _ H H' fz fz' slot k ⟨fun id hid=>ha.heap id ?_,ha.slotH,ha.slotF,ha.len,fun id hid=>by cases hid⟩
    rw[C6,AUQ]at hid
    rcases hid.symm with hid|hid
    ·have key:∀ l:List Operand,id∈A9 (l.map ρ)→∃ x∈l,id∈Av (ρ x):=by
      intro l
      induction l with
      |nil=>intro h;simp[A9]at h
      |cons y l ih=>
       intro h
       simp only[AUs,A9,AUQ]at h
       rcases h with h|h
       ·exact⟨y,by simp,h⟩
       ·obtain⟨x,h1,h2⟩:=ih h
        exact⟨x,by simp[h1],h2⟩
     obtain⟨x,h1,h2⟩:=key _ hid
     exact Fw (x:=x) (by simp[Op.operands,Call.operands];right;simpa using h1) h2
    ·exact Fw (x:=f) (by simp[Op.operands,Call.operands]) (by rw[hf];simpa [Av]using hid)
  |invoke r n=>rfl
  |builtin b=>
   have ops:∀ x∈args.toList,x∈Op.operands (.call { callee:=.builtin b,args:=args,argTypes:=ts }):=fun x hx=>by simp[Op.operands,Call.operands];simpa using hx
   cases b with
   |len=>
    simp only[evalOp]
    cases h1:args.toList with
    |nil=>rfl
    |cons x r=>cases r with
     |cons y r=>rfl
     |nil=>
      have hx:=ops x (by rw[h1];simp)
      cases ts.toList with
      |nil=>rfl
      |cons T r=>cases r with
       |cons T' r=>rfl
       |nil=>
        dsimp only
        cases hu:P.underlying T with
        |none=>rfl
        |some d=>
         cases d with
         |slice e=>
          dsimp only
          cases hv:ρ x with
          |data t d=>cases t<;>rfl
          |own id=>dsimp only;rw[own x hx id hv]
          |win id off n=>simp only[CE,win x hx id off n hv]
          |_=>rfl
         |map a b=>
          dsimp only
          cases hv:ρ x with
          |mp id=>dsimp only;rw[mpp x hx id hv]
          |_=>rfl
         |_=>rfl
   |append=>
    simp only[evalOp]
    cases h1:args.toList with
    |nil=>rfl
    |cons s r=>cases r with
     |nil=>rfl
     |cons x r=>cases r with
      |cons z r=>rfl
      |nil=>
       have hs:=ops s (by rw[h1];simp)
       have hx:=ops x (by rw[h1];simp)
       have hfree:=CC ha (s:=slot) (AUV _) (by simp[slotsOf])
       cases ts.toList with
       |nil=>rfl
       |cons T r=>cases r with
        |nil=>rfl
        |cons T' r=>cases r with
         |cons T'' r=>rfl
         |nil=>
          dsimp only
          cases sliceAt P T with
          |none=>
           cases decide (T=T')with
           |false=>rfl
           |true=>
            dsimp only
            cases cellAt P T with
            |none=>rfl
            |some e=>
             cases hvx:ρ x<;>try rfl
             rename_i ix
             dsimp only
             rw[own x hx ix hvx]
             cases hvs:ρ s with
             |own id=>simp only[hfree,own s hs id hvs]
             |_=>simp only[hfree]
          |some p=>
           obtain⟨e,t⟩:=p
           cases decide (T=T')with
           |false=>
            dsimp only
            cases ρ s<;>try rfl
            cases ρ x with
            |data tx d=>
             cases tx with
             |int kx=>
              simp only[hfree]
             |_=>rfl
            |_=>rfl
           |true=>
            dsimp only
            rw[BY (.slice t) (ρ x) (tm x hx)]
            cases Ej H' (.slice t) (ρ x)with
            |none=>rfl
            |some q=>
             obtain⟨ys,fr⟩:=q
             cases zeroAt P e with
             |none=>rfl
             |some zz=>
              cases (P.info? e).map (fun i=>decide (i.bytes≤1024))with
              |none=>rfl
              |some bb=>cases bb with
               |false=>rfl
               |true=>
                dsimp only
                cases hv:ρ s<;>try rfl
                ·simp only[hfree]
                ·rename_i id
                 have hun:Au fz id=Au fz' id:=Cm ha (by simp[Dt,h1,hv,Av]) []
                 dsimp only
                 rw[own s hs id hv]
                 simp only[hfree,hun]
                ·rename_i id off n
                 have hun:Au fz id=Au fz' id:=Cm ha (by simp[Dt,h1,hv,Av]) []
                 cases off with
                 |succ off=>rfl
                 |zero=>simp only[win s hs id 0 n hv,hfree,hun]
   |clear=>
    simp only[evalOp]
    cases h1:args.toList with
    |nil=>rfl
    |cons x r=>cases r with
     |cons z r=>rfl
     |nil=>
      have hx:=ops x (by rw[h1];simp)
      cases ts.toList with
      |nil=>rfl
      |cons T r=>cases r with
       |cons T' r=>rfl
       |nil=>
        dsimp only
        cases sliceAt P T with
        |none=>rfl
        |some p=>
         obtain⟨e,t⟩:=p
         dsimp only
         cases zeroAt P e with
         |none=>rfl
         |some zz=>
          dsimp only
          cases hv:ρ x<;>try rfl
          ·rename_i id
           have hun:Au fz id=Au fz' id:=Cm ha (by simp[Dt,h1,hv,Av]) []
           dsimp only
           rw[own x hx id hv]
           simp only[hun]
          ·rename_i id off n
           have hun:Au fz id=Au fz' id:=Cm ha (by simp[Dt,h1,hv,Av]) []
           simp only[win x hx id off n hv,hun]
   |_=>rfl
 |makeFunc fn first cs=>cases fn<;>rfl
 |_=>rfl
theorem AAw{R:Type}(hL:G1 E){ρ:Operand→AV}(o:Op)(ty:TypeId){H H':List Ob}{fz fz':List Bool}{slot:Nat}(k:AV→Eff→Option R)
  (ha:NG (Ic ρ o) slot (slotsOf o) (Dt ρ o) H H' fz fz') (hl:Ev E ρ o=true):evalOp P E R o ty ρ H fz slot k=evalOp P E R o ty ρ H' fz' slot k:=by
 cases o with
 |move x=>rfl
 |assign x=>rfl
 |pick c a b=>rfl
 |extract x i=>rfl
 |build T ps=>rfl
 |makeFunc f a b=>cases f<;>rfl
 |store T x y=>
  by_cases hp:∃ id off,ρ x = .ptr id off
  ·obtain⟨id,off,hx⟩:=hp
   have hid:=ha.heap id (by simp only[Ic,hx];simp)
   simp only[evalOp,hx,hid]
  ·have e:Ic ρ (.store T x y)=FF ρ (.store T x y):=by
    simp only[Ic]
    split
    ·rename_i id off hx;exact absurd ⟨id,off,hx⟩ hp
    ·rfl
   rw[e]at ha
   exact KN hL (.store T x y) ty k ha hl
 |_=>exact KN hL _ ty k ha hl
theorem XB{l:List AV}{id:Nat}(h:id∈A9 l):∃ v∈l,id∈Av v:=by
 induction l with
 |nil=>simp[A9]at h
 |cons a l ih=>
  simp only[A9,AUQ]at h
  rcases h with h|h
  ·exact⟨a,by simp,h⟩
  ·obtain⟨v,hv,hi⟩:=ih h;exact⟨v,by simp[hv],hi⟩
theorem B1{l:List AV}{v:AV}{id:Nat}(hv:v∈l)(h:id∈Av v):id∈A9 l:=by
 induction l with
 |nil=>cases hv
 |cons a l ih=>
  simp only[A9,AUQ]
  rcases AUT.1 hv with rfl|hv
  ·exact .inl h
  ·exact .inr (ih hv)
theorem AE5{R:Type}(hL:G1 E){ρ:Operand→AV}{φ:List Nat}(o:Op)(ty:TypeId){H H':List Ob}{fz fz':List Bool}{slot:Nat}(k:AV→Eff→Option R)(hw:IZ E ρ o φ H=true)
  (ha:NG (φ.map (· / 2)) slot (slotsOf o) (φ.map (· / 2)) H H' fz fz'):evalOp P E R o ty ρ H fz slot k=evalOp P E R o ty ρ H' fz' slot k:=by
 unfold IZ at hw
 simp only[AUR]at hw
 obtain⟨⟨⟨h1,h2⟩,h3⟩,h4⟩:=hw
 unfold N5 at h4
 split at h4
 ·rename_i f args ts
  split at h4
  ·rename_i g caps hf
   simp only[evalOp,hf]
   have wtS:∀ {i:Nat},wt φ i=true→i∈φ.map (· / 2):=by
    intro i hi
    unfold wt at hi
    simp only[AVh,AUP]at hi
    exact AUm.2 ⟨_,hi,by omega⟩
   refine hL.2 g h4 R _ H H' fz fz' slot k (φ.map (· / 2)) (fun id hid => ?_) (fun id hid cs hc j hj => ?_) ⟨ha.heap,ha.slotH,ha.slotF,ha.len,ha.wrF⟩
   ·rw[AUj]at h1
    refine wtS (h1 id ?_)
    unfold FF
    rw[AW4]
    obtain⟨v,hv,hi⟩:=XB hid
    rcases AUQ.1 hv with hv|hv
    ·obtain⟨x,hx,rfl⟩:=AUm.1 hv
     exact⟨x,by simp[Op.operands,Call.operands];right;simpa using hx,hi⟩
    ·exact⟨f,by simp[Op.operands,Call.operands],by rw[hf];simp only[Av];exact B1 hv hi⟩
   ·unfold Jz at h2
    rw[AUj]at h2
    obtain⟨c,hcφ,rfl⟩:=AUm.1 hid
    have:=h2 c hcφ
    rw[hc]at this
    simp only[AUj]at this
    exact wtS (this j hj)
  ·rename_i g caps hf
   simp only[evalOp,hf]
   have wtS:∀ {i:Nat},wt φ i=true→i∈φ.map (· / 2):=by
    intro i hi
    unfold wt at hi
    simp only[AVh,AUP]at hi
    exact AUm.2 ⟨_,hi,by omega⟩
   refine hL.2 g h4 R _ H H' fz fz' slot k (φ.map (· / 2)) (fun id hid => ?_) (fun id hid cs hc j hj => ?_) ⟨ha.heap,ha.slotH,ha.slotF,ha.len,ha.wrF⟩
   ·rw[AUj]at h1
    refine wtS (h1 id ?_)
    unfold FF
    rw[AW4]
    obtain⟨v,hv,hi⟩:=XB hid
    rcases(AUQ.1 hv).symm with hv|hv
    ·obtain⟨x,hx,rfl⟩:=AUm.1 hv
     exact⟨x,by simp[Op.operands,Call.operands];right;simpa using hx,hi⟩
    ·exact⟨f,by simp[Op.operands,Call.operands],by rw[hf];simp only[Av];exact B1 hv hi⟩
   ·unfold Jz at h2
    rw[AUj]at h2
    obtain⟨c,hcφ,rfl⟩:=AUm.1 hid
    have:=h2 c hcφ
    rw[hc]at this
    simp only[AUj]at this
    exact wtS (this j hj)
  ·cases h4
 ·cases h4
end
end Go.Pev
end
section
namespace Go.Pev
open Go.RowKit
section
variable {P:Program} {E:Env}
def Bp(all:List Oper)(g:Option (Nat×Bool))(st:St):Option Bool:=
 match g with
 |none=>some true
 |some (j,want)=>match(all[j]?).bind (·.dst)with
  |none=>none
  |some d=>match st.tmps[d]? with
   |some (.data .bool b)=>some (b==want)
   |some (.tup [])=>some false
   |_=>none
theorem Y2{l:List AV}{d:Nat}{v:AV}(h:l[d]? = some v):l.set d v=l:=by
 apply AWD
 intro i
 by_cases hid:i=d
 ·subst hid
  rw[h,AWU (by
   rcases AVF i l.length with h'|h'
   ·exact h'
   ·rw[AU0 h']at h;cases h)]
 ·rw[AU7 (AU1 hid)]
theorem AAl{R:Type}{all:List Oper}{g:Option (Nat×Bool)}{st:St}{yes no:St→Option R}{r:R}(h:guarded R all g st yes no=some r):
  (Bp all g st=some true∧yes st=some r)∨(Bp all g st=some false∧no st=some r):=by
 unfold guarded at h
 unfold Bp
 split at h
 ·exact .inl ⟨rfl,h⟩
 ·rename_i j want
  split at h
  ·cases h
  ·rename_i d hj
   simp only[hj]
   split at h
   ·rename_i b hd
    have hs:=Y2 hd
    simp only[hd]
    split at h
    ·rw[hs]at h
     split at h
     ·exact .inl ⟨rfl,h⟩
     ·exact .inr ⟨rfl,h⟩
    ·rw[hs]at h
     split at h
     ·exact .inr ⟨rfl,h⟩
     ·exact .inl ⟨rfl,h⟩
   ·rename_i hd
    simp only[hd]
    exact .inr ⟨by first|rfl|trivial,h⟩
   ·cases h
def Kn(E:Env)(H:List Ob)(ρ:Operand→AV)(o:Op)(φ:List Nat):Prop:=(QL φ=true∧IZ E ρ o φ H=true)∨(within (Ic ρ o) φ=true∧LR (Dt ρ o) φ=true∧Ev E ρ o=true)
def B8(P:Program)(E:Env)(all:List Oper)(o:Oper)(φ:List Nat)(slot:Nat)(st st1:St):Prop:=
 (Bp all o.guard st=some true∧∃ v e,(KW φ=true∨(Kn E st.heap (BC st.tmps) o.op φ∧Xo (writer o.op||QL φ) φ slot (slotsOf o.op) e=true)) ∧
  (∀ (R:Type) (k:AV→Eff→Option R),evalOp P E R o.op o.type (BC st.tmps) st.heap st.frz slot k=k v e)∧st1=(st.app e).put o.dst v) ∨
 (Bp all o.guard st=some false∧st1=st.put o.dst BB)
theorem AGF(hE:∀ g,AP P g (E.spec g)){R:Type}{all:List Oper}{o:Oper}{φ:List Nat}{slot:Nat}{st:St}{k:St→Option R}{r:R}(h:PE P E R all o φ slot st k=some r):
  ∃ st1,B8 P E all o φ slot st st1∧k st1=some r:=by
 unfold PE at h
 rcases AAl h with⟨hg,h⟩|⟨hg,h⟩
 ·split at h
  ·rename_i hw
   simp only[AVj,AUR]at hw
   obtain⟨v,e,h1,h2,_⟩:=HW hE o.op R _ _ _ _ _ _ _ h
   split at h1
   ·rename_i he
    rw[AVj]at he
    refine⟨_,.inl ⟨hg,v,e,?_,h2,rfl⟩,h1⟩
    rcases hw with hw|hw
    ·exact .inl hw
    ·rcases he with he|he
     ·exact .inl he
     ·refine .inr ⟨?_,he⟩
      rcases hw with hw|hw
      ·exact .inl hw
      ·exact .inr ⟨hw.2.1.1,hw.2.1.2,hw.2.2⟩
   ·cases h1
  ·cases h
 ·exact⟨_,.inr ⟨hg,rfl⟩,h⟩
def YB(P:Program)(E:Env)(all:List Oper)(fp:Nat→List Nat)(sl:Nat→Nat):List Nat→St→St→Prop
 |[],st,st'=>st=st'
 |i::l,st,st'=>∃ o s1,all[i]? = some o∧B8 P E all o (fp i) (sl i) st s1∧YB P E all fp sl l s1 st'
def Bl(all:List Oper)(base i:Nat):Nat:=base+D0 (all.take i)
theorem Ht(a b:List Oper):D0 (a++b)=D0 a+D0 b:=by
 unfold D0
 induction a with
 |nil=>simp
 |cons x a ih=>simp only[AUo,AUs,List.foldr_cons,ih];omega
theorem Vx(hE:∀ g,AP P g (E.spec g)){R:Type}{all:List Oper}{fp:List (List Nat)}{base:Nat}{k:St→Option R}{r:R}:∀ (rest pre:List Oper) (fp':List (List Nat)) (slot:Nat) (st:St),
  all=pre++rest→fp'=fp.drop pre.length→slot=Bl all base pre.length→Gi P E R all rest fp' slot st k=some r →
  ∃ st',YB P E all (fun i=>fp.getD i []) (Bl all base) (List.range' pre.length rest.length) st st'∧k st'=some r:=by
 intro rest
 induction rest with
 |nil=>intro pre fp' slot st _ _ _ h;exact⟨st,rfl,h⟩
 |cons o rest ih=>
  intro pre fp' slot st hall hfp hsl h
  simp only[Gi]at h
  obtain⟨s1,h1,h2⟩:=AGF hE h
  have hlen:(pre++[o]).length=pre.length+1:=by simp
  have hfp1:fp'.headD []=fp.getD pre.length []:=by
   rw[hfp,AUS,List.headD_eq_head?_getD,List.head?_drop]
  have hfp2:fp'.tail=fp.drop (pre++[o]).length:=by rw[hfp,hlen,List.tail_drop]
  have hs2:slot+slotsOf o.op=Bl all base (pre++[o]).length:=by
   rw[hsl,hlen]
   unfold Bl
   have e1:all.take (pre.length+1)=pre++[o]:=by rw[hall,AVx,AVK (by omega)];simp
   have e2:all.take pre.length=pre:=by rw[hall];simp
   rw[e1,e2,Ht]
   simp[D0];omega
  obtain⟨st',h3,h4⟩:=ih (pre++[o]) _ _ s1 (by rw[hall];simp) hfp2 hs2 h2
  refine⟨st',?_,h4⟩
  rw[AUY,AW3]
  refine⟨o,s1,by rw[hall];simp,?_,by rw[hlen]at h3;exact h3⟩
  show B8 P E all o (fp.getD pre.length []) (Bl all base pre.length) st s1
  rw[← hfp1,← hsl];exact h1
theorem ACb:∀ (l:List (Nat×Ob)) (H:List Ob),(BE l H).length=H.length:=by
 intro l
 induction l with
 |nil=>intro H;rfl
 |cons p l ih=>intro H;obtain⟨i,o⟩:=p;simp only[BE];rw[ih,List.length_set]
theorem BO{i:Nat}:∀ (l:List (Nat×Ob)) (H:List Ob),(∀ p∈l,p.1≠i)→(BE l H)[i]? = H[i]? := by
 intro l
 induction l with
 |nil=>intro H _;rfl
 |cons p l ih=>
  intro H h
  obtain⟨j,o⟩:=p
  simp only[BE]
  rw[ih _ fun p hp=>h p (by simp[hp]),Aw (AU1 (h (j,o) (by simp)))]
theorem KE{i:Nat}:∀ (l:List (Nat×Ob)) (H H':List Ob),H[i]? = H'[i]?→(BE l H)[i]? = (BE l H')[i]? := by
 intro l
 induction l with
 |nil=>intro H H' h;exact h
 |cons p l ih=>
  intro H H' h
  obtain⟨j,o⟩:=p
  simp only[BE]
  refine ih _ _ ?_
  by_cases hij:i=j
  ·subst hij
   rw[List.getElem?_set_self',List.getElem?_set_self',h]
  ·rw[Aw hij,Aw hij];exact h
theorem Y3(a b:List (Nat×Ob))(h:∀ p∈a,∀ q∈b,p.1≠q.1)(H:List Ob):BE a (BE b H)=BE b (BE a H):=by
 apply AWD
 intro i
 by_cases ha:∀ p∈a,p.1≠i
 ·rw[BO a _ ha]
  exact KE b _ _ (BO a _ ha).symm
 ·have hb:∀ q∈b,q.1≠i:=by
   intro q hq hqi
   refine ha fun p hp hpi=>h p hp q hq (by rw[hpi,hqi])
  rw[BO b _ hb]
  exact KE a _ _ (BO b _ hb)
theorem ACc(a b:List Nat)(fz:List Bool):Ag a (Ag b fz)=Ag b (Ag a fz):=by
 apply AWD
 intro i
 have hl:∀ (x:List Bool) (y:List Bool),x.length=y.length→(∀ i,x.getD i false=y.getD i false)→x[i]? = y[i]? := by
  intro x y hlen hg
  have:=hg i
  rw[AUS,AUS]at this
  rcases AVF i x.length with h|h
  ·rw[AUU h,AUU (hlen▸h)]at this ⊢
   simpa using this
  ·rw[AU0 h,AU0 (hlen▸h)]
 refine hl _ _ (by simp[CL]) fun i => ?_
 rw[Ax,Ax,Ax,Ax,CL,CL]
 cases fz.getD i false<;>cases decide (i∈a)<;>cases decide (i∈b)<;>cases decide (i<fz.length)<;>rfl
theorem RK{l φ:List Nat}(h:within l φ=true){i:Nat}(hi:i∈l):rd φ i=true:=by
 unfold within at h
 rw[AUj]at h
 exact h i hi
theorem ABq{l φ:List Nat}(h:LR l φ=true){i:Nat}(hi:i∈l):wt φ i=true:=by
 unfold LR at h
 rw[AUj]at h
 exact h i hi
theorem HM{φ:List Nat}{i:Nat}(h:wt φ i=true):rd φ i=true:=by
 unfold wt at h;unfold rd;rw[h];simp
theorem H8{wr:Bool}{φ:List Nat}{slot n:Nat}{e:Eff}(h:Xo wr φ slot n e=true):e.heap=none∧(∀ p∈e.objs,(slot≤p.1∧p.1<slot+n)∨(wr=true∧wt φ p.1=true))∧∀ i∈e.frz,rd φ i=true:=by
 unfold Xo at h
 simp only[AUR]at h
 obtain⟨⟨h1,h2⟩,h3⟩:=h
 refine⟨by simpa using h1,fun p hp => ?_,fun i hi=>RK h3 hi⟩
 rw[AUj]at h2
 have:=h2 p hp
 simp only[AVj,AUR,AUP]at this
 rcases this with h|h
 ·exact .inl h
 ·exact .inr h
theorem El{e:Eff}(h:e.heap=none)(H:List Ob):DQ e H=BE e.objs H:=by unfold DQ;rw[h]
theorem Fm{e:Eff}(h:e.heap=none)(F:List Bool):IE e F=Ag e.frz F:=by unfold IE;rw[h]
theorem Bj{all:List Oper}{x y:Oper}(hap:apart? all x y=true)(st:St)(v:AV):∀ z∈y.op.operands,BC (st.put x.dst v).tmps z=BC st.tmps z:=by
 obtain⟨h1,_,_⟩:=Oper.apart_spec hap
 intro z hz
 cases hd:x.dst with
 |none=>rfl
 |some d=>
  cases z with
  |tmp t=>
   have hne:d≠t:=by
    rintro rfl
    refine h1 d hd ?_
    unfold Oper.looksAt
    refine List.mem_append_left _ ?_
    rw[List.mem_filterMap]
    exact⟨.tmp d,by simpa using hz,rfl⟩
   simp[BC,St.put,AU7 hne]
  |const v=>rfl
  |global g=>rfl
  |func f=>rfl
theorem E7{all:List Oper}{x y:Oper}(hap:apart? all x y=true)(st:St)(v:AV)(H:List Ob)(F:List Bool):Bp all y.guard ({ st with heap:=H,frz:=F }.put x.dst v)=Bp all y.guard st:=by
 obtain⟨h1,_,_⟩:=Oper.apart_spec hap
 unfold Bp
 cases hg:y.guard with
 |none=>rfl
 |some p=>
  obtain⟨j,want⟩:=p
  dsimp only
  cases hj:(all[j]?).bind (·.dst)with
  |none=>rfl
  |some d=>
   dsimp only
   cases hd:x.dst with
   |none=>rfl
   |some d'=>
    have hne:d'≠d:=by
     rintro rfl
     refine h1 d' hd ?_
     unfold Oper.looksAt
     refine List.mem_append_right _ ?_
     simp[hg]
     exact hj
    simp[St.put,AU7 hne]
theorem St.put_comm(st:St){x y:Option Tmp}(v u:AV)(h:∀ d,x=some d→y≠some d):(st.put x v).put y u=(st.put y u).put x v:=by
 cases x with
 |none=>rfl
 |some d=>
  cases y with
  |none=>rfl
  |some d'=>
   have hne:d≠d':=fun e=>h d rfl (e▸rfl)
   simp only[St.put]
   rw[List.set_comm _ _ hne]
theorem St.ID(st:St)(e:Eff)(d:Option Tmp)(v:AV):(st.put d v).app e=(st.app e).put d v:=by cases d<;>rfl
theorem AOv{φ:List Nat}{i:Nat}(h:rd φ i=true):∃ c∈φ,c/2=i:=by
 unfold rd at h
 simp only[AVj,AVh,AUP]at h
 rcases h with h|h
 ·exact⟨_,h,by omega⟩
 ·exact⟨_,h,by omega⟩
theorem AEX{all:List Oper}{x y:Oper}{φx φy:List Nat}{sx sy:Nat}(h:indep all x y φx φy sx sy=true):
  apart? all x y=true∧((QL φx=false∧QL φy=false∧Qy x.op y.op=true)∨(KW φx=true∧BV y.op=true)∨(KW φy=true∧BV x.op=true)∨KW φx=false∧KW φy=false∧(∀ i,rd φy i=true→¬ (sx≤i∧i<sx+slotsOf x.op))∧(∀ i,rd φx i=true→¬ (sy≤i∧i<sy+slotsOf y.op))∧(∀ i,wt φx i=true→rd φy i=true→False)∧(∀ i,wt φy i=true→rd φx i=true→False)):=by
 unfold indep at h
 rw[AUR]at h
 obtain⟨h1,h⟩:=h
 refine⟨h1,?_⟩
 simp only[AVj,AUR,AVr]at h
 rcases h with((h|h)|h)|h
 ·exact .inr (.inl h)
 ·exact .inr (.inr (.inl h))
 rotate_left
 ·exact .inl ⟨h.1,h.2.1,h.2.2⟩
 obtain⟨⟨⟨⟨⟨hx,hy⟩,h2⟩,h3⟩,h4⟩,h5⟩:=h
 refine .inr (.inr (.inr ⟨hx,hy,?_⟩))
 rw[AUj]at h2 h3 h4 h5
 have own:∀ {φ:List Nat} {s n:Nat},(∀ c∈φ,(!(decide (s≤c/2)&&decide (c/2<s+n)))=true)→∀ i,rd φ i=true→¬ (s≤i∧i<s+n):=by
  intro φ s n h i hi
  obtain⟨c,hc,rfl⟩:=AOv hi
  have:=h c hc
  simp at this
  omega
 have wr:∀ {φ ψ:List Nat},(∀ c∈φ,(decide (c % 2=0) || !(rd ψ (c/2)))=true)→∀ i,wt φ i=true→rd ψ i=true→False:=by
  intro φ ψ h i hi hr
  unfold wt at hi
  simp only[AVh,AUP]at hi
  have:=h _ hi
  have e1:(2*i+1) % 2=1:=by omega
  have e2:(2*i+1)/2=i:=by omega
  rw[e1,e2,hr]at this
  simp at this
 exact⟨own h2,own h3,wr h4,wr h5⟩
theorem IF{all:List Oper}{x y:Oper}(h:apart? all x y=true):apart? all y x=true:=by
 obtain⟨h1,h2,h3⟩:=Oper.apart_spec h
 unfold apart? Oper.apart
 rw[AUR]
 constructor
 ·cases hy:y.dst with
  |none=>rfl
  |some d=>
   have a:=h3 d hy
   have b:x.dst≠some d:=fun e=>h2 d e hy
   simp[a,b]
 ·cases hx:x.dst with
  |none=>rfl
  |some d=>simpa using h1 d hx
theorem Wg{φ:List Nat}{H H':List Ob}(h:∀ i,rd φ i=true→H[i]? = H'[i]?):Jz φ H=Jz φ H':=by
 unfold Jz
 rw[AWR,AUj,AUj]
 have e:∀ c∈φ,H[c/2]? = H'[c/2]? := by
  intro c hc
  refine h _ ?_
  unfold rd
  simp only[AVj,AVh,AUP]
  rcases Nat.mod_two_eq_zero_or_one c with h'|h'
  ·left;rw[show 2*(c/2)=c from by omega];exact hc
  ·right;rw[show 2*(c/2)+1=c from by omega];exact hc
 constructor<;>intro hh c hc
 ·rw[← e c hc];exact hh c hc
 ·rw[e c hc];exact hh c hc
theorem ABb{ρ:Operand→AV}{o:Op}{φ:List Nat}{H H':List Ob}(h:∀ i,rd φ i=true→H[i]? = H'[i]?)(hk:Kn E H ρ o φ):Kn E H' ρ o φ:=by
 rcases hk with⟨h1,h2⟩|hk
 ·refine .inl ⟨h1,?_⟩
  unfold IZ at *
  rw[← Wg h];exact h2
 ·exact .inr hk
theorem Xh{x:Oper}{φx φy:List Nat}{sx:Nat}(h1:∀ i,rd φy i=true→¬ (sx≤i∧i<sx+slotsOf x.op))(h3:∀ i,wt φx i=true→rd φy i=true→False){st:St}{vx:AV}{ex:Eff}{bx:Bool}(hex:Xo bx φx sx (slotsOf x.op) ex=true):
  ∀ i,rd φy i=true→((st.app ex).put x.dst vx).heap[i]? = st.heap[i]? := by
 intro i hi
 obtain⟨q1,q2,q3⟩:=H8 hex
 have hheap:((st.app ex).put x.dst vx).heap=BE ex.objs st.heap:=by cases x.dst<;>exact El q1 _
 rw[hheap]
 refine BO _ _ fun p hp => ?_
 rintro rfl
 rcases q2 p hp with h|⟨_,h⟩
 ·exact h1 _ hi h
 ·exact h3 _ h hi
theorem W3(hL:G1 E){all:List Oper}{x y:Oper}{φx φy:List Nat}{sx sy:Nat}(hap:apart? all x y=true)(h1:∀ i,rd φy i=true→¬ (sx≤i∧i<sx+slotsOf x.op))
  (h2:∀ i,rd φx i=true→¬ (sy≤i∧i<sy+slotsOf y.op)) (h3:∀ i,wt φx i=true→rd φy i=true→False) (h4:∀ i,wt φy i=true→rd φx i=true→False) (hsl:sx+slotsOf x.op≤sy∨sy+slotsOf y.op≤sx)
  {st:St} {vx:AV} {ex:Eff} {bx:Bool} (hex:Xo bx φx sx (slotsOf x.op) ex=true) (hk:Kn E ((st.app ex).put x.dst vx).heap (BC st.tmps) y.op φy∨Kn E st.heap (BC st.tmps) y.op φy) :
  ∀ (R:Type) (k:AV→Eff→Option R),evalOp P E R y.op y.type (BC ((st.app ex).put x.dst vx).tmps) ((st.app ex).put x.dst vx).heap ((st.app ex).put x.dst vx).frz sy k=evalOp P E R y.op y.type (BC st.tmps) st.heap st.frz sy k:=by
 intro R k
 obtain⟨q1,q2,q3⟩:=H8 hex
 have hput:∀ z∈y.op.operands,BC ((st.app ex).put x.dst vx).tmps z=BC st.tmps z:=fun z hz=>by
  have:=Bj hap (st.app ex) vx z hz
  exact this
 have hheap:((st.app ex).put x.dst vx).heap=BE ex.objs st.heap:=by cases x.dst<;>exact El q1 _
 have hfrz:((st.app ex).put x.dst vx).frz=Ag ex.frz st.frz:=by cases x.dst<;>exact Fm q1 _
 rw[hheap]at hk
 rw[hheap,hfrz]
 have hsame:∀ i,rd φy i=true→(BE ex.objs st.heap)[i]? = st.heap[i]? := by
  intro i hi
  refine BO _ _ fun p hp => ?_
  rintro rfl
  rcases q2 p hp with h|⟨_,h⟩
  ·exact h1 _ hi h
  ·exact h3 _ h hi
 have hkn:Kn E st.heap (BC st.tmps) y.op φy:=hk.elim (fun h=>ABb hsame h) fun h=>h
 rcases hkn with⟨_,hw⟩|⟨hw,hww,hl⟩
 ·rw[Bb y.op y.type _ _ sy k hput]
  symm
  have wtS:∀ c∈φy,wt φy (c/2)=true:=by
   intro c hc
   unfold IZ at hw
   simp only[AUR]at hw
   have:=hw.1.2
   rw[AUj]at this
   have:=this c hc
   simp only[AV4]at this
   unfold wt
   simp only[AVh,AUP]
   rw[show 2*(c/2)+1=c from by omega]
   exact hc
  refine AE5 hL y.op y.type k hw ⟨fun id hid => ?_,fun s a1 a2 => ?_,fun s a1 a2 => ?_,(CL _ _).symm,fun id hid => ?_⟩
  ·obtain⟨c,hc,rfl⟩:=AUm.1 hid
   exact(hsame _ (HM (wtS c hc))).symm
  ·symm
   refine BO _ _ fun p hp => ?_
   rintro rfl
   rcases q2 p hp with h|⟨hwx,h⟩
   ·omega
   ·exact h2 _ (HM h) ⟨a1,a2⟩
  ·rw[Ax]
   have:s∉ex.frz:=fun h=>h2 _ (q3 s h) ⟨a1,a2⟩
   simp[this]
  ·obtain⟨c,hc,rfl⟩:=AUm.1 hid
   rw[Ax]
   have:c/2∉ex.frz:=fun h=>h4 _ (wtS c hc) (q3 _ h)
   simp[this]
 have hag:NG (Ic (BC st.tmps) y.op) sy (slotsOf y.op) (Dt (BC st.tmps) y.op) (BE ex.objs st.heap) st.heap (Ag ex.frz st.frz) st.frz:=by
  refine⟨fun id hid => ?_,fun s a1 a2 => ?_,fun s a1 a2 => ?_,CL _ _,fun id hid => ?_⟩
  ·have hφ:=RK hw hid
   refine BO _ _ fun p hp => ?_
   rintro rfl
   rcases q2 p hp with h|⟨hwx,h⟩
   ·exact h1 _ hφ h
   ·exact h3 _ h hφ
  ·refine BO _ _ fun p hp => ?_
   rintro rfl
   rcases q2 p hp with h|⟨hwx,h⟩
   ·omega
   ·exact h2 _ (HM h) ⟨a1,a2⟩
  ·rw[Ax]
   have:s∉ex.frz:=fun h=>h2 _ (q3 s h) ⟨a1,a2⟩
   simp[this]
  ·rw[Ax]
   have hφ:=ABq hww hid
   have:id∉ex.frz:=fun h=>h4 _ hφ (q3 id h)
   simp[this]
 rw[Bb y.op y.type _ _ sy k hput]
 exact AAw hL y.op y.type k hag hl
theorem YT{ρ ρ':Operand→AV}{o:Op}(h:∀ z∈o.operands,ρ z=ρ' z):Dt ρ o=Dt ρ' o:=by
 unfold Dt
 split
 ·rw[h _ (by simp[Op.operands])]
 ·rw[h _ (by simp[Op.operands])]
 ·rw[h _ (by simp[Op.operands])]
 ·rw[h _ (by simp[Op.operands])]
 ·rw[h _ (by simp[Op.operands])]
 ·rename_i args ts
  cases ha:args.toList with
  |nil=>rfl
  |cons s r=>
   have:s∈args:=by
    have:s∈args.toList:=by rw[ha];simp
    simpa using this
   simp only
   rw[h s (by simp[Op.operands,Call.operands];exact this)]
 ·rename_i args ts
  cases ha:args.toList with
  |nil=>rfl
  |cons s r=>
   have:s∈args:=by
    have:s∈args.toList:=by rw[ha];simp
    simpa using this
   simp only
   rw[h s (by simp[Op.operands,Call.operands];exact this)]
 ·rfl
theorem Hj{ρ ρ':Operand→AV}{o:Op}(h:∀ z∈o.operands,ρ z=ρ' z):FF ρ o=FF ρ' o:=by
 unfold FF
 have key:∀ l:List Operand,(∀ z∈l,ρ z=ρ' z)→(l.flatMap fun x=>Av (ρ x))=l.flatMap fun x=>Av (ρ' x):=by
  intro l
  induction l with
  |nil=>intro _;rfl
  |cons x l ih=>intro h;rw[AVd,AVd,h x (by simp),ih fun z hz=>h z (by simp[hz])]
 exact key _ fun z hz=>h z (by simpa using hz)
theorem AB9{ρ ρ':Operand→AV}{o:Op}(h:∀ z∈o.operands,ρ z=ρ' z):Ic ρ o=Ic ρ' o:=by
 cases o with
 |store T x y=>
  simp only[Ic]
  rw[h x (by simp[Op.operands]),Hj h]
 |move x=>rfl
 |assign x=>rfl
 |pick c a b=>rfl
 |extract x i=>rfl
 |build T ps=>rfl
 |makeFunc f a b=>rfl
 |_=>exact Hj h
theorem WO{ρ ρ':Operand→AV}{o:Op}(h:∀ z∈o.operands,ρ z=ρ' z):Ev E ρ o=Ev E ρ' o:=by
 unfold Ev
 split
 ·rename_i f args ts
  rw[h f (by simp[Op.operands,Call.operands])]
 ·rfl
theorem FA{H:List Ob}{ρ ρ':Operand→AV}{o:Op}{φ:List Nat}(h:∀ z∈o.operands,ρ z=ρ' z)(hk:Kn E H ρ o φ):Kn E H ρ' o φ:=by
 rcases hk with⟨h0,hk⟩|⟨h1,h2,h3⟩
 ·refine .inl ⟨h0,?_⟩
  have e:N5 E ρ o=N5 E ρ' o:=by
   unfold N5
   split
   ·rename_i f args ts
    rw[h f (by simp[Op.operands,Call.operands])]
   ·rfl
  unfold IZ at *
  rw[← e,← Hj h];exact hk
 ·rw[AB9 h]at h1
  rw[YT h]at h2
  rw[WO h]at h3
  exact .inr ⟨h1,h2,h3⟩
theorem KM{R:Type}{o:Op}(h:BV o=true)(ty:TypeId)(ρ:Operand→AV)(H H':List Ob)(fz fz':List Bool)(slot:Nat)(k:AV→Eff→Option R):
  evalOp P E R o ty ρ H fz slot k=evalOp P E R o ty ρ H' fz' slot k:=by
 cases o<;>first|rfl|(simp only[BV,AUc]at h)
theorem H5{o:Op}(h:BV o=true)(ty:TypeId)(ρ:Operand→AV)(H:List Ob)(fz:List Bool)(slot:Nat){v:AV}{e:Eff}
  (hk:∀ (R:Type) (k:AV→Eff→Option R),evalOp P E R o ty ρ H fz slot k=k v e):e = {}:=by
 have:=hk Eff (fun _ e=>some e)
 cases o<;>first|(simp only[BV,AUc]at h;done)|skip
 all_goals
  simp only[evalOp]at this
  repeat' split at this
  all_goals first|(cases this;done)|(simp only[AUM]at this;exact this.symm)
theorem UH{o:Op}(h:Ee o=true)(ty:TypeId)(ρ:Operand→AV)(H:List Ob)(fz:List Bool)(slot:Nat){v:AV}{e:Eff}
  (hk:∀ (R:Type) (k:AV→Eff→Option R),evalOp P E R o ty ρ H fz slot k=k v e):e = {}:=by
 by_cases hh:BV o=true
 ·exact H5 hh ty ρ H fz slot hk
 have:=hk Eff (fun _ e=>some e)
 cases o with
 |call c=>
  obtain⟨callee,args,ts⟩:=c
  cases callee with
  |builtin b=>
   cases b<;>first|(simp only[Ee,BV,AUc]at h;done)|skip
   simp only[evalOp]at this
   repeat' split at this
   all_goals first|(cases this;done)|(simp only[AUM]at this;exact this.symm)
  |_=>simp only[Ee,BV,AUc]at h
 |slice T x lo hi mx=>
  cases mx with
  |some m=>simp only[Ee,BV,AUc]at h
  |none=>
   simp only[evalOp,Er]at this
   repeat' split at this
   all_goals first|(cases this;done)|(simp only[AUM]at this;exact this.symm)
 |makeFunc fn first cs=>
  cases fn<;>first|(simp only[Ee,BV,AUc]at h;done)|skip
  simp only[evalOp]at this
  repeat' split at this
  all_goals first|(cases this;done)|(simp only[AUM]at this;exact this.symm)
 |load _ _|convert _ _ _|fieldAddr _ _ _|field _ _ _|indexAddr _ _ _|index _ _ _|nilCheck _|lookup _ _ _ _|build _ _=>
  simp only[evalOp]at this
  repeat' split at this
  all_goals first|(cases this;done)|(simp only[AUM]at this;exact this.symm)
 |_=>first|exact absurd h hh|(simp only[Ee,BV,AUc]at h;done)|exact absurd rfl hh
theorem AKx{H:List Ob}{ρ:Operand→AV}{o:Op}{φ:List Nat}(h:BV o=true)(hk:Kn E H ρ o φ):within (Ic ρ o) φ=true∧LR (Dt ρ o) φ=true∧Ev E ρ o=true:=by
 rcases hk with⟨_,hk⟩|hk
 ·exfalso
  unfold IZ at hk
  simp only[AUR]at hk
  have:=hk.2
  unfold N5 at this
  split at this
  ·cases h
  ·cases this
 ·exact hk
theorem AGD{all:List Oper}{x y:Oper}{φx φy:List Nat}{sx sy:Nat}(hap:apart? all x y=true)(hn:KW φx=true)(hl:BV y.op=true)
  {st s1 s2:St} (hx:B8 P E all x φx sx st s1) (hy:B8 P E all y φy sy s1 s2):∃ s1',B8 P E all y φy sy st s1'∧B8 P E all x φx sx s1' s2:=by
 have hap':=IF hap
 obtain⟨_,hdd,_⟩:=Oper.apart_spec hap
 have gx:∀ (v:AV) (H:List Ob) (F:List Bool) (s:St),Bp all y.guard ({ s with heap:=H,frz:=F }.put x.dst v)=Bp all y.guard s:=fun v H F s=>E7 hap s v H F
 have gy:∀ (v:AV) (H:List Ob) (F:List Bool) (s:St),Bp all x.guard ({ s with heap:=H,frz:=F }.put y.dst v)=Bp all x.guard s:=fun v H F s=>E7 hap' s v H F
 have first:∀ (s1:St),(∀ z∈y.op.operands,BC s1.tmps z=BC st.tmps z)→Bp all y.guard s1=Bp all y.guard st→B8 P E all y φy sy s1 s2→∃ vy,B8 P E all y φy sy st (st.put y.dst vy)∧s2=s1.put y.dst vy:=by
  intro s1 hput hg hy
  rcases hy with⟨g2,vy,ey,hqy,b3,rfl⟩|⟨g2,rfl⟩
  ·have he:=H5 hl _ _ _ _ _ b3
   subst he
   refine⟨vy,.inl ⟨by rw[← hg];exact g2,vy,{},?_,fun R k => ?_,rfl⟩,rfl⟩
   ·rcases hqy with h|⟨h1,h4⟩
    ·exact .inl h
    ·exact .inr ⟨.inr (AKx hl (FA hput h1)),h4⟩
   ·rw[← b3 R k,Bb y.op y.type _ _ sy k hput]
    exact KM hl _ _ _ _ _ _ _ _
  ·exact⟨BB,.inr ⟨by rw[← hg];exact g2,rfl⟩,rfl⟩
 have put1:∀ (v:AV) (s:St),∀ z∈y.op.operands,BC (s.put x.dst v).tmps z=BC s.tmps z:=fun v s z hz=>Bj hap s v z hz
 rcases hx with⟨g1,vx,ex,hqx,a3,rfl⟩|⟨g1,rfl⟩
 ·obtain⟨vy,h1,rfl⟩:=first _ (put1 vx (st.app ex)) (gx vx (DQ ex st.heap) (IE ex st.frz) st) hy
  refine⟨_,h1,.inl ⟨?_,vx,ex,.inl hn,fun R k => ?_,?_⟩⟩
  ·rw[show Bp all x.guard (st.put y.dst vy)=Bp all x.guard st from gy vy st.heap st.frz st];exact g1
  ·have hh:(st.put y.dst vy).heap=st.heap∧(st.put y.dst vy).frz=st.frz:=by cases y.dst<;>exact⟨rfl,rfl⟩
   rw[hh.1,hh.2,Bb x.op x.type _ _ sx k fun z hz=>Bj hap' st vy z hz]
   exact a3 R k
  ·rw[St.ID,St.put_comm _ vx vy hdd]
 ·obtain⟨vy,h1,rfl⟩:=first _ (put1 BB st) (gx BB st.heap st.frz st) hy
  refine⟨_,h1,.inr ⟨?_,?_⟩⟩
  ·rw[show Bp all x.guard (st.put y.dst vy)=Bp all x.guard st from gy vy st.heap st.frz st];exact g1
  ·rw[St.put_comm _ BB vy hdd]
theorem AGC{all:List Oper}{x y:Oper}{φx φy:List Nat}{sx sy:Nat}(hap:apart? all x y=true)(hn:KW φy=true)(hl:BV x.op=true)
  {st s1 s2:St} (hx:B8 P E all x φx sx st s1) (hy:B8 P E all y φy sy s1 s2):∃ s1',B8 P E all y φy sy st s1'∧B8 P E all x φx sx s1' s2:=by
 have hap':=IF hap
 obtain⟨_,hdd,_⟩:=Oper.apart_spec hap
 have gx:∀ (v:AV) (s:St),Bp all y.guard (s.put x.dst v)=Bp all y.guard s:=fun v s=>E7 hap s v s.heap s.frz
 have gy:∀ (v:AV) (H:List Ob) (F:List Bool) (s:St),Bp all x.guard ({ s with heap:=H,frz:=F }.put y.dst v)=Bp all x.guard s:=fun v H F s=>E7 hap' s v H F
 have hh:∀ v:AV,(st.put x.dst v).heap=st.heap∧(st.put x.dst v).frz=st.frz:=fun v=>by cases x.dst<;>exact⟨rfl,rfl⟩
 have behind:∀ (s:St) (vx:AV),(∀ z∈x.op.operands,BC s.tmps z=BC st.tmps z)→Bp all x.guard s=Bp all x.guard st→B8 P E all x φx sx st (st.put x.dst vx)→(∃ v,B8 P E all x φx sx st (st.put x.dst v)):=fun s vx _ _ h=>⟨vx,h⟩
 have xs:∃ vx,s1=st.put x.dst vx∧∀ s:St,(∀ z∈x.op.operands,BC s.tmps z=BC st.tmps z)→Bp all x.guard s=Bp all x.guard st→B8 P E all x φx sx s (s.put x.dst vx):=by
  rcases hx with⟨g1,vx,ex,hqx,a3,rfl⟩|⟨g1,rfl⟩
  ·have he:=H5 hl _ _ _ _ _ a3
   subst he
   refine⟨vx,rfl,fun s hput hg=>.inl ⟨by rw[hg];exact g1,vx,{},?_,fun R k => ?_,rfl⟩⟩
   ·rcases hqx with h|⟨h1,h4⟩
    ·exact .inl h
    ·exact .inr ⟨.inr (AKx hl (FA (fun z hz=>(hput z hz).symm) h1)),h4⟩
   ·rw[← a3 R k,Bb x.op x.type _ _ sx k hput]
    exact KM hl _ _ _ _ _ _ _ _
  ·exact⟨BB,rfl,fun s _ hg=>.inr ⟨by rw[hg];exact g1,rfl⟩⟩
 obtain⟨vx,rfl,hxs⟩:=xs
 have hput:∀ z∈y.op.operands,BC (st.put x.dst vx).tmps z=BC st.tmps z:=fun z hz=>Bj hap st vx z hz
 rcases hy with⟨g2,vy,ey,hqy,b3,rfl⟩|⟨g2,rfl⟩
 ·refine⟨(st.app ey).put y.dst vy,.inl ⟨by rw[← gx vx st];exact g2,vy,ey,.inl hn,fun R k => ?_,rfl⟩,?_⟩
  ·have:=b3 R k
   rw[(hh vx).1,(hh vx).2,Bb y.op y.type _ _ sy k hput]at this
   exact this
  ·have:=hxs ((st.app ey).put y.dst vy) (fun z hz=>Bj hap' (st.app ey) vy z hz) (gy vy (DQ ey st.heap) (IE ey st.frz) st)
   rw[St.ID,St.put_comm _ vx vy hdd]
   exact this
 ·refine⟨st.put y.dst BB,.inr ⟨by rw[← gx vx st];exact g2,rfl⟩,?_⟩
  have:=hxs (st.put y.dst BB) (fun z hz=>Bj hap' st BB z hz) (gy BB st.heap st.frz st)
  rw[St.put_comm _ vx BB hdd]
  exact this
theorem AGE(hL:G1 E){all:List Oper}{x y:Oper}{φx φy:List Nat}{sx sy:Nat}(hap:apart? all x y=true)(n1:KW φx=false)(n2:KW φy=false)(i1:∀ i,rd φy i=true→¬ (sx≤i∧i<sx+slotsOf x.op))(i2:∀ i,rd φx i=true→¬ (sy≤i∧i<sy+slotsOf y.op))(i3:∀ i,wt φx i=true→rd φy i=true→False)(i4:∀ i,wt φy i=true→rd φx i=true→False)(hsl:sx+slotsOf x.op≤sy)
  {st s1 s2:St} (hx:B8 P E all x φx sx st s1) (hy:B8 P E all y φy sy s1 s2):∃ s1',B8 P E all y φy sy st s1'∧B8 P E all x φx sx s1' s2:=by
 have hap':=IF hap
 obtain⟨_,hdd,_⟩:=Oper.apart_spec hap
 have gx:∀ (v:AV) (H:List Ob) (F:List Bool) (s:St),Bp all y.guard ({ s with heap:=H,frz:=F }.put x.dst v)=Bp all y.guard s:=fun v H F s=>E7 hap s v H F
 have gy:∀ (v:AV) (H:List Ob) (F:List Bool) (s:St),Bp all x.guard ({ s with heap:=H,frz:=F }.put y.dst v)=Bp all x.guard s:=fun v H F s=>E7 hap' s v H F
 have gxa:∀ v e,Bp all y.guard ((st.app e).put x.dst v)=Bp all y.guard st:=fun v e=>gx v (DQ e st.heap) (IE e st.frz) st
 have gya:∀ v e,Bp all x.guard ((st.app e).put y.dst v)=Bp all x.guard st:=fun v e=>gy v (DQ e st.heap) (IE e st.frz) st
 rcases hx with⟨g1,vx,ex,hqx,a3,rfl⟩|⟨g1,rfl⟩
 ·obtain⟨a1,a4⟩:=hqx.resolve_left (by rw[n1];simp)
  rcases hy with⟨g2,vy,ey,hqy,b3,rfl⟩|⟨g2,rfl⟩
  ·obtain⟨b1,b4⟩:=hqy.resolve_left (by rw[n2];simp)
   have hput:∀ z∈y.op.operands,BC ((st.app ex).put x.dst vx).tmps z=BC st.tmps z:=fun z hz=>Bj hap (st.app ex) vx z hz
   have b1:=FA hput b1
   have ov:=W3 (P:=P) hL hap i1 i2 i3 i4 (.inl hsl) (vx:=vx) a4 (.inl b1)
   refine⟨(st.app ey).put y.dst vy,.inl ⟨by rw[← gxa vx ex];exact g2,vy,ey,.inr ⟨ABb (Xh i1 i3 a4) b1,b4⟩,fun R k=>by rw[← ov R k];exact b3 R k,rfl⟩,?_⟩
   have hput':∀ z∈x.op.operands,BC ((st.app ey).put y.dst vy).tmps z=BC st.tmps z:=fun z hz=>Bj hap' (st.app ey) vy z hz
   have ov':=W3 (P:=P) hL hap' i2 i1 i4 i3 (.inr hsl) (st:=st) (vx:=vy) b4 (.inr a1)
   refine .inl ⟨by rw[gya vy ey];exact g1,vx,ex,.inr ⟨FA (fun z hz=>(hput' z hz).symm) (ABb (fun i hi=>(Xh i2 i4 b4 i hi).symm) a1),a4⟩,fun R k=>by rw[ov' R k];exact a3 R k,?_⟩
   obtain⟨p1,p2,p3⟩:=H8 a4
   obtain⟨r1,r2,r3⟩:=H8 b4
   have hdis:∀ p∈ey.objs,∀ q∈ex.objs,p.1≠q.1:=by
    intro p hp q hq he
    rcases r2 p hp with h|⟨hw,h⟩<;>rcases p2 q hq with h'|⟨hw',h'⟩
    ·omega
    ·exact i2 _ (HM h') (he▸h)
    ·exact i1 _ (HM h) (he▸h')
    ·exact i3 _ h' (he▸HM h)
   rw[St.ID,St.ID,St.put_comm _ vx vy hdd]
   congr 2
   unfold St.app
   rw[El p1,El r1,Fm p1,Fm r1,El r1,El p1,Fm r1,Fm p1,Y3 _ _ hdis,ACc]
  ·refine⟨st.put y.dst BB,.inr ⟨by rw[← gxa vx ex];exact g2,rfl⟩,.inl ⟨?_,vx,ex,.inr ⟨?_,a4⟩,fun R k => ?_,?_⟩⟩
   ·rw[show Bp all x.guard (st.put y.dst BB)=Bp all x.guard st from gy BB st.heap st.frz st];exact g1
   ·have hh:(st.put y.dst BB).heap=st.heap:=by cases y.dst<;>rfl
    rw[hh]
    exact FA (fun z hz=>(Bj hap' st BB z hz).symm) a1
   ·have hh:(st.put y.dst BB).heap=st.heap∧(st.put y.dst BB).frz=st.frz:=by cases y.dst<;>exact⟨rfl,rfl⟩
    rw[hh.1,hh.2,Bb x.op x.type _ _ sx k fun z hz=>Bj hap' st BB z hz]
    exact a3 R k
   ·rw[St.ID,St.put_comm _ vx BB hdd]
 ·rcases hy with⟨g2,vy,ey,hqy,b3,rfl⟩|⟨g2,rfl⟩
  ·obtain⟨b1,b4⟩:=hqy.resolve_left (by rw[n2];simp)
   have hh:(st.put x.dst BB).heap=st.heap∧(st.put x.dst BB).frz=st.frz:=by cases x.dst<;>exact⟨rfl,rfl⟩
   rw[hh.1]at b1
   have hput:∀ z∈y.op.operands,BC (st.put x.dst BB).tmps z=BC st.tmps z:=fun z hz=>Bj hap st BB z hz
   have b1:=FA hput b1
   refine⟨(st.app ey).put y.dst vy,.inl ⟨by rw[← show Bp all y.guard (st.put x.dst BB)=Bp all y.guard st from gx BB st.heap st.frz st];exact g2,vy,ey,.inr ⟨b1,b4⟩,fun R k => ?_,rfl⟩,.inr ⟨by rw[gya vy ey];exact g1,?_⟩⟩
   ·have:=b3 R k
    rw[hh.1,hh.2,Bb y.op y.type _ _ sy k hput]at this
    exact this
   ·rw[St.ID,St.put_comm _ BB vy hdd]
  ·exact⟨st.put y.dst BB,.inr ⟨by rw[← show Bp all y.guard (st.put x.dst BB)=Bp all y.guard st from gx BB st.heap st.frz st];exact g2,rfl⟩,
    .inr ⟨by rw[show Bp all x.guard (st.put y.dst BB)=Bp all x.guard st from gy BB st.heap st.frz st];exact g1,St.put_comm _ BB BB hdd⟩⟩
def AKv(H H':List Ob)(id:Nat):Prop:=(∃ a b es,H[id]? = some (.map a b es))∧∃ a b es,H'[id]? = some (.map a b es)
theorem Gz{H H':List Ob}(h:∀ id,H[id]? = H'[id]?∨AKv H H' id)(t:Ty)(v:AV):Df H t v=Df H' t v:=by
 cases v<;>simp only[Df]
 ·rename_i id
  rcases h id with h|⟨⟨a,b,es,h1⟩,a',b',es',h2⟩
  ·rw[h]
  ·rw[h1,h2]
 ·rename_i id off n
  rcases h id with h|⟨⟨a,b,es,h1⟩,a',b',es',h2⟩
  ·rw[h]
  ·rw[h1,h2]
theorem AMq{α:Type}{one one':List AV→Option (α×List Nat×List AV)}(h1:∀ cs,one cs=one' cs):∀ (n:Nat) (cs:List AV),L8 one n cs=L8 one' n cs:=by
 intro n
 induction n with
 |zero=>intro cs;rfl
 |succ n ih=>
  intro cs
  simp only[L8]
  rw[← h1 cs]
  cases one cs with
  |none=>rfl
  |some p=>obtain⟨x,f,r⟩:=p;simp only[ih]
theorem AAa{H H':List Ob}(h:∀ id,H[id]? = H'[id]?∨AKv H H' id):∀ (t:Ty) (cs:List AV),As H t cs=As H' t cs:=by
 intro t
 induction t with
 |unit=>intro cs;cases cs<;>rfl
 |bool=>intro cs;cases cs with
  |nil=>rfl
  |cons c cs=>unfold As;rw[Gz h .bool c]
 |int k=>intro cs;cases cs with
  |nil=>rfl
  |cons c cs=>unfold As;rw[Gz h (.int k) c]
 |slice e _=>intro cs;cases cs with
  |nil=>rfl
  |cons c cs=>unfold As;rw[Gz h (.slice e) c]
 |prod a b iha ihb=>
  intro cs
  simp only[As]
  rw[← iha cs]
  cases As H a cs with
  |none=>rfl
  |some p=>obtain⟨x,f,r⟩:=p;simp only[ihb]
 |arr n e ih=>intro cs;simp only[As];exact AMq ih n cs
theorem ANn{H H':List Ob}(h:∀ id,H[id]? = H'[id]?∨AKv H H' id)(t:Ty)(v:AV):Ej H t v=Ej H' t v:=by
 unfold Ej
 split
 ·cases v<;>simp only[asAgg]
  rename_i cs
  rw[AAa h t cs]
 ·exact Gz h t v
theorem AMS{α β:Type}[DecidableEq α](es:List (α×β))(k j:α)(z:β):(AK (Ab es k ((AK es k).getD z)) j).getD z=(AK es j).getD z:=by
 have key:∀ (es:List (α×β)) (v:β),AK (Ab es k v) j=if j=k then some v else AK es j:=by
  intro es v
  induction es with
  |nil=>
   simp only[Ab,AK]
   by_cases h:j=k
   ·rw[AUf h,AUf h.symm]
   ·rw[AUZ h,AUZ (AU1 h)]
  |cons e es ih=>
   obtain⟨a,x⟩:=e
   by_cases h1:a=k
   ·subst h1
    simp only[Ab,AK,AUv]
    by_cases h:j=a
    ·rw[AUf h,AUf h.symm]
    ·rw[AUZ h,AUZ (AU1 h),AUZ (AU1 h)]
   ·simp only[Ab,AK,h1,AUa,ih]
    by_cases h:a=j
    ·subst h
     rw[AUf rfl,AUZ h1,AUf rfl]
    ·rw[AUZ h,AUZ h]
 rw[key]
 by_cases h:j=k
 ·rw[AUf h,h];rfl
 ·rw[AUZ h]
theorem Z9{R:Type}{H:List Ob}{j:Nat}{a b:Ty}{es es':List (a.den×b.den)}(hj:H[j]? = some (.map a b es))(hval:∀ key:a.den,(AK (α:=a.den) es' key).getD b.zero=(AK (α:=a.den) es key).getD b.zero)
  (T:TypeId) (m x:Operand) (ty:TypeId) (ρ:Operand→AV) (fz fz':List Bool) (slot slot':Nat) (kk:AV→Eff→Option R) :
  evalOp P E R (.lookup T m x false) ty ρ (H.set j (.map a b es')) fz' slot' kk=evalOp P E R (.lookup T m x false) ty ρ H fz slot kk:=by
 have hlt:=Ap hj
 have hm:∀ id,(H.set j (.map a b es'))[id]? = H[id]?∨AKv (H.set j (.map a b es')) H id:=fun id=>by
  by_cases hid:id=j
  ·subst hid
   exact .inr ⟨⟨a,b,es',BK hlt⟩,a,b,es,hj⟩
  ·exact .inl (Aw hid)
 simp only[evalOp,ANn hm]
 cases P.underlying T with
 |none=>rfl
 |some d=>
  cases d with
  |map kt vt=>
   cases hv:ρ m<;>try rfl
   rename_i id
   dsimp only
   by_cases hid:id=j
   ·subst hid
    rw[BK hlt,hj]
    dsimp only
    cases decide (Pn P kt=some a)with
    |false=>rfl
    |true=>cases zeroAt P vt with
     |none=>rfl
     |some z=>
      obtain⟨b',zc⟩:=z
      dsimp only
      cases decide (b'=b)with
      |false=>rfl
      |true=>cases Ej H a (ρ x)with
       |none=>rfl
       |some p=>
        obtain⟨key,f⟩:=p
        dsimp only
        rw[hval key]
   ·rw[Aw hid]
  |_=>rfl
theorem Z1{H:List Ob}{fz:List Bool}{T:TypeId}{m x:Operand}{ty:TypeId}{ρ:Operand→AV}{slot:Nat}{v:AV}{e:Eff}(h:∀ (R:Type) (k:AV→Eff→Option R),evalOp P E R (.mapEntry T m x) ty ρ H fz slot k=k v e):
  ∃ id a b es,∃ key:a.den,H[id]? = some (.map a b es)∧e = { objs:=[(id,.map a b (Ab (α:=a.den) es key ((AK (α:=a.den) es key).getD b.zero)))] }:=by
 have:=h Eff (fun _ e=>some e)
 simp only[evalOp]at this
 split at this
 ·split at this
  ·rename_i id _ _ a b es ho
   split at this
   ·split at this
    ·simp only[AUM]at this
     exact⟨_,_,_,_,_,ho,this.symm⟩
    ·cases this
   ·cases this
  ·cases this
 ·cases this
theorem AKw{H H':List Ob}{ρ:Operand→AV}{o:Op}{φ:List Nat}(hw:QL φ=false)(hk:Kn E H ρ o φ):Kn E H' ρ o φ:=by
 rcases hk with⟨h1,_⟩|hk
 ·rw[hw]at h1;cases h1
 ·exact .inr hk
theorem AGB{all:List Oper}{x y:Oper}{φx φy:List Nat}{sx sy:Nat}(hap:apart? all x y=true)(w1:QL φx=false)(w2:QL φy=false)(hm:Qy x.op y.op=true)
  {st s1 s2:St} (hx:B8 P E all x φx sx st s1) (hy:B8 P E all y φy sy s1 s2):∃ s1',B8 P E all y φy sy st s1'∧B8 P E all x φx sx s1' s2:=by
 have hap':=IF hap
 obtain⟨_,hdd,_⟩:=Oper.apart_spec hap
 obtain⟨T,m,kx,ok,hxo,T',m',ky,hyo,hok⟩:∃ T m kx ok,x.op = .lookup T m kx ok∧∃ T' m' ky,y.op = .mapEntry T' m' ky∧ok=false:=by
  cases hxo:x.op<;>cases hyo:y.op<;>rw[hxo,hyo]at hm<;>simp only[Qy,AUc]at hm
  exact⟨_,_,_,_,rfl,_,_,_,rfl,by simpa using hm⟩
 subst hok
 have gx:∀ (v:AV) (s:St),Bp all y.guard (s.put x.dst v)=Bp all y.guard s:=fun v s=>E7 hap s v s.heap s.frz
 have gy:∀ (v:AV) (H:List Ob) (F:List Bool) (s:St),Bp all x.guard ({ s with heap:=H,frz:=F }.put y.dst v)=Bp all x.guard s:=fun v H F s=>E7 hap' s v H F
 have hh:∀ v:AV,(st.put x.dst v).heap=st.heap∧(st.put x.dst v).frz=st.frz:=fun v=>by cases x.dst<;>exact⟨rfl,rfl⟩
 have xs:∃ vx,s1=st.put x.dst vx∧∀ s:St,(∀ z∈x.op.operands,BC s.tmps z=BC st.tmps z)→Bp all x.guard s=Bp all x.guard st →
   (s.heap=st.heap∨∃ j a b es es',st.heap[j]? = some (.map a b es)∧s.heap=st.heap.set j (.map a b es')∧∀ key:a.den,(AK (α:=a.den) es' key).getD b.zero=(AK (α:=a.den) es key).getD b.zero)→B8 P E all x φx sx s (s.put x.dst vx):=by
  rcases hx with⟨g1,vx,ex,hqx,a3,rfl⟩|⟨g1,rfl⟩
  ·have he:=UH (by rw[hxo];rfl) _ _ _ _ _ a3
   subst he
   refine⟨vx,rfl,fun s hput hg hH=>.inl ⟨by rw[hg];exact g1,vx,{},?_,fun R k => ?_,rfl⟩⟩
   ·rcases hqx with h|⟨h1,h4⟩
    ·exact .inl h
    ·exact .inr ⟨AKw w1 (FA (fun z hz=>(hput z hz).symm) h1),h4⟩
   ·rw[← a3 R k,Bb x.op x.type _ _ sx k hput]
    rcases hH with hH|⟨j,a,b,es,es',h1,h2,h3⟩
    ·rw[hH,hxo];rfl
    ·rw[h2,hxo]
     exact Z9 h1 h3 _ _ _ _ _ _ _ _ _ _
  ·exact⟨BB,rfl,fun s _ hg _=>.inr ⟨by rw[hg];exact g1,rfl⟩⟩
 obtain⟨vx,rfl,hxs⟩:=xs
 have hput:∀ z∈y.op.operands,BC (st.put x.dst vx).tmps z=BC st.tmps z:=fun z hz=>Bj hap st vx z hz
 rcases hy with⟨g2,vy,ey,hqy,b3,rfl⟩|⟨g2,rfl⟩
 ·have b3':∀ (R:Type) (k:AV→Eff→Option R),evalOp P E R y.op y.type (BC st.tmps) st.heap st.frz sy k=k vy ey:=fun R k=>by
   have:=b3 R k
   rw[(hh vx).1,(hh vx).2,Bb y.op y.type _ _ sy k hput]at this
   exact this
  refine⟨(st.app ey).put y.dst vy,.inl ⟨by rw[← gx vx st];exact g2,vy,ey,?_,b3',rfl⟩,?_⟩
  ·rcases hqy with h|⟨h1,h4⟩
   ·exact .inl h
   ·exact .inr ⟨AKw w2 (FA hput h1),h4⟩
  ·rw[hyo]at b3'
   obtain⟨j,a,b,es,key,ho,rfl⟩:=Z1 b3'
   have:=hxs ((st.app { objs:=[(j,.map a b (Ab (α:=a.den) es key ((AK (α:=a.den) es key).getD b.zero)))] }).put y.dst vy) (fun z hz=>Bj hap' (st.app _) vy z hz) (gy vy _ _ st)
    (.inr ⟨j,a,b,es,_,ho,by cases y.dst<;>rfl,fun k=>AMS (α:=a.den) es key k b.zero⟩)
   rw[St.ID,St.put_comm _ vx vy hdd]
   exact this
 ·refine⟨st.put y.dst BB,.inr ⟨by rw[← gx vx st];exact g2,rfl⟩,?_⟩
  have:=hxs (st.put y.dst BB) (fun z hz=>Bj hap' st BB z hz) (gy BB st.heap st.frz st) (.inl (by cases y.dst<;>rfl))
  rw[St.put_comm _ vx BB hdd]
  exact this
theorem ALL(hL:G1 E){all:List Oper}{x y:Oper}{φx φy:List Nat}{sx sy:Nat}(hin:indep all x y φx φy sx sy=true)(hsl:sx+slotsOf x.op≤sy)
  {st s1 s2:St} (hx:B8 P E all x φx sx st s1) (hy:B8 P E all y φy sy s1 s2):∃ s1',B8 P E all y φy sy st s1'∧B8 P E all x φx sx s1' s2:=by
 obtain⟨hap,h⟩:=AEX hin
 rcases h with⟨w1,w2,hm⟩|⟨h1,h2⟩|⟨h1,h2⟩|⟨n1,n2,i1,i2,i3,i4⟩
 ·exact AGB hap w1 w2 hm hx hy
 ·exact AGD hap h1 h2 hx hy
 ·exact AGC hap h1 h2 hx hy
 ·exact AGE hL hap n1 n2 i1 i2 i3 i4 hsl hx hy
end
end Go.Pev
end
section
namespace Go.Pev
open Go.RowKit
section
variable {P:Program} {E:Env}
theorem AD5{all:List Oper}{y:Oper}{φy:List Nat}{sy:Nat}:∀ {l:List (Nat×Oper×List Nat×Nat)},Qw all y φy sy l=true→∀ q∈l,reach all 8 y q.1=true∨indep all q.2.1 y q.2.2.1 φy q.2.2.2 sy=true:=by
 intro l
 induction l with
 |nil=>intro _ q hq;cases hq
 |cons p l ih=>
  intro h q hq
  obtain⟨i,x,φx,sx⟩:=p
  simp only[Qw,AUR,AVj]at h
  rcases AUT.1 hq with rfl|hq
  ·rcases h.1 with h1|h1|h1
   ·exact .inl (by simp only[reach,h1,Bool.true_or])
   ·exact .inr h1
   ·exact .inl h1
  ·exact ih h.2 q hq
theorem Zo{all:List Oper}{fp:List (List Nat)}{base:Nat}:∀ (rest pre:List Oper) (fp':List (List Nat)) (slot:Nat) (acc:List (Nat×Oper×List Nat×Nat)),all=pre++rest→fp'=fp.drop pre.length→slot=Bl all base pre.length →
  (∀ j x,j<pre.length→all[j]? = some x→(j,x,fp.getD j [],Bl all base j)∈acc)→Zp all rest fp' pre.length slot acc=true →
  ∀ i y,pre.length≤i→all[i]? = some y→(∀ e∈y.after.toList,Region.binds .any e=true→e.on<i) ∧
   ∀ j x,j<i→all[j]? = some x→reach all 8 y j=true∨indep all x y (fp.getD j []) (fp.getD i []) (Bl all base j) (Bl all base i)=true:=by
 intro rest
 induction rest with
 |nil=>
  intro pre fp' slot acc hall _ _ _ _ i y hi hy
  rw[hall,AVk,AU0 hi]at hy;cases hy
 |cons o rest ih=>
  intro pre fp' slot acc hall hfp hsl hacc h i y hi hy
  simp only[Zp,AUR]at h
  obtain⟨⟨h1,h2⟩,h3⟩:=h
  have hlen:(pre++[o]).length=pre.length+1:=by simp
  have hfp1:fp'.headD []=fp.getD pre.length []:=by
   rw[hfp,AUS,List.headD_eq_head?_getD,List.head?_drop]
  have hfp2:fp'.tail=fp.drop (pre++[o]).length:=by rw[hfp,hlen,List.tail_drop]
  have hs2:slot+slotsOf o.op=Bl all base (pre++[o]).length:=by
   rw[hsl,hlen]
   unfold Bl
   have e1:all.take (pre.length+1)=pre++[o]:=by rw[hall,AVx,AVK (by omega)];simp
   have e2:all.take pre.length=pre:=by rw[hall];simp
   rw[e1,e2,Ht]
   simp[D0];omega
  have ho:all[pre.length]? = some o:=by rw[hall];simp
  rcases AVF pre.length i with hlt|hge
  ·refine ih (pre++[o]) _ _ _ (by rw[hall];simp) hfp2 hs2 (fun j x hj hx => ?_) (by rw[hlen];exact h3) i y (by rw[hlen];exact hlt) hy
   rw[hlen]at hj
   by_cases hjp:j=pre.length
   ·subst hjp
    rw[ho]at hx;cases hx
    rw[hfp1,hsl];simp
   ·exact AUk _ (hacc j x (by omega) hx)
  ·have hip:i=pre.length:=by omega
   subst hip
   rw[ho]at hy;cases hy
   refine⟨fun e he hb => ?_,fun j x hj hx => ?_⟩
   ·rw[AUj]at h2
    have:=h2 e he
    rw[hb]at this
    simpa using this
   ·rw[hfp1,hsl]at h1
    exact AD5 h1 _ (hacc j x hj hx)
theorem ALP{all:List Oper}{base i j:Nat}{x:Oper}(hij:j<i)(hx:all[j]? = some x):Bl all base j+slotsOf x.op≤Bl all base i:=by
 unfold Bl
 have hjl:j<all.length:=by
  rcases AVF j all.length with h|h
  ·exact h
  ·rw[AU0 h]at hx;cases hx
 have e:all.take (j+1)=all.take j++[x]:=by
  rw[AVy hjl]
  rw[AUU hjl]at hx
  cases hx;rfl
 have e2:all.take i=all.take (j+1)++(all.drop (j+1)).take (i-(j+1)):=by
  rw[← List.take_add];congr 1;omega
 rw[e2,e,Ht,Ht]
 simp[D0];omega
theorem AFV(hL:G1 E){all:List Oper}{fp:Nat→List Nat}{base:Nat}{i:Nat}{y:Oper}(hy:all[i]? = some y):
  ∀ (l1 l2:List Nat) (st st':St),(∀ j∈l1,j<i∧∀ x,all[j]? = some x→indep all x y (fp j) (fp i) (Bl all base j) (Bl all base i)=true) →
   YB P E all fp (Bl all base) (l1++i::l2) st st'→YB P E all fp (Bl all base) (i::(l1++l2)) st st':=by
 intro l1
 induction l1 with
 |nil=>intro l2 st st' _ h;exact h
 |cons j l1 ih=>
  intro l2 st st' hj h
  obtain⟨x,s1,hx,h1,h2⟩:=h
  obtain⟨y',s2,hy',h3,h4⟩:=ih l2 s1 st' (fun k hk=>hj k (by simp[hk])) h2
  rw[hy]at hy';cases hy'
  obtain⟨hlt,hin⟩:=hj j (by simp)
  obtain⟨s1',h5,h6⟩:=ALL hL (hin x hx) (ALP hlt hx) h1 h3
  exact⟨y,s1',hy,h5,x,s2,hx,h6,h4⟩
def A1(n:Nat)(listed:Array Bool):List Nat:=(List.range n).filter fun i => !listed.getD i true
theorem YI{n:Nat}{listed:Array Bool}{i:Nat}(hs:listed.size=n)(l1 l2:List Nat)(h:A1 n listed=l1++i::l2):A1 n (listed.setIfInBounds i true)=l1++l2:=by
 have hnd:(A1 n listed).Nodup:=AWf _ AW1
 have hmem:i∈A1 n listed:=by rw[h];simp
 have hin:i<n:=by
  unfold A1 at hmem
  simpa using (AVM.1 hmem).1
 have e:A1 n (listed.setIfInBounds i true)=(A1 n listed).filter fun j=>decide (j≠i):=by
  unfold A1
  rw[List.filter_filter]
  apply AWw
  intro j hj
  have hjn:j<n:=by simpa using hj
  by_cases hji:j=i
  ·subst hji
   simp[AUz,hs,hjn]
  ·simp[AUz,Array.getElem?_setIfInBounds_ne (AU1 hji),hji]
 rw[e,h]
 rw[h]at hnd
 rw[AWE]at hnd
 obtain⟨_,hn2,hd⟩:=hnd
 rw[AWp,AVf]
 simp only[ne_eq,AVX,AUg,AUc,AUa]
 rw[List.filter_eq_self.2,List.filter_eq_self.2]
 ·intro j hj
  have:j≠i:=by rintro rfl;exact(AUu.1 hn2).1 hj
  simp[this]
 ·intro j hj
  have:j≠i:=hd j hj i (by simp)
  simp[this]
theorem QM{n:Nat}{listed:Array Bool}{i:Nat}{l1 l2:List Nat}(h:A1 n listed=l1++i::l2):∀ j∈l1,j<i:=by
 have hp:(A1 n listed).Pairwise (· < ·):=AWf _ List.pairwise_lt_range
 rw[h,AWg]at hp
 intro j hj
 exact hp.2.2 j hj i (by simp)
def AJh(ops:List Oper)(listed:Nat→Bool):Prop:=∀ k z,ops[k]? = some z→listed k=true→∀ e∈z.after.toList,Region.binds .any e=true→listed e.on=true
theorem ZF{ops:List Oper}{listed:Nat→Bool}(hc:AJh ops listed):∀ (n:Nat) (y:Oper) (j:Nat),(∀ e∈y.after.toList,Region.binds .any e=true→listed e.on=true)→reach ops n y j=true→listed j=true:=by
 intro n
 induction n with
 |zero=>intro y j _ h;cases h
 |succ n ih=>
  intro y j hy h
  simp only[reach,AVj]at h
  rcases h with h|h
  ·unfold AAk at h
   rw[AWL]at h
   obtain⟨e,he,hbe⟩:=h
   simp only[AUR,AUP]at hbe
   have:=hy e he hbe.1
   rwa [hbe.2]at this
  ·rw[AWL]at h
   obtain⟨e,he,hbe⟩:=h
   simp only[AUR]at hbe
   obtain⟨h1,h2⟩:=hbe
   split at h2
   ·rename_i z hz
    exact ih z j (hc e.on z hz (hy e he h1)) h2
   ·cases h2
theorem ANZ(hE:∀ g,AP P g (E.spec g))(hL:G1 E){ops:Array Oper}{fp:Nat→List Nat}{base:Nat}{Q:Exit→Act→World→Prop}{st':St}
  (hok:∀ i y,ops.toList[i]? = some y→(∀ e∈y.after.toList,Region.binds .any e=true→e.on<i) ∧
   ∀ j x,j<i→ops.toList[j]? = some x→reach ops.toList 8 y j=true∨indep ops.toList x y (fp j) (fp i) (Bl ops.toList base j) (Bl ops.toList base i)=true) :
  ∀ (fuel:Nat) (listed:Array Bool) (st:St) (w:World) (F:Nat→Prop) (m:Mp) (a:Act),listed.size=ops.size→AJh ops.toList (fun i=>listed.getD i false)→(A1 ops.size listed).length≤fuel→SI w F m st a →
   YB P E ops.toList fp (Bl ops.toList base) (A1 ops.size listed) st st' →
   (∀ a' w' F' m',SI w' F' m' st' a'→Ext w F m st.heap st.frz w' F' m' st'.heap st'.frz→Q .normal a' w')→wpAny P .any ops Q fuel listed a w:=by
 intro fuel
 have hdone:∀ (listed:Array Bool) (st:St) (w:World) (F:Nat→Prop) (m:Mp) (a:Act),A1 ops.size listed=[]→SI w F m st a→YB P E ops.toList fp (Bl ops.toList base) (A1 ops.size listed) st st' →
   (∀ a' w' F' m',SI w' F' m' st' a'→Ext w F m st.heap st.frz w' F' m' st'.heap st'.frz→Q .normal a' w')→Q .normal a w:=by
  intro listed st w F m a h0 hs hc hq
  rw[h0]at hc
  have hc:st=st':=hc
  subst hc
  exact hq a w F m hs (Ext.refl ..)
 have hready:∀ (listed:Array Bool) (i:Nat),i∈Region.ready .any ops listed↔i∈A1 ops.size listed∧((ops[i]?).map (·.after.all fun e => !Region.binds .any e||listed.getD e.on false)).getD false=true:=by
  intro listed i
  unfold Region.ready A1
  simp only[AVM,AUR,AVz]
  exact⟨fun ⟨h1,h2,h3⟩=>⟨⟨h1,h2⟩,h3⟩,fun ⟨⟨h1,h2⟩,h3⟩=>⟨h1,h2,h3⟩⟩
 induction fuel with
 |zero=>
  intro listed st w F m a hsz hcl hl hs hc hq
  have h0:A1 ops.size listed=[]:=AUr (by omega)
  refine⟨List.eq_nil_iff_forall_not_mem.2 fun i hi => ?_,hdone listed st w F m a h0 hs hc hq⟩
  have:=((hready listed i).1 hi).1
  rw[h0]at this;cases this
 |succ fuel ih=>
  intro listed st w F m a hsz hcl hl hs hc hq
  refine⟨fun hnil => ?_,fun i hi => ?_⟩
  ·refine hdone listed st w F m a ?_ hs hc hq
   cases hu:A1 ops.size listed with
   |nil=>rfl
   |cons i l=>
    exfalso
    have hmem:i∈A1 ops.size listed:=by rw[hu];simp
    have hin:i<ops.size:=by unfold A1 at hmem;simpa using (AVM.1 hmem).1
    have:i∈Region.ready .any ops listed:=by
     refine(hready listed i).2 ⟨hmem,?_⟩
     rw[AVH hin]
     simp only[AWS,AU5]
     rw[← Array.all_toList,AUj]
     intro e he
     cases hb:Region.binds .any e with
     |false=>rfl
     |true=>
      have hlt:=(hok i ops[i] (by simp[hin])).1 e he hb
      simp only[AUh,Bool.false_or]
      cases hg:listed.getD e.on false with
      |true=>rfl
      |false=>
       exfalso
       have hon:e.on<ops.size:=by omega
       have:e.on∈A1 ops.size listed:=by
        unfold A1
        rw[AVM]
        refine⟨by simpa using hon,?_⟩
        have hlt':e.on<listed.size:=by omega
        rw[AUz,AVH hlt']at hg ⊢
        simpa using hg
       rw[hu]at this
       have hp:(A1 ops.size listed).Pairwise (· < ·):=AWf _ List.pairwise_lt_range
       rw[hu,AU6]at hp
       rcases AUT.1 this with h|h
       ·omega
       ·have:=hp.1 _ h;omega
    rw[hnil]at this;cases this
  ·obtain⟨hmem,hrd⟩:=(hready listed i).1 hi
   have hin:i<ops.size:=by unfold A1 at hmem;simpa using (AVM.1 hmem).1
   obtain⟨l1,l2,hsplit⟩:=AWr hmem
   have hgi:ops[i]? = some ops[i]:=AVH hin
   have hgl:ops.toList[i]? = some ops[i]:=by simp[hin]
   rw[hgi]at hrd
   simp only[AWS,AU5]at hrd
   rw[← Array.all_toList,AUj]at hrd
   rw[hsplit]at hc
   obtain⟨y,s1,hy,h1,h2⟩:=AFV hL hgl l1 l2 st st' (fun j hj=>by
    have hji:=QM hsplit j hj
    refine⟨hji,fun x hx => ?_⟩
    rcases(hok i _ hgl).2 j x hji hx with h|h
    ·exfalso
     have hall:∀ e∈(ops[i]).after.toList,Region.binds .any e=true→(fun i=>listed.getD i false) e.on=true:=by
      intro e he hb
      have:=hrd e he
      rw[hb]at this
      simpa using this
     have this:=ZF hcl 8 _ j hall h
     have hju:j∈A1 ops.size listed:=by rw[hsplit];simp[hj]
     unfold A1 at hju
     have h3:=(AVM.1 hju).2
     have hjl:j<listed.size:=by omega
     rw[AUz,AVH hjl]at this h3
     simp only[AU5]at this h3
     rw[this]at h3;cases h3
    ·exact h) hc
   rw[hgl]at hy;cases hy
   have hnext:=YI hsz l1 l2 hsplit
   have hlen:(A1 ops.size (listed.setIfInBounds i true)).length≤fuel:=by
    rw[hnext]
    rw[hsplit]at hl
    simp only[AUb,AUY]at hl ⊢
    omega
   have hcl2:AJh ops.toList (fun k=>(listed.setIfInBounds i true).getD k false):=by
    have hset:∀ k,(listed.setIfInBounds i true).getD k false=true↔(k=i∨listed.getD k false=true):=by
     intro k
     have hil:i<listed.size:=by omega
     rw[AUz,AUz,Array.getElem?_setIfInBounds]
     by_cases hki:i=k
     ·subst hki;simp[hil]
     ·simp[hki,AU1 hki]
    intro k z hz hk e he hb
    simp only[hset]at hk ⊢
    right
    rcases hk with rfl|hk
    ·rw[hgl]at hz;cases hz
     have:=hrd e he
     rw[hb]at this
     simpa using this
    ·exact hcl k z hz hk e he hb
   unfold wpOp
   rw[hgi]
   simp only
   rcases h1 with⟨hg,v,e,_,b3,rfl⟩|⟨hg,rfl⟩
   ·have hw:Region.wanted ops[i] (yielded ops a.tmps)=true:=by
     unfold Bp at hg
     unfold Region.wanted
     cases hgd:ops[i].guard with
     |none=>rfl
     |some p=>
      obtain⟨j,want⟩:=p
      rw[hgd]at hg
      dsimp only at hg ⊢
      cases hj:(ops.toList[j]?).bind (·.dst)with
      |none=>rw[hj]at hg;cases hg
      |some d=>
       rw[hj]at hg
       dsimp only at hg
       split at hg
       ·rename_i b hd
        rw[KT hs hj hd]
        simpa using hg
       ·simp at hg
       ·cases hg
    rw[AUf hw]
    left
    obtain⟨v',e',c1,_,c3⟩:=HW hE ops[i].op (AV×Eff) ops[i].type (BC st.tmps) st.heap st.frz (Bl ops.toList base i) (fun v e=>some (v,e)) (v,e) (b3 _ _)
    simp only[AUM,AUp]at c1
    obtain⟨rfl,rfl⟩:=c1
    refine c3 w F m a ops[i] _ Q rfl rfl hs.heap (fun x=>T1 hs.tmps x) fun u w' F' m' hgo hr => ?_
    have hs2:=(hs.go hgo).put hr ops[i].dst
    refine ih _ _ w' F' m' _ (by simp[hsz]) hcl2 hlen hs2 (by rw[hnext];exact h2) fun a' w2 F2 m2 q1 q2=>hq a' w2 F2 m2 q1 ?_
    have hh:((st.app e').put ops[i].dst v').heap=DQ e' st.heap∧((st.app e').put ops[i].dst v').frz=IE e' st.frz:=by cases ops[i].dst<;>exact⟨rfl,rfl⟩
    rw[hh.1,hh.2]at q2
    exact hgo.1.trans q2
   ·have hw:Region.wanted ops[i] (yielded ops a.tmps)=false:=by
     unfold Bp at hg
     unfold Region.wanted
     cases hgd:ops[i].guard with
     |none=>rw[hgd]at hg;cases hg
     |some p=>
      obtain⟨j,want⟩:=p
      rw[hgd]at hg
      dsimp only at hg ⊢
      cases hj:(ops.toList[j]?).bind (·.dst)with
      |none=>rw[hj]at hg;cases hg
      |some d=>
       rw[hj]at hg
       dsimp only at hg
       split at hg
       ·rename_i b hd
        rw[KT hs hj hd]
        simpa using hg
       ·rename_i hd
        rw[LQ hs hj hd]
        rfl
       ·cases hg
    rw[AUZ (by simp[hw])]
    have hs2:SI w F m (st.put ops[i].dst BB) (a.put ops[i].dst undef):=hs.put ACN ops[i].dst
    refine ih _ _ w F m _ (by simp[hsz]) hcl2 hlen hs2 (by rw[hnext];exact h2) fun a' w2 F2 m2 q1 q2=>hq a' w2 F2 m2 q1 ?_
    have hh:(st.put ops[i].dst BB).heap=st.heap∧(st.put ops[i].dst BB).frz=st.frz:=by cases ops[i].dst<;>exact⟨rfl,rfl⟩
    rw[hh.1,hh.2]at q2
    exact q2
theorem SI.drew{w:World}{F:Nat→Prop}{m:Mp}{st:St}{a:Act}(h:SI w F m st a):SI w.drew F m st a∧Ext w F m st.heap st.frz w.drew F m st.heap st.frz:=by
 have hg:=At.drew h.heap
 exact⟨⟨fun t=>hg.1.rep h.heap (h.tmps t),h.size,hg.2,h.defers⟩,hg.1⟩
theorem Vw(hE:∀ g,AP P g (E.spec g))(hL:G1 E){R:Type}{r:R}{id:Nat}{fp:List (List Nat)}{ops:Array Oper}{Q:Exit→Act→World→Prop}{k:St→Option R}{st:St}{w:World}{F:Nat→Prop}{m:Mp}{a:Act}
  (h:DZ P E R fp ops.toList st k=some r) (hs:SI w F m st a) (hq:∀ a' w',ATy r k w F m st.heap st.frz a' w'→Q .normal a' w'):(Code.region id ops true).wp P Q a w:=by
 unfold DZ at h
 split at h
 ·rename_i hok
  simp only[AUR]at hok
  obtain⟨hm,hok⟩:=hok
  obtain⟨hs1,he1⟩:=hs.drew
  obtain⟨hs2,he2⟩:=hs1.pad (D0 ops.toList)
  have hnn:ops.toList=[]++ops.toList:=by simp
  obtain⟨st',hc,hk⟩:=Vx hE (all:=ops.toList) (fp:=fp) (base:=st.heap.length) ops.toList [] fp st.heap.length _ hnn rfl (by simp[Bl,D0]) h
  refine wp_region_any hm ?_
  have hu:A1 ops.size (Array.replicate ops.size false)=List.range' 0 ops.toList.length:=by
   unfold A1
   rw[AUi,← List.range_eq_range']
   rw[List.filter_eq_self]
   intro i hi
   have:i<ops.size:=by simpa using hi
   simp[AUz,this]
  refine ANZ (ops:=ops) hE hL (fp:=fun i=>fp.getD i []) (base:=st.heap.length) (st':=st') (fun i y hy=>Zo (all:=ops.toList) ops.toList [] fp _ [] hnn rfl (by simp[Bl,D0]) (fun j x hj=>by simp at hj) hok i y (AWT _) hy)
   ops.size _ _ w.drew F m a (by simp) (fun k z _ hk=>by
    exfalso
    have hk:(Array.replicate ops.size false).getD k false=true:=hk
    rw[AUz,Array.getElem?_replicate]at hk
    split at hk<;>cases hk) (by rw[hu];simp) hs2 (by rw[hu];exact hc) fun a' w' F' m' q1 q2=>hq a' w' ⟨st',F',m',hk,q1,he1.trans (he2.trans q2)⟩
 ·cases h
end
end Go.Pev
end
section
namespace Go.Pev
open Go.RowKit
def BH(w:World)(F:Nat→Prop)(m:Mp)(H:List Ob)(fz:List Bool)(m':Mp)(H':List Ob)(j:Nat):Bnd→Prop
 |.none=>m' j=none∧((∃ T e,H'[j]? = some (.arr T e [])∧0<e.size)∨∃ T t,H'[j]? = some (.prs T t []))
 |.whole id=>m' j=m id∧((∃ T t xs,H[id]? = some (.arr T t xs)∧H'[j]? = some (.arr T t xs)∧fz.getD id false=false) ∨
   (∃ k v es,H[id]? = some (.map k v es)∧H'[j]? = some (.map k v es)) ∨
   (∃ cs cs' b c vs T,H[id]? = some (.box cs)∧H'[j]? = some (.box cs')∧cs'.length=cs.length∧m id=some (b,c)∧w.heap[b]? = some (.cells vs T (0,0))∧AW w F m' H' cs' vs.toList∧∀ u∈vs.toList,u.oneCell'=true) ∨
   (∃ T tgt j0 is,H[id]? = some (.prs T tgt is)∧H'[j]? = some (.prs T j0 is)∧ObI w F m' H' (.prs T j0 is) (m id)))
 |.cut id=>∃ T t xs n,H[id]? = some (.arr T t xs)∧fz.getD id false=false∧H'[j]? = some (.arr T t (List.take (α:=t.den) n xs))∧(m' j=m id∨(m' j=none∧List.take (α:=t.den) n xs=[]))
structure Inv(w:World)(F:Nat→Prop)(m:Mp)(H:List Ob)(fz:List Bool)(bs:List Bnd)(m':Mp)(E:St)(val:Nat→Value):Prop where
 tmps:∀ t,Rep w F m' E.heap (E.tmps.getD t .junk) (val t)
 lenH:E.heap.length=bs.length
 lenF:E.frz.length=E.heap.length
 frz:∀ i,E.frz.getD i false=false
 ob:∀ j b,bs[j]? = some b→BH w F m H fz m' E.heap j b
 inj:∀ (i j:Nat) (b c:Bnd) (id:Nat),bs[i]? = some b→bs[j]? = some c→b.id? = some id→c.id? = some id→i=j
def AJW(w:World)(m:Mp)(H:List Ob)(bs:List Bnd)(val:Nat→Value):Loc→Value→Prop
 |.tmp t,u=>u=val t
 |.cell j c,u=>∃ id b cc vs T cs,bs[j]? = some (.whole id)∧H[id]? = some (.box cs)∧m id=some (b,cc)∧w.heap[b]? = some (.cells vs T (0,0))∧vs.toList[c]? = some u
 |_,_=>True
theorem ARF{w:World}{F:Nat→Prop}{m:Mp}{H:List Ob}{cs:List AV}{us:List Value}{c:Nat}{v:AV}{u:Value}(h:AW w F m H cs us)(hu:us[c]? = some u)(hv:Rep w F m H v u):AW w F m H (cs.set c v) us:=by
 refine Cl (by simp[Am h]) fun i x y hx hy => ?_
 by_cases hic:i=c
 ·subst hic
  rw[hu]at hy;cases hy
  have hl:i<cs.length:=by
   rw[← Am h]
   rcases AVF i us.length with h'|h'
   ·exact h'
   ·rw[AU0 h']at hu;cases hu
  rw[AWU hl]at hx
  cases hx;exact hv
 ·rw[AU7 (AU1 hic)]at hx
  obtain⟨y',hy',hr⟩:=Bx h hx
  rw[hy]at hy';cases hy';exact hr
theorem AOF{w:World}{F:Nat→Prop}{m:Mp}{H:List Ob}{tm:List AV}{val:Nat→Value}(h:∀ t,Rep w F m H (tm.getD t .junk) (val t)){t:Nat}{v:AV}(hv:Rep w F m H v (val t)):∀ i,Rep w F m H ((tm.set t v).getD i .junk) (val i):=by
 intro i
 by_cases hit:i=t
 ·subst hit
  by_cases hl:i<tm.length
  ·simp[hl,hv]
  ·rw[List.set_eq_of_length_le (by omega)];exact h i
 ·have:=h i
  rw[AUS]at this ⊢
  rw[AU7 (AU1 hit)]
  exact this
theorem ACp{w:World}{F F2:Nat→Prop}{m m2:Mp}{H H2:List Ob}{T:TypeId}{j:Nat}{is:List Int}{l:Option (Nat×Nat)}(h3:∀ {cs us},AW w F m H cs us→AW w F2 m2 H2 cs us)(h:ObI w F m H (.prs T j is) l):ObI w F2 m2 H2 (.prs T j is) l:=by
 cases l with
 |none=>exact h
 |some p=>
  obtain⟨b,cap⟩:=p
  obtain⟨vs,us,e1,e2,e3,e4,e5,e6⟩:=h
  exact⟨vs,us,e1,e2,e3,e4,h3 e5,e6⟩
section
variable {w:World} {F:Nat→Prop} {m:Mp} {H:List Ob} {fz:List Bool} {bs:List Bnd} {m':Mp} {E:St} {val:Nat→Value}
theorem BH.mono{b:Bnd}{m'':Mp}{H' H'':List Ob}{j:Nat}(h:BH w F m H fz m' H' j b)(h1:H''[j]? = H'[j]?)(h2:m'' j=m' j)(h3:∀ {cs us},AW w F m' H' cs us→AW w F m'' H'' cs us):BH w F m H fz m'' H'' j b:=by
 cases b with
 |none=>simp only[BH]at *;rw[h1,h2];exact h
 |whole id=>
  simp only[BH]at *
  rw[h1,h2]
  obtain⟨e,h⟩:=h
  refine⟨e,?_⟩
  rcases h with h|h|⟨cs,cs',b,c,vs,T,a1,a2,a3,a4,a5,a6,a7⟩|⟨T,tgt,j0,is,a1,a2,a3⟩
  ·exact .inl h
  ·exact .inr (.inl h)
  ·exact .inr (.inr (.inl ⟨cs,cs',b,c,vs,T,a1,a2,a3,a4,a5,h3 a6,a7⟩))
  ·exact .inr (.inr (.inr ⟨T,tgt,j0,is,a1,a2,ACp h3 a3⟩))
 |cut id=>simp only[BH]at *;rw[h1,h2];exact h
theorem Inv.place(h:Inv w F m H fz bs m' E val){l:Loc}{u:Value}{v:AV}(hl:AJW w m H bs val l u)(hv:Rep w F m' E.heap v u):Inv w F m H fz bs m' (Pev.place E v l) val:=by
 cases l with
 |tmp t=>
  have hl:u=val t:=hl
  subst hl
  exact⟨AOF h.tmps hv,h.lenH,h.lenF,h.frz,h.ob,h.inj⟩
 |cap t i=>exact h
 |obj j=>exact h
 |cell j c=>
  obtain⟨id,b,cc,vs,T,cs,hj,hb,hm,hw,hu⟩:=hl
  have hbd:=h.ob j _ hj
  simp only[BH]at hbd
  obtain⟨hm',hbd⟩:=hbd
  rw[hb]at hbd
  rcases hbd with⟨_,_,_,hx,_⟩|⟨_,_,_,hx,_⟩|⟨cs0,cs',b0,c0,vs0,T0,hx,h1,h2,h3,h4,h5,h6⟩|⟨_,_,_,_,hx,_⟩
  ·cases hx
  ·cases hx
  rotate_left
  ·cases hx
  ·cases hx
   rw[hm]at h3;cases h3
   rw[hw]at h4;cases h4
   have hlt:=Ap h1
   have hcomp:Cc E.heap (E.heap.set j (.box (cs'.set c v))) m' m':=by
    intro i o hi hf
    by_cases hij:i=j
    ·subst hij
     rw[h1]at hi;cases hi
     exact .inr ⟨by simp,_,BK hlt,trivial,rfl⟩
    ·rcases Cc.refl E.heap m' i o hi hf with h|⟨hd,o',h4,h5,_⟩
     ·exact .inl (by rw[Aw hij];exact h)
     ·exact .inr ⟨hd,o',by rw[Aw hij];exact h4,h5,rfl⟩
   have mono:∀ {a u},Rep w F m' E.heap a u→Rep w F m' (E.heap.set j (.box (cs'.set c v))) a u:=fun h=>Rep.mono (fun _ _=>rfl) (fun _ h=>h) hcomp _ h
   have monoL:∀ {a u},AW w F m' E.heap a u→AW w F m' (E.heap.set j (.box (cs'.set c v))) a u:=fun h=>AW.mono (fun _ _=>rfl) (fun _ h=>h) hcomp _ h
   unfold Pev.place
   simp only[h1]
   refine⟨fun t=>mono (h.tmps t),by simp[h.lenH],by simp[h.lenF],h.frz,fun i x hi => ?_,h.inj⟩
   by_cases hij:i=j
   ·subst hij
    rw[hj]at hi;cases hi
    simp only[BH]
    exact⟨hm',.inr (.inr (.inl ⟨cs,_,b,cc,vs,T,hb,BK hlt,by simp[h2],hm,hw,monoL (ARF h5 hu hv),h6⟩))⟩
   ·exact(h.ob i x hi).mono (Aw hij) rfl monoL
theorem Q6{α:Type}{l:List α}{x y:α}{j:Nat}(h:(l++[x])[j]? = some y):(j<l.length∧l[j]? = some y)∨(j=l.length∧y=x):=by
 rcases AV8 j l.length with hj|hj|hj
 ·rw[AUw hj]at h;exact .inl ⟨hj,h⟩
 ·subst hj;simp at h;exact .inr ⟨rfl,h.symm⟩
 ·rw[AU0 (by simp;omega)]at h;cases h
theorem Inv.add(h:Inv w F m H fz bs m' E val){b:Bnd}{o:Ob}{l:Option (Nat×Nat)}(hid:∀ (i:Nat) (c:Bnd) (id:Nat),bs[i]? = some c→c.id? = some id→b.id?≠some id)
  (hbd:BH w F m H fz (upd m' E.heap.length l) (E.heap++[o]) E.heap.length b):Inv w F m H fz (bs++[b]) (upd m' E.heap.length l) (Hc E o) val:=by
 have hcomp:Cc E.heap (E.heap++[o]) m' (upd m' E.heap.length l):=by
  intro i x hi hf
  have hlt:=Ap hi
  rcases Cc.refl E.heap m' i x hi hf with h|⟨hd,o',h4,h5,_⟩
  ·exact .inl (by rw[AUw hlt];exact h)
  ·exact .inr ⟨hd,o',by rw[AUw hlt];exact h4,h5,BI (by omega)⟩
 have monoL:∀ {a u},AW w F m' E.heap a u→AW w F (upd m' E.heap.length l) (E.heap++[o]) a u:=fun h=>AW.mono (fun _ _=>rfl) (fun _ h=>h) hcomp _ h
 refine⟨fun t=>Rep.mono (fun _ _=>rfl) (fun _ h=>h) hcomp _ (h.tmps t),by simp[Hc,h.lenH],by simp[Hc,h.lenF],fun i => ?_,fun j x hj => ?_,fun i j x y id hi hj hx hy => ?_⟩
 ·have:=h.frz i
  simp only[Hc]
  rw[AUS]at this ⊢
  rcases AVF i E.frz.length with hl|hl
  ·rw[AUw hl];exact this
  ·rw[AU2 hl]
   cases hk:i-E.frz.length with
   |zero=>simp
   |succ k=>simp
 ·rcases Q6 hj with⟨hlt,hj1⟩|⟨hj1,rfl⟩
  ·rw[← h.lenH]at hlt
   exact(h.ob j x hj1).mono (AUw hlt) (BI (by omega)) monoL
  ·rw[← h.lenH]at hj1
   rw[hj1]
   exact hbd
 ·rcases Q6 hi with⟨hlt,hi1⟩|⟨hi1,rfl⟩
  ·rcases Q6 hj with⟨hlt',hj1⟩|⟨hj1,rfl⟩
   ·exact h.inj i j x y id hi1 hj1 hx hy
   ·exact absurd hy (hid i x id hi1 hx)
  ·rcases Q6 hj with⟨hlt',hj1⟩|⟨hj1,rfl⟩
   ·exact absurd hx (hid j y id hj1 hy)
   ·omega
theorem HU{id:Nat}(h:fresh? bs id=true):∀ (i:Nat) (c:Bnd),bs[i]? = some c→c.id?≠some id:=by
 intro i c hi he
 unfold fresh? at h
 rw[AUj]at h
 have:=h c (AUe hi)
 cases c with
 |none=>simp[Bnd.id?]at he
 |whole k=>simp only[Bnd.id?,AUM]at he;subst he;simp at this
 |cut k=>simp only[Bnd.id?,AUM]at he;subst he;simp at this
theorem Inv.freeze(h:Inv w F m H fz bs m' E val){f:List Nat}(hf:f.all (fresh? bs)=true):Inv w (DK F m H f) m H (Ag f fz) bs m' E val:=by
 have monoL:∀ {a u},AW w F m' E.heap a u→AW w (DK F m H f) m' E.heap a u:=fun h=>AW.mono (fun _ _=>rfl) (fun _ h=>.inl h) (Cc.refl _ _) _ h
 have hfz:∀ (id i:Nat) (c:Bnd),bs[i]? = some c→c.id? = some id→fz.getD id false=false→(Ag f fz).getD id false=false:=by
  intro id i c hi hc h0
  rw[Ax,h0]
  have:id∉f:=fun hid=>by
   rw[AUj]at hf
   exact HU (hf id hid) i c hi hc
  simp[this]
 refine⟨fun t=>Rep.mono (fun _ _=>rfl) (fun _ h=>.inl h) (Cc.refl _ _) _ (h.tmps t),h.lenH,h.lenF,h.frz,fun j b hj => ?_,h.inj⟩
 have:=h.ob j b hj
 cases b with
 |none=>exact this
 |whole id=>
  simp only[BH]at *
  obtain⟨e,this⟩:=this
  refine⟨e,?_⟩
  rcases this with⟨T,t,xs,a1,a2,a3⟩|h1|⟨cs,cs',b,c,vs,T,a1,a2,a3,a4,a5,a6,a7⟩|⟨T,tgt,j0,is,a1,a2,a3⟩
  ·exact .inl ⟨T,t,xs,a1,a2,hfz id j _ hj rfl a3⟩
  ·exact .inr (.inl h1)
  ·exact .inr (.inr (.inl ⟨cs,cs',b,c,vs,T,a1,a2,a3,a4,a5,monoL a6,a7⟩))
  ·exact .inr (.inr (.inr ⟨T,tgt,j0,is,a1,a2,ACp monoL a3⟩))
 |cut id=>
  simp only[BH]at *
  obtain⟨T,t,xs,n,a1,a2,a3⟩:=this
  exact⟨T,t,xs,n,a1,hfz id j _ hj rfl a2,a3⟩
theorem AOz{j id off:Nat}{u:Value}(hb:BH w F m H fz m' E.heap j (.whole id))(hu:Rep w F m H (.ptr id off) u):Rep w F m' E.heap (.ptr j off) u:=by
 simp only[BH]at hb
 obtain⟨e,hb⟩:=hb
 unfold Rep at *
 unfold FQ at *
 rcases hb with⟨T,t,xs,a1,_⟩|⟨k,v,es,a1,_⟩|⟨cs,cs',b,c,vs,T,a1,a2,_,a4,_⟩|⟨_,_,_,_,a1,_⟩
 ·rw[a1]at hu;exact hu.elim
 ·rw[a1]at hu;exact hu.elim
 ·rw[a1]at hu
  rw[a2,e]
  exact hu
 ·rw[a1]at hu;exact hu.elim
theorem ASm{j id i sub:Nat}{u:Value}(hb:BH w F m H fz m' E.heap j (.whole id))(hu:Rep w F m H (.eptr id i sub) u):Rep w F m' E.heap (.eptr j i sub) u:=by
 simp only[BH]at hb
 obtain⟨e,hb⟩:=hb
 unfold Rep at *
 unfold DF at *
 rcases hb with⟨T,t,xs,a1,a2,_⟩|⟨k,v,es,a1,_⟩|⟨cs,cs',b,c,vs,T,a1,a2,_,a4,_⟩|⟨_,_,_,_,a1,a2,_⟩
 ·rw[a1]at hu
  rw[a2,e]
  exact hu
 ·rw[a1]at hu;exact hu.elim
 ·rw[a1]at hu;exact hu.elim
 ·rw[a1]at hu
  rw[a2,e]
  exact hu
theorem ARo{j id:Nat}{is:List Int}{us:List Value}(hb:BH w F m H fz m' E.heap j (.whole id))(hu:AW w F m H (EH id is) us):AW w F m' E.heap (EH j is) us:=by
 refine Cl (by have:=Am hu;simpa [EH]using this) fun i c v hc hv => ?_
 rw[EH,AVQ,AUd]at hc
 obtain⟨x,hx,rfl⟩:=hc
 obtain⟨v',hv',hr⟩:=Bx hu (i:=i) (c:=.eptr id x.toNat 0) (by rw[EH,AVQ,hx];rfl)
 rw[hv]at hv';cases hv'
 exact ASm hb hr
theorem AT7{j id:Nat}{u:Value}(hb:BH w F m H fz m' E.heap j (.whole id))(hu:Rep w F m H (.mp id) u):Rep w F m' E.heap (.mp j) u:=by
 simp only[BH]at hb
 obtain⟨e,hb⟩:=hb
 unfold Rep at *
 unfold KP at *
 rcases hb with⟨T,t,xs,a1,_⟩|⟨k,v,es,a1,a2⟩|⟨cs,cs',b,c,vs,T,a1,a2,_,a4,_⟩|⟨_,_,_,_,a1,_⟩
 ·rw[a1]at hu;exact hu.elim
 ·rw[a1]at hu
  rw[a2,e]
  exact hu
 ·rw[a1]at hu;exact hu.elim
 ·rw[a1]at hu;exact hu.elim
theorem APa{j id:Nat}{u:Value}(hb:BH w F m H fz m' E.heap j (.whole id))(hu:Rep w F m H (.own id) u):Rep w F m' E.heap (.own j) u:=by
 simp only[BH]at hb
 obtain⟨e,hb⟩:=hb
 unfold Rep at *
 unfold BU at *
 rcases hb with⟨T,t,xs,a1,a2,_⟩|⟨k,v,es,a1,a2⟩|⟨cs,cs',b,c,vs,T,a1,a2,_,a4,_⟩|⟨_,_,_,_,a1,a2,_⟩
 ·rw[a1]at hu
  rw[a2,e]
  exact hu
 ·rw[a1]at hu;exact hu.elim
 ·rw[a1]at hu;exact hu.elim
 ·rw[a1]at hu
  rw[a2,e]
  exact hu
theorem AFr{j id off n:Nat}{u:Value}(hb:BH w F m H fz m' E.heap j (.whole id))(hu:Rep w F m H (.win id off n) u):Rep w F m' E.heap (.win j off n) u:=by
 simp only[BH]at hb
 obtain⟨e,hb⟩:=hb
 unfold Rep at *
 unfold FP at *
 rcases hb with⟨T,t,xs,a1,a2,_⟩|⟨k,v,es,a1,a2⟩|⟨cs,cs',b,c,vs,T,a1,a2,_,a4,_⟩|⟨_,_,_,_,a1,_⟩
 ·rw[a1]at hu
  rw[a2,e]
  exact hu
 ·rw[a1]at hu;exact hu.elim
 ·rw[a1]at hu;exact hu.elim
 ·rw[a1]at hu;exact hu.elim
theorem AR0{id:Nat}{u:Value}{T:TypeId}{t:Ty}{ys:List t.den}(hi:HI w F m H fz)(ho:H[id]? = some (.arr T t ys))(hu:Rep w F m H (.own id) u):Rep w F m H (.win id 0 ys.length) u:=by
 unfold Rep at *
 unfold BU at hu
 unfold FP
 rw[ho]at hu ⊢
 simp only at hu ⊢
 refine⟨by omega,?_⟩
 cases hm:m id with
 |none=>
  rw[hm]at hu
  obtain⟨a,rfl⟩:=hu
  obtain⟨_,hob⟩:=hi.obj id _ ho
  rw[hm]at hob
  simp only at hob
  subst hob
  exact⟨a,rfl⟩
 |some p=>
  obtain⟨b,cap⟩:=p
  rw[hm]at hu
  simp only at hu
  subst hu
  exact⟨some ⟨b,0,none⟩,rfl,fun _=>by simp⟩
theorem Da{α:Type}{l:List α}{i:Nat}{o:α}(h:l[i]? = some o):i<l.length:=by
 rcases AVF i l.length with h'|h'
 ·exact h'
 ·rw[AU0 h']at h;cases h
theorem B4(hi:HI w F m H fz){tm:List AV}(ht:∀ t v,tm[t]? = some v→Rep w F m H v (val t)){l:Loc}{v:AV}(h:look tm H bs l=some v):∃ u,Rep w F m H v u∧AJW w m H bs val l u:=by
 cases l with
 |tmp t=>exact⟨val t,ht t v h,rfl⟩
 |cell j c=>
  simp only[look]at h
  split at h
  ·rename_i id hj
   split at h
   ·rename_i cs ho
    obtain⟨b,cc,vs,T,h1,h2,h3,h4⟩:=hi.obj id _ ho
    obtain⟨u,hu,hr⟩:=Bx h3 h
    exact⟨u,hr,id,b,cc,vs,T,cs,hj,ho,h1,h2,hu⟩
   ·cases h
  ·cases h
 |cap t i=>
  simp only[look]at h
  split at h
  ·rename_i f cs hc
   have:=ht t _ hc
   unfold Rep at this
   obtain⟨us,_,hr⟩:=this
   obtain⟨u,_,hu⟩:=Bx hr h
   exact⟨u,hu,trivial⟩
  ·rename_i f cs hc
   have:=ht t _ hc
   unfold Rep at this
   obtain⟨us,_,hr⟩:=this
   obtain⟨u,_,hu⟩:=Bx hr h
   exact⟨u,hu,trivial⟩
  ·cases h
 |obj j=>
  simp only[look,AS8]at h
  split at h
  ·rename_i T t xs ho
   cases h
   have:=hi.obj j _ ho
   obtain⟨_,this⟩:=this
   cases hm:m j with
   |none=>
    refine⟨.slice none 0 0,?_,trivial⟩
    unfold Rep BU;rw[ho,hm];exact⟨none,rfl⟩
   |some p=>
    obtain⟨b,cap⟩:=p
    refine⟨.slice (some ⟨b,0,none⟩) (List.length (α:=t.den) xs) cap,?_,trivial⟩
    unfold Rep BU;rw[ho,hm]
  ·rename_i cs ho
   cases h
   obtain⟨b,c,vs,T,h1,_⟩:=hi.obj j _ ho
   refine⟨.pointer (some ⟨b,0,none⟩),?_,trivial⟩
   unfold Rep FQ;rw[ho];exact⟨b,c,h1,rfl⟩
  ·rename_i k v es ho
   cases h
   obtain⟨b,c,vs,T,h1,_⟩:=hi.obj j _ ho
   refine⟨.map (some b),?_,trivial⟩
   unfold Rep KP;rw[ho];exact⟨b,c,h1,rfl⟩
  ·rename_i T t is ho
   cases h
   cases hm:m j with
   |none=>
    refine⟨.slice none 0 0,?_,trivial⟩
    unfold Rep BU;rw[ho,hm];exact⟨none,rfl⟩
   |some p=>
    obtain⟨b,cap⟩:=p
    refine⟨.slice (some ⟨b,0,none⟩) is.length cap,?_,trivial⟩
    unfold Rep BU;rw[ho,hm]
  ·cases h
theorem AJW.app{l:Loc}{u:Value}(h:AJW w m H bs val l u)(b:Bnd):AJW w m H (bs++[b]) val l u:=by
 cases l with
 |tmp t=>exact h
 |cap t i=>trivial
 |obj j=>trivial
 |cell j c=>
  obtain⟨id,b1,cc,vs,T,cs,h1,h2⟩:=h
  exact⟨id,b1,cc,vs,T,cs,by rw[AUw (Da h1)];exact h1,h2⟩
theorem ASs(hb:∀ j b,bs[j]? = some b→BH w F m H fz m' E.heap j b):∀ (vs:List AV) (ps:List (Nat×Nat)) (us:List Value),ANT bs vs ps=true→AW w F m H vs us→AW w F m' E.heap (ps.map fun p=>.ptr p.1 p.2) us:=by
 intro vs
 induction vs with
 |nil=>
  intro ps us h hr
  cases ps with
  |nil=>unfold AW at *;exact hr
  |cons p ps=>simp[ANT]at h
 |cons v vs ih=>
  intro ps us h hr
  cases ps with
  |nil=>cases v<;>simp[ANT]at h
  |cons p ps=>
   obtain⟨j,o'⟩:=p
   cases v<;>simp only[ANT]at h<;>try (cases h;done)
   rename_i id o
   simp only[AUR]at h
   obtain⟨h1,h2⟩:=h
   unfold AW at hr
   obtain⟨u,us',rfl,hu,hr⟩:=hr
   simp only[AUs]
   unfold AW
   refine⟨u,us',rfl,?_,ih ps us' h2 hr⟩
   split at h1
   ·rename_i id' hj
    simp only[AUR,AUP]at h1
    obtain⟨rfl,rfl⟩:=h1
    exact AOz (hb j _ hj) hu
   ·cases h1
end
end Go.Pev
end
section
namespace Go.Pev
open Go.RowKit
theorem AGN(f g:List Nat):∀ fz,Ag (f++g) fz=Ag g (Ag f fz):=by
 induction f with
 |nil=>intro fz;rfl
 |cons a f ih=>intro fz;simp only[AUo,Ag];exact ih _
section
variable {w:World} {H:List Ob} {m:Mp} {val:Nat→Value} {tm:List AV}
theorem Ds{fz:List Bool}{id:Nat}(h:Au fz id=true):fz.getD id false=false:=by
 unfold Au at h;simpa using h
theorem AIy:∀ (its:AE) (fz:List Bool) (bs:List Bnd) (F:Nat→Prop) (m':Mp) (E:St) (d:CJ (leaves its)) (bs':List Bnd) (fr:List Nat),
  HI w F m H fz→(∀ t v,tm[t]? = some v→Rep w F m H v (val t))→Inv w F m H fz bs m' E val→dec tm H its fz bs=some (d,bs',fr) →
  ∃ F2 m2,At w F m H fz w F2 m H (Ag fr fz)∧Inv w F2 m H (Ag fr fz) bs' m2 (enc its d E) val∧∃ r,bs'=bs++r:=by
 intro its
 induction its with
 |nil=>
  intro fz bs F m' E d bs' fr hi ht hv h
  simp only[dec,AUM]at h
  obtain⟨rfl,rfl,rfl⟩:=h
  exact⟨F,m',At.refl hi,hv,[],by simp⟩
 |cons p r ih=>
  intro fz bs F m' E d bs' fr hi ht hv h
  obtain⟨l,c⟩:=p
  have obj:∀ (b:Bnd) (o:Ob) (lc:Option (Nat×Nat)) (ref:AV) (u:Value) (xs:CJ (leaves r)) (g:List Nat),AJW w m H bs val l u→(∀ (i:Nat) (c:Bnd) (id:Nat),bs[i]? = some c→c.id? = some id→b.id?≠some id) →
    BH w F m H fz (upd m' E.heap.length lc) (E.heap++[o]) E.heap.length b→Rep w F (upd m' E.heap.length lc) (E.heap++[o]) ref u→dec tm H r fz (bs++[b])=some (xs,bs',g) →
    ∃ F2 m2,At w F m H fz w F2 m H (Ag g fz)∧Inv w F2 m H (Ag g fz) bs' m2 (enc r xs (place (Hc E o) ref l)) val∧∃ r,bs'=bs++r:=by
   intro b o lc ref u xs g hat hid hbd hrep hd
   have h1:=hv.add hid hbd
   have h2:=h1.place (hat.app b) hrep
   obtain⟨F2,m2,a1,a2,rr,a3⟩:=ih fz (bs++[b]) F _ _ xs bs' g hi ht h2 hd
   exact⟨F2,m2,a1,a2,b::rr,by rw[a3];simp⟩
  have ref:∀ (v:AV) (u:Value) (xs:CJ (leaves r)) (g:List Nat),AJW w m H bs val l u→Rep w F m' E.heap v u→dec tm H r fz bs=some (xs,bs',g) →
    ∃ F2 m2,At w F m H fz w F2 m H (Ag g fz)∧Inv w F2 m H (Ag g fz) bs' m2 (enc r xs (place E v l)) val∧∃ r,bs'=bs++r:=by
   intro v u xs g hat hrep hd
   exact ih fz bs F _ _ xs bs' g hi ht (hv.place hat hrep) hd
  cases c with
  |dat t=>
   simp only[dec]at h
   split at h
   ·rename_i v hl
    split at h
    ·rename_i x f hx
     split at h
     ·rename_i hf
      split at h
      ·rename_i xs bs1 g hd
       simp only[AUM]at h
       obtain⟨rfl,rfl,rfl⟩:=h
       obtain⟨u,hu,hat⟩:=B4 hi ht hl
       have hdat:=Ex hi hx hu
       have hg:=At.freeze hi f
       have hv1:=hv.freeze hf
       have hv2:=hv1.place (v:=.data t x) hat (by unfold Rep;exact hdat)
       obtain⟨F2,m2,a1,a2,rr,a3⟩:=ih (Ag f fz) bs (DK F m H f) _ _ xs _ _ hg.2 (fun t v h=>hg.1.rep hi (ht t v h)) hv2 hd
       rw[AGN]
       exact⟨F2,m2,hg.trans a1,a2,rr,a3⟩
      ·cases h
     ·cases h
    ·cases h
   ·cases h
  |own T e=>
   simp only[dec]at h
   split at h
   ·rename_i e' hl
    split at h
    ·rename_i hc
     simp only[AUR,AUP]at hc
     obtain⟨rfl,hsz⟩:=hc
     split at h
     ·rename_i xs bs1 g hd
      simp only[AUM]at h
      obtain⟨rfl,rfl,rfl⟩:=h
      obtain⟨u,hu,hat⟩:=B4 hi ht hl
      unfold Rep at hu
      refine obj .none (.arr T e' []) none (.own E.heap.length) u xs _ hat (fun _ _ _ _ _=>by simp[Bnd.id?]) ?_ ?_ hd
      ·simp only[BH]
       exact⟨An ..,.inl ⟨T,e',by simp,hsz⟩⟩
      ·unfold Rep BU
       simp only[AU2 (AUV _),AWI,AVP,An]
       exact⟨_,hu⟩
     ·cases h
    ·cases h
   ·rename_i id hl
    split at h
    ·rename_i T' e' ys ho hfr
     simp only[AUR]at hfr
     obtain⟨hun,hfr⟩:=hfr
     split at h
     ·rename_i ys' hT hc
      simp only[AUP]at hT
      subst hT
      obtain⟨he,hy⟩:=Eh hc
      subst he
      simp only at hy
      subst hy
      split at h
      ·rename_i xs bs1 g hd
       simp only[AUM]at h
       obtain⟨rfl,rfl,rfl⟩:=h
       obtain⟨u,hu,hat⟩:=B4 hi ht hl
       refine obj (.whole id) (.arr T e' ys) (m id) (.own E.heap.length) u xs _ hat (fun i c id' hic hcid => ?_) ?_ ?_ hd
       ·rintro h;simp only[Bnd.id?,AUM]at h;subst h;exact HU hfr i c hic hcid
       ·simp only[BH]
        exact⟨An ..,.inl ⟨T,e',ys,ho,by simp,Ds hun⟩⟩
       ·unfold Rep at hu ⊢
        rw[ho]at hu
        rw[AU2 (AUV _),AWI,AVP,An]
        exact hu
      ·cases h
     ·cases h
    ·cases h
   ·rename_i id n hl
    split at h
    ·rename_i T' e' ys ho hfr
     simp only[AUR]at hfr
     obtain⟨hun,hfr⟩:=hfr
     split at h
     ·rename_i ys' hT hc
      simp only[AUP]at hT
      subst hT
      obtain⟨he,hy⟩:=Eh hc
      subst he
      simp only at hy
      subst hy
      split at h
      ·rename_i xs bs1 g hd
       simp only[AUM]at h
       obtain⟨rfl,rfl,rfl⟩:=h
       obtain⟨u,hu,hat⟩:=B4 hi ht hl
       unfold Rep FP at hu
       rw[ho]at hu
       obtain⟨hle,hu⟩:=hu
       have hid:∀ (i:Nat) (c:Bnd) (id':Nat),bs[i]? = some c→c.id? = some id'→(Bnd.cut id).id?≠some id':=by
        intro i c id' hic hcid h;simp only[Bnd.id?,AUM]at h;subst h;exact HU hfr i c hic hcid
       have hget:(E.heap++[Ob.arr T e' (DN n ys)])[E.heap.length]? = some (Ob.arr T e' (DN n ys)):=by simp
       obtain⟨hsz,hob⟩:=hi.obj id _ ho
       have hnil:n=0→List.take (α:=e'.den) n ys=[]:=by rintro rfl;simp
       have hlen:List.length (α:=e'.den) (DN n ys)=n:=by unfold DN;rw[AUq];omega
       cases hm:m id with
       |none=>
        rw[hm]at hob hu
        simp only at hob hu
        subst hob
        have h0:n=0:=by simpa using hle
        subst h0
        obtain⟨a,rfl⟩:=hu
        refine obj (.cut id) (.arr T e' (DN 0 [])) none (.own E.heap.length) _ xs _ hat hid ?_ ?_ hd
        ·simp only[BH]
         exact⟨T,e',[],0,ho,Ds hun,hget,.inl (by rw[An,hm])⟩
        ·unfold Rep
         rw[hget,An]
         exact⟨a,rfl⟩
       |some p=>
        obtain⟨b,cap⟩:=p
        rw[hm]at hob hu
        obtain⟨a,rfl,ha⟩:=hu
        obtain⟨vs,row,o1,o2,o3,o4,o5,o6⟩:=hob
        by_cases hcap:cap=0
        ·subst hcap
         have h0:n=0:=by omega
         refine obj (.cut id) (.arr T e' (DN n ys)) none (.own E.heap.length) _ xs _ hat hid ?_ ?_ hd
         ·simp only[BH]
          exact⟨T,e',ys,n,ho,Ds hun,hget,.inr ⟨An ..,hnil h0⟩⟩
         ·unfold Rep
          rw[hget,An]
          exact⟨a,by rw[h0]⟩
        ·refine obj (.cut id) (.arr T e' (DN n ys)) (m id) (.own E.heap.length) _ xs _ hat hid ?_ ?_ hd
         ·simp only[BH]
          exact⟨T,e',ys,n,ho,Ds hun,hget,.inl (An ..)⟩
         ·unfold Rep BU
          rw[hget,An,hm]
          have:=ha (by omega)
          rw[this]
          simp[hlen]
      ·cases h
     ·cases h
    ·cases h
   ·cases h
  |box n=>
   simp only[dec]at h
   split at h
   ·rename_i id hl
    split at h
    ·rename_i cs ho hfr
     split at h
     ·rename_i hn
      simp only[AUP]at hn
      obtain⟨u,hu,hat⟩:=B4 hi ht hl
      obtain⟨b,cc,vs,T,b1,b2,b3,b4⟩:=hi.obj id _ ho
      refine obj (.whole id) (.box (List.replicate n .junk)) (m id) (.ptr E.heap.length 0) u d fr hat (fun i c id' hic hcid => ?_) ?_ ?_ h
      ·rintro h;simp only[Bnd.id?,AUM]at h;subst h;exact HU hfr i c hic hcid
      ·simp only[BH]
       refine⟨An ..,.inr (.inr (.inl ⟨cs,List.replicate n .junk,b,cc,vs,T,ho,by simp,by simp[hn],b1,b2,?_,b4⟩))⟩
       refine Cl (by rw[Am b3];simp[hn]) fun i c v hc _ => ?_
       have:=AV6 (AUe hc)
       subst this
       unfold Rep;trivial
      ·unfold Rep FQ at hu ⊢
       rw[ho]at hu
       rw[AU2 (AUV _),AWI,AVP,An]
       exact hu
     ·cases h
    ·cases h
   ·cases h
  |map k v=>
   simp only[dec]at h
   split at h
   ·rename_i id hl
    split at h
    ·rename_i k' v' es ho hfr
     split at h
     ·rename_i es' hc
      obtain⟨he,hy⟩:=Eh hc
      cases he
      simp only at hy
      subst hy
      split at h
      ·rename_i xs bs1 g hd
       simp only[AUM]at h
       obtain⟨rfl,rfl,rfl⟩:=h
       obtain⟨u,hu,hat⟩:=B4 hi ht hl
       refine obj (.whole id) (.map k v es) (m id) (.mp E.heap.length) u xs _ hat (fun i c id' hic hcid => ?_) ?_ ?_ hd
       ·rintro h;simp only[Bnd.id?,AUM]at h;subst h;exact HU hfr i c hic hcid
       ·simp only[BH]
        exact⟨An ..,.inr (.inl ⟨k,v,es,ho,by simp⟩)⟩
       ·unfold Rep KP at hu ⊢
        rw[ho]at hu
        rw[AU2 (AUV _),AWI,AVP,An]
        exact hu
      ·cases h
     ·cases h
    ·cases h
   ·cases h
  |own' j=>
   simp only[dec]at h
   split at h
   ·rename_i id id' hl hj
    split at h
    ·rename_i hid
     simp only[AUP]at hid
     subst hid
     obtain⟨u,hu,hat⟩:=B4 hi ht hl
     exact ref (.own j) u d fr hat (APa (hv.ob j _ hj) hu) h
    ·cases h
   ·cases h
  |ptr' j off=>
   simp only[dec]at h
   split at h
   ·rename_i id o id' hl hj
    split at h
    ·rename_i hid
     simp only[AUR,AUP]at hid
     obtain⟨rfl,rfl⟩:=hid
     obtain⟨u,hu,hat⟩:=B4 hi ht hl
     exact ref (.ptr j o) u d fr hat (AOz (hv.ob j _ hj) hu) h
    ·cases h
   ·cases h
  |sub' j=>
   simp only[dec]at h
   split at h
   ·rename_i id off n id' hl hj
    split at h
    ·rename_i hid
     simp only[AUP]at hid
     subst hid
     split at h
     ·rename_i xs bs1 g hd
      simp only[AUM]at h
      obtain⟨rfl,rfl,rfl⟩:=h
      obtain⟨u,hu,hat⟩:=B4 hi ht hl
      exact ref (.win j off n) u xs _ hat (AFr (hv.ob j _ hj) hu) hd
     ·cases h
    ·cases h
   ·cases h
  |win' j=>
   simp only[dec]at h
   split at h
   ·rename_i id n id' hl hj
    split at h
    ·rename_i hid
     simp only[AUP]at hid
     subst hid
     split at h
     ·rename_i xs bs1 g hd
      simp only[AUM]at h
      obtain⟨rfl,rfl,rfl⟩:=h
      obtain⟨u,hu,hat⟩:=B4 hi ht hl
      exact ref (.win j 0 n) u xs _ hat (AFr (hv.ob j _ hj) hu) hd
     ·cases h
    ·cases h
   ·rename_i id id' hl hj
    split at h
    ·rename_i T t ys hid ho
     simp only[AUP]at hid
     subst hid
     split at h
     ·rename_i xs bs1 g hd
      simp only[AUM]at h
      obtain⟨rfl,rfl,rfl⟩:=h
      obtain⟨u,hu,hat⟩:=B4 hi ht hl
      exact ref (.win j 0 ys.length) u xs _ hat (AFr (hv.ob j _ hj) (AR0 hi ho hu)) hd
     ·cases h
    ·cases h
   ·cases h
  |map' j=>
   simp only[dec]at h
   split at h
   ·rename_i id id' hl hj
    split at h
    ·rename_i hid
     simp only[AUP]at hid
     subst hid
     obtain⟨u,hu,hat⟩:=B4 hi ht hl
     exact ref (.mp j) u d fr hat (AT7 (hv.ob j _ hj) hu) h
    ·cases h
   ·cases h
  |clo f ps=>
   simp only[dec]at h
   split at h
   ·rename_i f' vs hl
    split at h
    ·rename_i hc
     simp only[AUR,AUP]at hc
     obtain⟨rfl,hc⟩:=hc
     obtain⟨u,hu,hat⟩:=B4 hi ht hl
     unfold Rep at hu
     obtain⟨cs,rfl,hr⟩:=hu
     exact ref (.clo f (ps.map fun p=>.ptr p.1 p.2)) _ d fr hat (by unfold Rep;exact⟨cs,rfl,ASs hv.ob vs ps cs.toList hc hr⟩) h
    ·cases h
   ·cases h
  |bnd f j=>
   simp only[dec]at h
   split at h
   ·rename_i f' id id' hl hj
    split at h
    ·rename_i hc
     simp only[AUR,AUP]at hc
     obtain⟨rfl,rfl⟩:=hc
     obtain⟨u,hu,hat⟩:=B4 hi ht hl
     unfold Rep at hu
     obtain⟨cs,rfl,hr⟩:=hu
     refine ref (.bnd f [.own j]) _ d fr hat ?_ h
     unfold Rep
     refine⟨cs,rfl,?_⟩
     unfold AW at hr ⊢
     obtain⟨x,xs,e1,e2,e3⟩:=hr
     refine⟨x,xs,e1,APa (hv.ob j _ hj) e2,?_⟩
     unfold AW at e3 ⊢
     exact e3
    ·cases h
   ·cases h
  |prs T j=>
   simp only[dec]at h
   split at h
   ·rename_i e' hl
    split at h
    ·rename_i xs bs1 g hd
     simp only[AUM]at h
     obtain⟨rfl,rfl,rfl⟩:=h
     obtain⟨u,hu,hat⟩:=B4 hi ht hl
     unfold Rep at hu
     refine obj .none (.prs T j []) none (.own E.heap.length) u xs _ hat (fun _ _ _ _ _=>by simp[Bnd.id?]) ?_ ?_ hd
     ·simp only[BH]
      exact⟨An ..,.inr ⟨T,j,by simp⟩⟩
     ·unfold Rep BU
      simp only[AU2 (AUV _),AWI,AVP,An]
      exact⟨_,hu⟩
    ·cases h
   ·rename_i id hl
    split at h
    ·rename_i T' tgt is tgt' ho hfr hj
     split at h
     ·rename_i hT
      simp only[AUR,AUP]at hT
      obtain⟨rfl,rfl⟩:=hT
      split at h
      ·rename_i xs bs1 g hd
       simp only[AUM]at h
       obtain⟨rfl,rfl,rfl⟩:=h
       obtain⟨u,hu,hat⟩:=B4 hi ht hl
       have hbj:=hv.ob j _ hj
       have hob:=hi.obj id _ ho
       have hcomp:Cc E.heap (E.heap++[.prs T j is]) m' (upd m' E.heap.length (m id)):=by
        intro i x hi hf
        have hlt:=Ap hi
        rcases Cc.refl E.heap m' i x hi hf with h|⟨hd,o',h4,h5,_⟩
        ·exact .inl (by rw[AUw hlt];exact h)
        ·exact .inr ⟨hd,o',by rw[AUw hlt];exact h4,h5,BI (by omega)⟩
       have hob':ObI w F (upd m' E.heap.length (m id)) (E.heap++[.prs T j is]) (.prs T j is) (m id):=by
        cases hm:m id with
        |none=>rw[hm]at hob;exact hob
        |some p=>
         obtain⟨b,cap⟩:=p
         rw[hm]at hob hcomp
         obtain⟨vs,us,e1,e2,e3,e4,e5,e6⟩:=hob
         exact⟨vs,us,e1,e2,e3,e4,AW.mono (fun _ _=>rfl) (fun _ h=>h) hcomp _ (ARo hbj e5),e6⟩
       refine obj (.whole id) (.prs T j is) (m id) (.own E.heap.length) u xs _ hat (fun i c id' hic hcid => ?_) ?_ ?_ hd
       ·rintro h;simp only[Bnd.id?,AUM]at h;subst h;exact HU hfr i c hic hcid
       ·simp only[BH]
        exact⟨An ..,.inr (.inr (.inr ⟨T,tgt,j,is,ho,by simp,hob'⟩))⟩
       ·unfold Rep at hu ⊢
        rw[ho]at hu
        rw[AU2 (AUV _),AWI,AVP,An]
        exact hu
      ·cases h
     ·cases h
    ·cases h
   ·cases h
  |nil e=>
   simp only[dec]at h
   cases hl:look tm H bs l with
   |none=>rw[hl]at h;cases h
   |some v=>
    rw[hl]at h
    cases v with
    |nils e'=>
     obtain⟨u,hu,hat⟩:=B4 hi ht hl
     exact ref (.nils e) u d fr hat (by unfold Rep at *;exact hu) h
    |_=>cases h
end
end Go.Pev
end
section
namespace Go.Pev
open Go.RowKit
structure Oq(np:Nat)(w:World)(F:Nat→Prop)(m:Mp)(H:List Ob)(fz:List Bool)(w':World)(F':Nat→Prop)(m':Mp)(H':List Ob)(fz':List Bool):Prop where
 os:w'.os=w.os
 tape:w'.tape=w.tape
 output:w'.output=w.output
 size:w.heap.size≤w'.heap.size
 keep:∀ b,b<w.heap.size→(∀ i c,owned H fz i→m i≠some (b,c))→w'.heap[b]? = w.heap[b]?
 sub:∀ b,F b→F' b
 bnd:∀ b,F' b→F b∨(∃ i c,owned H fz i∧m i=some (b,c))∨w.heap.size≤b
 own:∀ i b c,owned H' fz' i→m' i=some (b,c)→(∃ i c,owned H fz i∧m i=some (b,c))∨w.heap.size≤b
 comp:∀ i o,i<np→H[i]? = some o→o≠.free→H'[i]? = some .dead∨(o≠.dead∧∃ o',H'[i]? = some o'∧sameShape o o'∧m' i=m i)
theorem Ext.toN{w w':World}{F F':Nat→Prop}{m m':Mp}{H H':List Ob}{fz fz':List Bool}(h:Ext w F m H fz w' F' m' H' fz')(np:Nat):Oq np w F m H fz w' F' m' H' fz':=
 ⟨h.os,h.tape,h.output,h.size,h.keep,h.sub,h.bnd,h.own,fun i o _=>h.comp i o⟩
theorem Oq.refl(np:Nat)(w:World)(F:Nat→Prop)(m:Mp)(H:List Ob)(fz:List Bool):Oq np w F m H fz w F m H fz:=(Ext.refl ..).toN np
theorem Oq.trans{np:Nat}{w w1 w2:World}{F F1 F2:Nat→Prop}{m m1 m2:Mp}{H H1 H2:List Ob}{fz fz1 fz2:List Bool}
  (h:Oq np w F m H fz w1 F1 m1 H1 fz1) (k:Oq np w1 F1 m1 H1 fz1 w2 F2 m2 H2 fz2):Oq np w F m H fz w2 F2 m2 H2 fz2 where
 os:=k.os.trans h.os
 tape:=k.tape.trans h.tape
 output:=k.output.trans h.output
 size:=AVT h.size k.size
 keep b hb hn:=by
  rw[k.keep b (AVn hb h.size) ?_,h.keep b hb hn]
  intro i c ho he
  rcases h.own i b c ho he with⟨i',c',h1,h2⟩|h1
  ·exact hn i' c' h1 h2
  ·omega
 sub b hb:=k.sub b (h.sub b hb)
 bnd b hb:=by
  rcases k.bnd b hb with h1|⟨i,c,h1,h2⟩|h1
  ·exact h.bnd b h1
  ·rcases h.own i b c h1 h2 with h3|h3
   ·exact .inr (.inl h3)
   ·exact .inr (.inr h3)
  ·exact .inr (.inr (AVT h.size h1))
 own i b c h1 h2:=by
  rcases k.own i b c h1 h2 with⟨i',c',h3,h4⟩|h3
  ·exact h.own i' b c' h3 h4
  ·exact .inr (AVT h.size h3)
 comp i o hlt ho hf:=by
  rcases h.comp i o hlt ho hf with h1|⟨hd,o',h1,h2,h3⟩
  ·rcases k.comp i _ hlt h1 (by simp)with h4|⟨h5,_⟩
   ·exact .inl h4
   ·exact absurd rfl h5
  ·have hf':o'≠.free:=by rintro rfl;cases o<;>simp[sameShape]at h2
   rcases k.comp i o' hlt h1 hf' with h4|⟨_,o'',h4,h5,h6⟩
   ·exact .inl h4
   ·exact .inr ⟨hd,o'',h4,h2.trans h5,h6.trans h3⟩
section
variable {w:World} {F:Nat→Prop} {m:Mp} {H:List Ob} {fz:List Bool} {bs:List Bnd} {m':Mp} {E:St} {val:Nat→Value}
theorem Inv.src(h:Inv w F m H fz bs m' E val){i b c:Nat}(ho:owned E.heap E.frz i)(hm:m' i=some (b,c)):∃ x id,bs[i]? = some x∧x.id? = some id∧owned H fz id∧m id=some (b,c):=by
 obtain⟨o,hio,_,_⟩:=Cw ho
 have hlt:=Ap hio
 rw[h.lenH]at hlt
 have hx:bs[i]? = some bs[i]:=AUU hlt
 have hb:=h.ob i _ hx
 cases hc:bs[i]with
 |none=>rw[hc]at hb;simp only[BH]at hb;rw[hb.1]at hm;cases hm
 |whole id=>
  rw[hc]at hb hx
  simp only[BH]at hb
  obtain⟨e,hb⟩:=hb
  refine⟨_,id,hx,rfl,?_,by rw[← e];exact hm⟩
  unfold owned
  rcases hb with⟨T,t,xs,a1,_,a3⟩|⟨k,v,es,a1,_⟩|⟨cs,cs',b,c,vs,T,a1,_⟩|⟨_,_,_,_,a1,_⟩
  ·rw[a1];exact a3
  ·rw[a1];trivial
  ·rw[a1];trivial
  ·rw[a1];trivial
 |cut id=>
  rw[hc]at hb hx
  simp only[BH]at hb
  obtain⟨T,t,xs,n,a1,a2,a3,a4⟩:=hb
  refine⟨_,id,hx,rfl,by unfold owned;rw[a1];exact a2,?_⟩
  rcases a4 with a4|⟨a4,_⟩
  ·rw[← a4];exact hm
  ·rw[a4]at hm;cases hm
theorem Inv.hi(hi:HI w F m H fz)(h:Inv w F m H fz bs m' E val):HI w F m' E.heap E.frz where
 obj j o hj:=by
  have hlt:=Ap hj
  rw[h.lenH]at hlt
  have hx:bs[j]? = some bs[j]:=AUU hlt
  have hb:=h.ob j _ hx
  cases hc:bs[j]with
  |none=>
   rw[hc]at hb
   simp only[BH]at hb
   obtain⟨e1,⟨T,e,e2,e3⟩|⟨T,t,e2⟩⟩:=hb
   ·rw[hj]at e2;cases e2
    exact⟨e3,by rw[e1]⟩
   ·rw[hj]at e2;cases e2
    rw[e1]
    exact(rfl:([]:List Int)=[])
  |whole id=>
   rw[hc]at hb
   simp only[BH]at hb
   obtain⟨e,hb⟩:=hb
   rcases hb with⟨T,t,xs,a1,a2,a3⟩|⟨k,v,es,a1,a2⟩|⟨cs,cs',b,c,vs,T,a1,a2,_,a4,a5,a6,a7⟩|⟨T,tgt,j0,is,a1,a2,a3⟩
   ·rw[hj]at a2;cases a2
    rw[e];exact hi.obj id _ a1
   ·rw[hj]at a2;cases a2
    rw[e];exact hi.obj id _ a1
   ·rw[hj]at a2;cases a2
    exact⟨b,c,vs,T,e.trans a4,a5,a6,a7⟩
   ·rw[hj]at a2;cases a2
    rw[e];exact a3
  |cut id=>
   rw[hc]at hb
   simp only[BH]at hb
   obtain⟨T,t,xs,n,a1,a2,a3,a4⟩:=hb
   rw[hj]at a3;cases a3
   obtain⟨h0,h1⟩:=hi.obj id _ a1
   refine⟨h0,?_⟩
   rcases a4 with a4|⟨a4,a5⟩
   ·rw[a4]
    cases hm:m id with
    |none=>
     rw[hm]at h1
     simp only at h1 ⊢
     rw[h1];simp
    |some p=>
     obtain⟨b,cap⟩:=p
     rw[hm]at h1
     simp only at h1 ⊢
     obtain⟨vs,row,b1,b2,b3,b4,b5,b6⟩:=h1
     refine⟨vs,row.take (n*t.size),b1,?_,b3,b4,EF (fun x cs hx=>Dat.length t hx) n b5,?_⟩
     ·rw[AUq];omega
     ·rw[AUq,← AWa,b6]
   ·rw[a4];exact a5
 sep i j b c b' c' h1 h2 hij h3 h4:=by
  obtain⟨x,id,k1,k2,k3,k4⟩:=h.src h1 h3
  obtain⟨y,id',l1,l2,l3,l4⟩:=h.src h2 h4
  refine hi.sep id id' b c b' c' k3 l3 ?_ k4 l4
  rintro rfl
  exact hij (h.inj i j x y id k1 l1 k2 l2)
 off i b c h1 h2:=by
  obtain⟨x,id,k1,k2,k3,k4⟩:=h.src h1 h2
  exact hi.off id b c k3 k4
 froz i T t xs b c h1 h2:=by rw[h.frz i]at h2;cases h2
 lt:=hi.lt
 len:=h.lenF.symm
theorem ACv:∀ (n i:Nat) (bs:List Bnd),pins n i bs=true→∀ k,k<n→bs[k]? = some (.whole (i+k)):=by
 intro n
 induction n with
 |zero=>intro i bs _ k hk;omega
 |succ n ih=>
  intro i bs h k hk
  cases bs with
  |nil=>simp[pins]at h
  |cons b bs=>
   simp only[pins,AUR,AUP]at h
   cases k with
   |zero=>simp[h.1]
   |succ k=>
    have:=ih (i+1) bs h.2 k (by omega)
    simp only[AWu]
    rw[this];congr 2;omega
theorem Inv.blank{val:Nat→Value}(n:Nat):Inv w F m H fz [] (fun _=>none) (Pev.blank n) val where
 tmps t:=by
  have:(Pev.blank n).tmps.getD t .junk = .junk:=by
   simp only[Pev.blank,AUS,List.getElem?_replicate]
   split<;>rfl
  rw[this];unfold Rep;trivial
 lenH:=rfl
 lenF:=rfl
 frz i:=by simp[Pev.blank]
 ob j b h:=by simp at h
 inj i j b c id h:=by simp at h
theorem AGw(st:St)(v:AV)(l:Loc):(place st v l).tmps.length=st.tmps.length:=by
 cases l with
 |tmp t=>simp[place]
 |cell j c=>simp only[place];split<;>rfl
 |cap t i=>rfl
 |obj j=>rfl
theorem AQr:∀ (its:AE) (d:CJ (leaves its)) (st:St),(enc its d st).tmps.length=st.tmps.length:=by
 intro its
 induction its with
 |nil=>intro d st;rfl
 |cons p r ih=>
  intro d st
  obtain⟨l,c⟩:=p
  cases c<;>exact(ih _ _).trans (AGw _ _ _)
theorem JE(n:Nat)(its:AE)(d:CJ (leaves its)):(encode n its d).tmps.length=n:=by
 unfold encode;rw[AQr];simp[blank]
theorem ALm{F2:Nat→Prop}{fz2:List Bool}{np:Nat}(h:Inv w F2 m H fz2 bs m' E val)(hp:pins np 0 bs=true):∀ i o,i<np→H[i]? = some o→o≠.free→E.heap[i]? = some .dead∨(o≠.dead∧∃ o',E.heap[i]? = some o'∧sameShape o o'∧m' i=m i):=by
 intro i o hlt ho hf
 have h1:=ACv np 0 bs hp i hlt
 rw[AVL]at h1
 have hb:=h.ob i _ h1
 simp only[BH]at hb
 obtain⟨e,hb⟩:=hb
 right
 rcases hb with⟨T,t,xs,a1,a2,a3⟩|⟨k,v,es,a1,a2⟩|⟨cs,cs',b,c,vs,T,a1,a2,_,a4,a5,a6,a7⟩|⟨_,_,_,_,a1,a2,_⟩
 ·rw[ho]at a1;cases a1;exact⟨by simp,_,a2,⟨rfl,rfl⟩,e⟩
 ·rw[ho]at a1;cases a1;exact⟨by simp,_,a2,trivial,e⟩
 ·rw[ho]at a1;cases a1;exact⟨by simp,_,a2,trivial,e⟩
 ·rw[ho]at a1;cases a1;exact⟨by simp,_,a2,rfl,e⟩
theorem OV{np nt:Nat}{st:St}{a:Act}{its:AE}{v:CJ (leaves its)}(hs:SI w F m st a)(h:decode np nt st its=some v):
  ∃ F' m',SI w F' m' (encode nt its v) a∧Oq np w F m st.heap st.frz w F' m' (encode nt its v).heap (encode nt its v).frz:=by
 unfold decode at h
 split at h
 ·rename_i hn
  simp only[AUP]at hn
  split at h
  ·rename_i v' bs fr hd
   split at h
   ·rename_i hp
    simp only[AUM]at h;subst h
    obtain⟨F2,m2,hg,hv,_⟩:=AIy (val:=fun t=>a.tmps.getD t undef) its st.frz [] F (fun _=>none) (blank nt) v' bs fr hs.heap
     (fun t v ht=>by have:=hs.tmps t;rw[AUS,ht]at this;exact this) (Inv.blank nt) hd
    refine⟨F2,m2,⟨hv.tmps,by rw[JE,← hn];exact hs.size,hv.hi hg.2,hs.defers⟩,?_⟩
    refine⟨rfl,rfl,rfl,AUV _,fun _ _ _=>rfl,hg.1.sub,hg.1.bnd,fun i b c h1 h2 => ?_,ALm hv hp⟩
    obtain⟨x,id,k1,k2,k3,k4⟩:=hv.src h1 h2
    exact hg.1.own id b c k3 k4
   ·cases h
  ·cases h
 ·cases h
end
end Go.Pev
end
section
namespace Go.Pev
open Go.RowKit
theorem Pp{R:Type}{all:List Oper}{g:Option (Nat×Bool)}{st:St}{yes no:St→Option R}{r:R}(h:guarded R all g st yes no=some r):
  ∃ st',(yes st'=some r∧∀ (R':Type) (yes' no':St→Option R'),guarded R' all g st yes' no'=yes' st')∨(no st'=some r∧∀ (R':Type) (yes' no':St→Option R'),guarded R' all g st yes' no'=no' st'):=by
 unfold guarded at h
 split at h
 ·exact⟨st,.inl ⟨h,fun _ _ _=>by simp[guarded]⟩⟩
 ·rename_i j want
  split at h
  ·cases h
  ·rename_i d hj
   split at h
   ·rename_i b hd
    cases b with
    |true=>
     cases want with
     |true=>exact⟨_,.inl ⟨h,fun _ _ _=>by simp only[guarded,hj,hd]⟩⟩
     |false=>exact⟨_,.inr ⟨h,fun _ _ _=>by simp only[guarded,hj,hd]⟩⟩
    |false=>
     cases want with
     |true=>exact⟨_,.inr ⟨h,fun _ _ _=>by simp only[guarded,hj,hd]⟩⟩
     |false=>exact⟨_,.inl ⟨h,fun _ _ _=>by simp only[guarded,hj,hd]⟩⟩
   ·rename_i hd
    exact⟨_,.inr ⟨h,fun _ _ _=>by simp only[guarded,hj,hd]⟩⟩
   ·cases h
section
variable {P:Program} {E:Env} {h:Hints}
theorem AG3(hE:∀ g,AP P g (E.spec g)){R:Type}{r:R}{all:List Oper}:∀ (ops:List Oper) (slot:Nat) (st:St) (k:St→Option R),HB P E R all ops slot st k=some r →
  ∃ st',k st'=some r∧∀ (R':Type) (k':St→Option R'),HB P E R' all ops slot st k'=k' st':=by
 intro ops
 induction ops with
 |nil=>intro slot st k h;exact⟨st,h,fun _ _=>rfl⟩
 |cons o ops ih=>
  intro slot st k h
  simp only[HB]at h
  obtain⟨st1,h1⟩:=Pp h
  rcases h1 with⟨h1,h2⟩|⟨h1,h2⟩
  ·obtain⟨v,e,h3,h4,_⟩:=HW hE o.op _ _ _ _ _ _ _ r h1
   obtain⟨st2,h5,h6⟩:=ih _ _ _ h3
   exact⟨st2,h5,fun R' k'=>by simp only[HB];rw[h2,h4];exact h6 R' k'⟩
  ·obtain⟨st2,h5,h6⟩:=ih _ _ _ h1
   exact⟨st2,h5,fun R' k'=>by simp only[HB];rw[h2];exact h6 R' k'⟩
theorem ALM(hE:∀ g,AP P g (E.spec g)){R:Type}{r:R}{all:List Oper}{o:Oper}{φ:List Nat}{slot:Nat}{st:St}{k:St→Option R}(h:PE P E R all o φ slot st k=some r):
  ∃ st',k st'=some r∧∀ (R':Type) (k':St→Option R'),PE P E R' all o φ slot st k'=k' st':=by
 unfold PE at h
 obtain⟨st1,h1⟩:=Pp h
 rcases h1 with⟨h1,h2⟩|⟨h1,h2⟩
 ·split at h1
  ·rename_i hw
   obtain⟨v,e,h3,h4,_⟩:=HW hE o.op _ _ _ _ _ _ _ r h1
   split at h3
   ·rename_i hok
    exact⟨_,h3,fun R' k'=>by unfold PE;rw[h2];simp only[hw];rw[h4];simp only[hok]⟩
   ·cases h3
  ·cases h1
 ·exact⟨_,h1,fun R' k'=>by unfold PE;rw[h2]⟩
theorem ACw(hE:∀ g,AP P g (E.spec g)){R:Type}{r:R}{all:List Oper}:∀ (ops:List Oper) (fp:List (List Nat)) (slot:Nat) (st:St) (k:St→Option R),Gi P E R all ops fp slot st k=some r →
  ∃ st',k st'=some r∧∀ (R':Type) (k':St→Option R'),Gi P E R' all ops fp slot st k'=k' st':=by
 intro ops
 induction ops with
 |nil=>intro fp slot st k h;exact⟨st,h,fun _ _=>rfl⟩
 |cons o ops ih=>
  intro fp slot st k h
  simp only[Gi]at h
  obtain⟨st1,h1,h2⟩:=ALM hE h
  obtain⟨st2,h5,h6⟩:=ih _ _ _ _ h1
  exact⟨st2,h5,fun R' k'=>by simp only[Gi];rw[h2];exact h6 R' k'⟩
def AUI(P:Program)(np:Nat)(c:Code)(st:St)(e:Exit)(st':St):Prop:=
 ∀ (w:World) (F:Nat→Prop) (m:Mp) (a:Act) (Q:Exit→Act→World→Prop),SI w F m st a →
  (∀ a' w' F' m',SI w' F' m' st' a'→Oq np w F m st.heap st.frz w' F' m' st'.heap st'.frz→Q e a' w')→c.wp P Q a w
def Ac(P:Program)(np:Nat)(c:Code)(go:(R:Type)→St→(Exit→St→Option R)→Option R):Prop:=
 ∀ (R:Type) (st:St) (k:Exit→St→Option R) (r:R),go R st k=some r→∃ e st',k e st'=some r∧(∀ (R':Type) (k':Exit→St→Option R'),go R' st k'=k' e st')∧AUI P np c st e st'
def DG(P:Program)(np:Nat)(h:Hints):Code→Nat→Prop
 |.seq a b,n=>DG P np h a n∧DG P np h b (n+loops a)
 |.cond _ a b,n=>DG P np h a n∧DG P np h b (n+loops a)
 |.block _ c,n=>DG P np h c n
 |.loop c,n=>Ac P np (.loop c) (h.loop n)
 |_,_=>True
theorem AKl{w:World}{F:Nat→Prop}{m:Mp}{st:St}{a:Act}(hs:SI w F m st a){c:Operand}{x:Bool}(hc:BC st.tmps c = .data .bool x):
  a.eval c = .bool x∧SI w F m { st with tmps:=KX st.tmps c x } a:=by
 have h1:Rep w F m st.heap (BC st.tmps c) (a.eval c):=T1 hs.tmps c
 rw[hc]at h1
 refine⟨?_,?_⟩
 ·unfold Rep BW at h1
  simp only[Ty.isAgg,AUc,AUa]at h1
  simpa [Dat]using h1
 ·cases c with
  |tmp t=>
   simp only[BC,AUS]at hc
   exact hs.lit (d:=t) (b:=x) (by
    cases ht:st.tmps[t]? with
    |none=>rw[ht]at hc;simp at hc
    |some v=>rw[ht]at hc;simp at hc;rw[hc])
  |const v=>exact hs
  |func f=>exact hs
  |global g=>exact hs
theorem Kc(hE:∀ g,AP P g (E.spec g))(hL:G1 E){np:Nat}:∀ (c:Code) (n:Nat),DG P np h c n→Ac P np c (fun R=>A2 P E h R c n):=by
 intro c
 induction c with
 |skip=>
  intro n _ R st k r hk
  simp only[A2]at hk
  exact⟨_,_,hk,fun _ _=>rfl,fun w F m a Q hs hq=>wp_skip (hq a w F m hs (Oq.refl ..))⟩
 |region id ops draw=>
  intro n _ R st k r hk
  cases draw with
  |false=>
   simp only[A2,Fh]at hk
   obtain⟨st',h1,h2⟩:=AG3 hE _ _ _ _ hk
   refine⟨.normal,st',h1,fun R' k'=>by simp only[A2,Fh];exact h2 R' _,fun w F m a Q hs hq => ?_⟩
   have h3:Fh P E St ops.toList st some=some st':=by simp only[Fh];exact h2 St some
   refine ZL hE h3 hs fun a' w' hp => ?_
   obtain⟨st1,F',m',e1,e2,e3⟩:=hp
   cases e1
   exact hq a' w' F' m' e2 (e3.toN np)
  |true=>
   simp only[A2]at hk
   have hk':=hk
   unfold DZ at hk
   split at hk
   ·rename_i hok
    obtain⟨st',h1,h2⟩:=ACw hE _ _ _ _ _ hk
    refine⟨.normal,st',h1,fun R' k'=>by simp only[A2,DZ,hok];exact h2 R' _,fun w F m a Q hs hq => ?_⟩
    have h3:DZ P E St (h.fp id) ops.toList st some=some st':=by simp only[DZ,hok];exact h2 St some
    refine Vw hE hL h3 hs fun a' w' hp => ?_
    obtain⟨st1,F',m',e1,e2,e3⟩:=hp
    cases e1
    exact hq a' w' F' m' e2 (e3.toN np)
   ·cases hk
 |seq a b iha ihb=>
  intro n hl R st k r hk
  simp only[A2]at hk
  obtain⟨e,st1,h1,h2',h3⟩:=iha n hl.1 R st _ r hk
  have h2:∀ (R':Type) (k':Exit→St→Option R'),A2 P E h R' a n st k'=k' e st1:=h2'
  by_cases he:e = .normal
  ·subst he
   simp only at h1
   obtain⟨e2,st2,k1,k2,k3⟩:=ihb _ hl.2 R st1 _ r h1
   refine⟨e2,st2,k1,fun R' k' => ?_,fun w F m act Q hs hq=>wp_seq ?_⟩
   ·simp only[A2];rw[h2];exact k2 R' k'
   ·refine h3 w F m act _ hs fun a' w' F' m' s1 x1 => ?_
    exact k3 w' F' m' a' Q s1 fun a2 w2 F2 m2 s2 x2=>hq a2 w2 F2 m2 s2 (x1.trans x2)
  ·have h1':k e st1=some r:=by cases e<;>first|exact absurd rfl he|exact h1
   refine⟨e,st1,h1',fun R' k' => ?_,fun w F m act Q hs hq=>wp_seq ?_⟩
   ·simp only[A2];rw[h2];cases e<;>first|exact absurd rfl he|rfl
   ·refine h3 w F m act _ hs fun a' w' F' m' s1 x1 => ?_
    have:=hq a' w' F' m' s1 x1
    cases e<;>first|exact absurd rfl he|exact this
 |cond c a b iha ihb=>
  intro n hl R st k r hk
  simp only[A2]at hk
  split at hk
  ·rename_i x hc
   cases x with
   |true=>
    obtain⟨e,st1,h1,h2,h3⟩:=iha _ hl.1 R _ _ r hk
    refine⟨e,st1,h1,fun R' k'=>by simp only[A2,hc];exact h2 R' k',fun w F m act Q hs hq => ?_⟩
    obtain⟨q1,q2⟩:=AKl hs hc
    exact wp_cond_true q1 (h3 w F m act Q q2 hq)
   |false=>
    obtain⟨e,st1,h1,h2,h3⟩:=ihb _ hl.2 R _ _ r hk
    refine⟨e,st1,h1,fun R' k'=>by simp only[A2,hc];exact h2 R' k',fun w F m act Q hs hq => ?_⟩
    obtain⟨q1,q2⟩:=AKl hs hc
    exact wp_cond_false q1 (h3 w F m act Q q2 hq)
  ·cases hk
 |block id c ih=>
  intro n hl R st k r hk
  simp only[A2]at hk
  obtain⟨e,st1,h1,h2',h3⟩:=ih n hl R st _ r hk
  have h2:∀ (R':Type) (k':Exit→St→Option R'),A2 P E h R' c n st k'=k' e st1:=h2'
  have key:∃ e',k e' st1=some r∧(∀ (R':Type) (k':Exit→St→Option R'),A2 P E h R' (.block id c) n st k'=k' e' st1)∧∀ (Q:Exit→Act→World→Prop) a' w',Q e' a' w'→Exit.inBlock id Q e a' w':=by
   cases e with
   |exit id'=>
    simp only at h1
    by_cases hid:id'=id
    ·subst hid
     simp only[AUX]at h1
     exact⟨.normal,h1,fun R' k'=>by simp only[A2];rw[h2];simp,fun Q a' w' hq=>by simp[Exit.inBlock,hq]⟩
    ·simp only[hid,AUg]at h1
     exact⟨.exit id',h1,fun R' k'=>by simp only[A2];rw[h2];simp[hid],fun Q a' w' hq=>by simp[Exit.inBlock,hid,hq]⟩
   |normal=>exact⟨_,h1,fun R' k'=>by simp only[A2];rw[h2],fun Q a' w' hq=>hq⟩
   |goto l=>exact⟨_,h1,fun R' k'=>by simp only[A2];rw[h2],fun Q a' w' hq=>hq⟩
   |ret=>exact⟨_,h1,fun R' k'=>by simp only[A2];rw[h2],fun Q a' w' hq=>hq⟩
   |panic l=>exact⟨_,h1,fun R' k'=>by simp only[A2];rw[h2],fun Q a' w' hq=>hq⟩
   |outgrown=>exact⟨_,h1,fun R' k'=>by simp only[A2];rw[h2],fun Q a' w' hq=>hq⟩
  obtain⟨e',k1,k2,k3⟩:=key
  exact⟨e',st1,k1,k2,fun w F m act Q hs hq=>wp_block (h3 w F m act _ hs fun a' w' F' m' s1 x1=>k3 Q a' w' (hq a' w' F' m' s1 x1))⟩
 |loop c ih=>
  intro n hl R st k r hk
  exact hl R st k r hk
 |exit id=>
  intro n _ R st k r hk
  simp only[A2]at hk
  exact⟨_,_,hk,fun _ _=>rfl,fun w F m a Q hs hq=>wp_exit (hq a w F m hs (Oq.refl ..))⟩
 |ret=>
  intro n _ R st k r hk
  simp only[A2]at hk
  exact⟨_,_,hk,fun _ _=>rfl,fun w F m a Q hs hq=>wp_ret (hq a w F m hs (Oq.refl ..))⟩
 |_=>intro n _ R st k r hk;simp[A2]at hk
theorem AM9{R:Type}{r:R}{nt:Nat}{k:Exit→St→Option R}:∀ (os:A4) (x:Wn os),Xj nt k os x=some r→∃ e st',k e st'=some r∧∀ (R':Type) (k':Exit→St→Option R'),Xj nt k' os x=k' e st':=by
 intro os
 induction os with
 |nil=>intro x h;simp[Xj]at h
 |cons o os ih=>
  intro x h
  cases x with
  |inl d=>exact⟨_,_,h,fun _ _=>rfl⟩
  |inr x=>
   obtain⟨e,st',h1,h2⟩:=ih x h
   exact⟨e,st',h1,fun R' k'=>h2 R' k'⟩
theorem ACd{e e':Exit}(h:Rp e e'=true):e=e':=by
 cases e<;>cases e'<;>simp_all [Rp]
theorem APb{np nt:Nat}{e:Exit}{st:St}:∀ (os:A4) (x:Wn os),XO np nt e st os=some x→∃ its d,decode np nt st its=some d∧∀ (R':Type) (k':Exit→St→Option R'),Xj nt k' os x=k' e (encode nt its d):=by
 intro os
 induction os with
 |nil=>intro x h;simp[XO]at h
 |cons o os ih=>
  intro x h
  simp only[XO]at h
  split at h
  ·rename_i hs
   split at h
   ·rename_i d hd
    simp only[AUM]at h;subst h
    exact⟨o.2,d,hd,fun R' k'=>by rw[ACd hs];rfl⟩
   ·cases h
  ·split at h
   ·rename_i y hy
    simp only[AUM]at h;subst h
    obtain⟨its,d,h1,h2⟩:=ih y hy
    exact⟨its,d,h1,fun R' k'=>h2 R' k'⟩
   ·cases h
theorem AMR{h':Hints}(hE:∀ g,AP P g (E.spec g))(hL:G1 E){np nt n:Nat}{body:Code}{its:AE}{os:A4}{stp:CJ (leaves its)→Option (CJ (leaves its)⊕Wn os)}
  (hstep:∀ v,stp v=roundOf P E h' n np nt body its os v) (hl:DG P np h' body n):Ac P np (.loop body) (Ad np nt its os stp):=by
 intro R st k r hk
 unfold Ad at hk
 split at hk
 ·cases hk
 ·rename_i v hv
  split at hk
  ·cases hk
  ·rename_i x hx
   obtain⟨e,st',h1,h2⟩:=AM9 os x hk
   refine⟨e,st',h1,fun R' k'=>by simp only[Ad,hv,hx];exact h2 R' k',?_⟩
   have key:∀ (fuel:Nat) (v:CJ (leaves its)),AT stp fuel v=some x→∀ (w:World) (F:Nat→Prop) (m:Mp) (a:Act) (Q:Exit→Act→World→Prop),SI w F m (encode nt its v) a →
     (∀ a' w' F' m',SI w' F' m' st' a'→Oq np w F m (encode nt its v).heap (encode nt its v).frz w' F' m' st'.heap st'.frz→Q e a' w')→Code.rounds P body Q fuel a w:=by
    intro fuel
    induction fuel with
    |zero=>intro v h;simp[AT]at h
    |succ fuel ih=>
     intro v h w F m a Q hs hq
     simp only[AT]at h
     rw[hstep v]at h
     cases hr:roundOf P E h' n np nt body its os v with
     |none=>rw[hr]at h;cases h
     |some y=>
      rw[hr]at h
      unfold roundOf at hr
      obtain⟨e1,st1,g1,_,g3⟩:=Kc hE hL body n hl _ _ _ _ hr
      show body.wp P (Exit.then (Code.rounds P body Q fuel) Q) a w
      refine g3 w F m a _ hs fun a' w' F' m' s1 x1 => ?_
      by_cases he:e1 = .normal
      ·subst he
       simp only[ACi]at g1
       split at g1
       ·rename_i d hd
        simp only[AUM]at g1;subst g1
        obtain⟨F2,m2,s2,x2⟩:=OV s1 hd
        show Code.rounds P body Q fuel a' w'
        exact ih d h w' F2 m2 a' Q s2 fun a3 w3 F3 m3 s3 x3=>hq a3 w3 F3 m3 s3 (x1.trans (x2.trans x3))
       ·cases g1
      ·have g1':(match XO np nt e1 st1 os with
        |some x=>some (Sum.inr x)
        |none=>none)=some y:=by
        cases e1<;>first|exact absurd rfl he|exact g1
       split at g1'
       ·rename_i z hz
        simp only[AUM]at g1';subst g1'
        simp only[AUM]at h;subst h
        obtain⟨its',d,o1,o2⟩:=APb os _ hz
        obtain⟨F2,m2,s2,x2⟩:=OV s1 o1
        have e3:=(h2 (Exit×St) fun e st=>some (e,st)).symm.trans (o2 (Exit×St) fun e st=>some (e,st))
        simp only[AUM,AUp]at e3
        obtain⟨rfl,rfl⟩:=e3
        have:=hq a' w' F2 m2 s2 (x1.trans x2)
        cases e<;>first|exact absurd rfl he|exact this
       ·cases g1'
   intro w F m a Q hs hq
   obtain⟨F2,m2,s2,x2⟩:=OV hs hv
   exact wp_loop_rounds many (key many v (by rw[← Ak];exact hx) w F2 m2 a Q s2 fun a3 w3 F3 m3 s3 x3=>hq a3 w3 F3 m3 s3 (x2.trans x3))
end
end Go.Pev
end
section
namespace Go.Pev
open Go.RowKit
section
variable {w:World} {F F0:Nat→Prop} {m m2:Mp} {H H2:List Ob} {ids:List Nat}
theorem Dat.flat:∀ (t:Ty),t.flat=true→∀ {d:t.den} {cs:List Value} {w0:World},Dat w F t d cs→Dat w0 F0 t d cs:=by
 intro t
 induction t with
 |unit=>exact fun _ _ _ _ h=>h
 |bool=>exact fun _ _ _ _ h=>h
 |int k=>exact fun _ _ _ _ h=>h
 |slice e _=>intro h;simp[Ty.flat]at h
 |prod a b iha ihb=>
  intro h d cs w0 hd
  simp only[Ty.flat,AUR]at h
  obtain⟨c1,c2,h1,h2,h3⟩:=hd
  exact⟨c1,c2,h1,iha h.1 h2,ihb h.2 h3⟩
 |arr n e ih=>
  intro h d cs w0 hd
  obtain⟨h1,h2⟩:=hd
  exact⟨h1,BJ (fun x _ cs hx=>ih (by simpa [Ty.flat]using h) hx) h2⟩
theorem BW.flat{t:Ty}(ht:t.flat=true){d:t.den}{v:Value}{w0:World}(h:BW w F t d v):BW w0 F0 t d v:=by
 unfold BW at *
 split
 ·rename_i hg
  simp only[hg,AUv]at h
  obtain⟨vs,e,hd⟩:=h
  exact⟨vs,e,hd.flat t ht⟩
 ·rename_i hg
  simp only[hg]at h
  exact Dat.flat t ht h
theorem ANK{k v:Ty}(hk:k.flat=true)(hv:v.flat=true){w0:World}:∀ {es:List (k.den×v.den)} {ms:List MapEntry},Gg w F k v es ms→Gg w0 F0 k v es ms:=by
 intro es
 induction es with
 |nil=>exact fun h=>h
 |cons e es ih=>
  rintro ms ⟨me,ms',e1,⟨h1,h2⟩,h3⟩
  exact⟨me,ms',e1,⟨h1.flat hk,h2.flat hv⟩,ih h3⟩
mutual
theorem Rep.flat:∀ (a:AV) {v:Value},H6 a=true→Rep w F m H a v→Rep w F0 m H a v
 |.junk,_,_,_=>by unfold Rep;trivial
 |.data t d,v,hf,h=>by unfold Rep at *;exact h.flat (by simpa [H6]using hf)
 |.nils _,v,_,h=>by unfold Rep at *;exact h
 |.agg cs,v,hf,h=>by
  unfold Rep at *
  obtain⟨vs,e,h,h1⟩:=h
  exact⟨vs,e,AW.flat cs (by simpa [H6]using hf) h,h1⟩
 |.own id,v,_,h=>by unfold Rep at *;exact h
 |.win id off n,v,_,h=>by unfold Rep at *;exact h
 |.ptr id off,v,_,h=>by unfold Rep at *;exact h
 |.eptr id i sub,v,_,h=>by unfold Rep at *;exact h
 |.dptr cs,v,hf,h=>by simp[H6]at hf
 |.clo f caps,v,hf,h=>by
  unfold Rep at *
  obtain⟨cs,e,h⟩:=h
  exact⟨cs,e,AW.flat caps (by simpa [H6]using hf) h⟩
 |.bnd f caps,v,hf,h=>by
  unfold Rep at *
  obtain⟨cs,e,h⟩:=h
  exact⟨cs,e,AW.flat caps (by simpa [H6]using hf) h⟩
 |.str _,v,_,h=>by unfold Rep at *;exact h
 |.mp id,v,_,h=>by unfold Rep at *;exact h
 |.tup vs,v,hf,h=>by
  unfold Rep at *
  obtain⟨us,e,h⟩:=h
  exact⟨us,e,AW.flat vs (by simpa [H6]using hf) h⟩
theorem AW.flat:∀ (cs:List AV) {vs:List Value},HV cs=true→AW w F m H cs vs→AW w F0 m H cs vs
 |[],vs,_,h=>by unfold AW at *;exact h
 |c::cs,vs,hf,h=>by
  unfold AW at *
  simp only[HV,AUR]at hf
  obtain⟨v,vs',e,h1,h2⟩:=h
  exact⟨v,vs',e,Rep.flat c hf.1 h1,AW.flat cs hf.2 h2⟩
end
def AFl(ids:List Nat)(H H2:List Ob)(m m2:Mp):Prop:=∀ j o,H[j]? = some o→H2[ids.getD j 0]? = some (E0 ids o)∧m2 (ids.getD j 0)=m j
theorem E5(hm:AFl ids H H2 m m2)(Q:Option Ob→Option (Nat×Nat)→Prop)(hnone:∀ l,¬ Q none l)(hbox:∀ cs l,Q (some (.box cs)) l→Q (some (.box (Hk ids cs))) l)(hprs:∀ T t t' is l,Q (some (.prs T t is)) l→Q (some (.prs T t' is)) l)(j:Nat)(h:Q H[j]? (m j)):Q H2[ids.getD j 0]? (m2 (ids.getD j 0)):=by
 cases ho:H[j]? with
 |none=>rw[ho]at h;exact absurd h (hnone _)
 |some o=>
  rw[ho]at h
  obtain⟨h1,h2⟩:=hm j o ho
  rw[h1,h2]
  cases o<;>first|exact h|exact hbox _ _ h|exact hprs _ _ _ _ _ h
mutual
theorem Rep.ren(hm:AFl ids H H2 m m2):∀ (a:AV) {v:Value},Rep w F m H a v→Rep w F m2 H2 (E1 ids a) v
 |.junk,_,_=>by simp only[E1];unfold Rep;trivial
 |.data t d,v,h=>by simp only[E1];unfold Rep at *;exact h
 |.nils _,v,h=>by simp only[E1];unfold Rep at *;exact h
 |.agg cs,v,h=>by
  simp only[E1];unfold Rep at *
  obtain⟨vs,e,h,h1⟩:=h
  exact⟨vs,e,AW.ren hm cs h,h1⟩
 |.own id,v,h=>by
  simp only[E1];unfold Rep at *
  exact E5 hm (fun o l=>BU o l v) (fun l h=>h) (fun cs l h=>h) (fun _ _ _ _ l h=>h) id h
 |.win id off n,v,h=>by
  simp only[E1];unfold Rep at *
  exact E5 hm (fun o l=>FP o l off n v) (fun l h=>h) (fun cs l h=>h) (fun _ _ _ _ l h=>h) id h
 |.ptr id off,v,h=>by
  simp only[E1];unfold Rep at *
  exact E5 hm (fun o l=>FQ o l off v) (fun l h=>h) (fun cs l h=>h) (fun _ _ _ _ l h=>h) id h
 |.eptr id i sub,v,h=>by
  simp only[E1];unfold Rep at *
  exact E5 hm (fun o l=>DF o l i sub v) (fun l h=>h) (fun cs l h=>h) (fun _ _ _ _ l h=>h) id h
 |.dptr cs,v,h=>by
  simp only[E1];unfold Rep at *
  obtain⟨ad,us,e,h1,h2,h4,h3⟩:=h
  refine⟨ad,us,e,fun hne=>h1 (by rintro rfl;exact hne rfl),AW.ren hm cs h2,h4,h3⟩
 |.clo f caps,v,h=>by
  simp only[E1];unfold Rep at *
  obtain⟨cs,e,h⟩:=h
  exact⟨cs,e,AW.ren hm caps h⟩
 |.bnd f caps,v,h=>by
  simp only[E1];unfold Rep at *
  obtain⟨cs,e,h⟩:=h
  exact⟨cs,e,AW.ren hm caps h⟩
 |.str _,v,h=>by simp only[E1];unfold Rep at *;exact h
 |.mp id,v,h=>by
  simp only[E1];unfold Rep at *
  exact E5 hm (fun o l=>KP o l v) (fun l h=>h) (fun cs l h=>h) (fun _ _ _ _ l h=>h) id h
 |.tup vs,v,h=>by
  simp only[E1];unfold Rep at *
  obtain⟨us,e,h⟩:=h
  exact⟨us,e,AW.ren hm vs h⟩
theorem AW.ren(hm:AFl ids H H2 m m2):∀ (cs:List AV) {vs:List Value},AW w F m H cs vs→AW w F m2 H2 (Hk ids cs) vs
 |[],vs,h=>by simp only[Hk];unfold AW at *;exact h
 |c::cs,vs,h=>by
  simp only[Hk];unfold AW at *
  obtain⟨v,vs',e,h1,h2⟩:=h
  exact⟨v,vs',e,Rep.ren hm c h1,AW.ren hm cs h2⟩
end
theorem AOu(tgt:Nat)(is:List Int):Hk ids (EH tgt is)=EH (ids.getD tgt 0) is:=by
 induction is with
 |nil=>rfl
 |cons x xs ih=>
  have:Hk ids (EH tgt (x::xs))=E1 ids (.eptr tgt x.toNat 0)::Hk ids (EH tgt xs):=rfl
  rw[this,ih]
  rfl
theorem AND(tgt:Nat)(is:List Int):HV (EH tgt is)=true:=by
 induction is with
 |nil=>rfl
 |cons x xs ih=>
  have:HV (EH tgt (x::xs))=(H6 (.eptr tgt x.toNat 0)&&HV (EH tgt xs)):=rfl
  rw[this,ih]
  rfl
theorem AHd{i j k:Nat}:∀ {ids:List Nat},HC ids=true→ids[i]? = some k→ids[j]? = some k→i=j:=by
 intro ids h
 have:ids.Nodup:=by
  induction ids with
  |nil=>exact List.nodup_nil
  |cons a ids ih=>
   simp only[HC,AUR,AVr,AVh,AVE]at h
   exact AUu.2 ⟨h.1,ih h.2⟩
 intro h1 h2
 exact(List.getElem?_inj (Da h1) this).1 (h1.trans h2.symm)
theorem ACa{i:Nat}{o:Ob}:∀ (ids:List Nat) (os:List Ob) (H:List Ob) (j:Nat),HC ids=true→ids[j]? = some i→os[j]? = some o→i<H.length→(BE (ids.zip os) H)[i]? = some o:=by
 intro ids
 induction ids with
 |nil=>intro os H j _ h;simp at h
 |cons a ids ih=>
  intro os H j hn h1 h2 hl
  cases os with
  |nil=>simp at h2
  |cons x os=>
   simp only[HC,AUR,AVr,AVh,AVE]at hn
   simp only[List.zip_cons_cons,BE]
   cases j with
   |zero=>
    simp only[AVP,AUM]at h1 h2
    subst h1;subst h2
    rw[BO _ _ fun p hp => ?_,AWU hl]
    rintro rfl
    exact hn.1 (List.of_mem_zip hp).1
   |succ j=>
    simp only[AWu]at h1 h2
    exact ih os _ j hn.2 h1 h2 (by simpa using hl)
def HE:List Nat→Nat→Option Nat
 |[],_=>none
 |x::xs,i=>if x=i then some 0 else(HE xs i).map (· + 1)
theorem Pt{i j:Nat}:∀ {ids:List Nat},HE ids i=some j→ids[j]? = some i:=by
 intro ids
 induction ids generalizing j with
 |nil=>intro h;simp[HE]at h
 |cons a ids ih=>
  intro h
  simp only[HE]at h
  split at h
  ·rename_i e;simp only[AUM]at h;subst h;simp[e]
  ·rw[AUd]at h
   obtain⟨k,h1,rfl⟩:=h
   simpa using ih h1
theorem AE2{i:Nat}:∀ {ids:List Nat},HE ids i=none→i∉ids:=by
 intro ids
 induction ids with
 |nil=>intro _;simp
 |cons a ids ih=>
  intro h
  simp only[HE]at h
  split at h
  ·cases h
  ·rename_i hne
   rw[AWx]at h
   simp only[AUT,not_or]
   exact⟨fun e=>hne e.symm,ih h⟩
theorem ANG{i j:Nat}{ids:List Nat}(hn:HC ids=true)(h:ids[j]? = some i):HE ids i=some j:=by
 cases hf:HE ids i with
 |none=>exact absurd (AUe h) (AE2 hf)
 |some k=>rw[AHd hn h (Pt hf)]
def mOf(ids:List Nat)(m3 m:Mp):Mp:=fun i=>match HE ids i with
 |some j=>m3 j
 |none=>m i
theorem Xg{fz:List Bool}:∀ {ids:List Nat} {bs:List Bnd},EC H fz ids bs=true→∀ {j i:Nat},ids[j]? = some i→bs[j]? = some (.whole i)∨((∀ id,bs[j]?≠some (.whole id))∧Ay H fz i=true):=by
 intro ids
 induction ids with
 |nil=>intro bs _ j i h;simp at h
 |cons a ids ih=>
  intro bs h j i hj
  simp only[EC,AUR]at h
  obtain⟨h1,h2⟩:=h
  cases j with
  |zero=>
   simp only[AVP,AUM]at hj;subst hj
   split at h1
   ·rename_i id _
    simp only[AUP]at h1;subst h1
    exact .inl (by simp)
   ·rename_i hne
    refine .inr ⟨fun id he => ?_,h1⟩
    cases bs with
    |nil=>simp at he
    |cons b bs=>simp at he;subst he;exact hne id bs rfl
  |succ j=>
   simp only[AWu]at hj
   have:=ih h2 hj
   cases bs with
   |nil=>simpa using this
   |cons b bs=>simpa using this
theorem AMs:∀ (n:Nat) (bs:List Bnd) (slot:Nat),(Bv n bs slot).length=n:=by
 intro n
 induction n with
 |zero=>intro bs slot;cases bs<;>rfl
 |succ n ih=>
  intro bs slot
  cases bs with
  |nil=>simp[Bv,ih]
  |cons b bs=>cases b<;>simp[Bv,ih]
theorem BX(st:St)(v:AV)(l:Loc):(place st v l).heap.length=st.heap.length:=by
 cases l with
 |tmp t=>rfl
 |cell j c=>simp only[place];split<;>simp
 |cap t i=>rfl
 |obj j=>rfl
theorem AQs:∀ (its:AE) (d:CJ (leaves its)) (st:St),(enc its d st).heap.length=st.heap.length+CR its:=by
 intro its
 induction its with
 |nil=>intro d st;rfl
 |cons p r ih=>
  intro d st
  obtain⟨l,c⟩:=p
  cases c with
  |dat t=>exact(ih _ _).trans (by rw[BX];rfl)
  |own T e=>exact(ih _ _).trans (by rw[BX];simp[Hc,CR];omega)
  |box n=>exact(ih _ _).trans (by rw[BX];simp[Hc,CR];omega)
  |map k v=>exact(ih _ _).trans (by rw[BX];simp[Hc,CR];omega)
  |prs T j=>exact(ih _ _).trans (by rw[BX];simp[Hc,CR];omega)
  |own' j=>exact(ih _ _).trans (by rw[BX];rfl)
  |ptr' j o=>exact(ih _ _).trans (by rw[BX];rfl)
  |map' j=>exact(ih _ _).trans (by rw[BX];rfl)
  |win' j=>exact(ih _ _).trans (by rw[BX];rfl)
  |sub' j=>exact(ih _ _).trans (by rw[BX];rfl)
  |clo f ps=>exact(ih _ _).trans (by rw[BX];rfl)
  |bnd f j=>exact(ih _ _).trans (by rw[BX];rfl)
  |nil e=>exact(ih _ _).trans (by rw[BX];rfl)
end
end Go.Pev
end
section
namespace Go.Pev
open Go.RowKit
theorem S3{H:List Ob}{fz:List Bool}{i:Nat}{o:Ob}(h:H[i]? = some o)(ha:alive o)(hf:fz.getD i false=false):owned H fz i:=by
 unfold owned
 rw[h]
 cases o with
 |free=>exact ha.elim
 |dead=>exact ha.elim
 |box cs=>trivial
 |arr T t xs=>exact hf
 |map k v es=>trivial
 |prs T t is=>trivial
theorem AFg{o:Ob}(h:alive o):o≠.free∧o≠.dead:=by
 constructor<;>rintro rfl<;>exact h
theorem C8{H:List Ob}{fz:List Bool}{ids:List Nat}{i:Nat}(h:owned H (Ag ids fz) i):owned H fz i:=by
 unfold owned at *
 cases ho:H[i]? with
 |none=>rw[ho]at h;exact h.elim
 |some o=>
  rw[ho]at h
  cases o with
  |free=>exact h.elim
  |dead=>exact h.elim
  |box cs=>trivial
  |map k v es=>trivial
  |prs T t is=>trivial
  |arr T t xs=>
   simp only at h ⊢
   rw[Ax]at h
   simp only[Bool.or_eq_false_iff]at h
   exact h.1
theorem Vq{o o1:Ob}{ids:List Nat}(h:sameShape o o1):sameShape o (E0 ids o1):=by
 cases o<;>cases o1<;>simp only[sameShape,E0]at *<;>exact h
section
variable {w w':World} {F F2 F3 FR:Nat→Prop} {m m3:Mp} {H H1:List Ob} {fz fz1 fzR:List Bool} {bs:List Bnd} {ids fr:List Nat}
theorem ANb(hiC:HI w F m H fz)(gA:At w F m H fz w F2 m H (Ag fr fz))
  (pin:∀ j id,bs[j]? = some (.whole id)→owned H (Ag fr fz) id∧∃ o o1,H[id]? = some o∧alive o∧H1[j]? = some o1∧sameShape o o1∧m3 j=m id)
  (blk:∀ j b c,owned H1 fz1 j→m3 j=some (b,c)→(∃ id c',bs[j]? = some (.whole id)∧m id=some (b,c'))∨w.heap.size≤b)
  (os:w'.os=w.os) (tape:w'.tape=w.tape) (output:w'.output=w.output) (size:w.heap.size≤w'.heap.size)
  (keep:∀ b,b<w.heap.size→(∀ (j id:Nat) (c:Nat),bs[j]? = some (.whole id)→m id≠some (b,c))→w'.heap[b]? = w.heap[b]?)
  (sub:∀ b,F2 b→F3 b) (bnd:∀ b,F3 b→F2 b∨(∃ (j id c:Nat),bs[j]? = some (.whole id)∧m id=some (b,c))∨w.heap.size≤b)
  (hi1:HI w' F3 m3 H1 fz1) (al1:∀ (j:Nat) (o:Ob),H1[j]? = some o→alive o) (fr1:∀ j,fz1.getD j false=false)
  (hlen:ids.length=H1.length) (hok:EC H fzR ids bs=true) (hnd:HC ids=true)
  (hR:(FR=F∧fzR=fz∧H1.all K1=true)∨(FR=F3∧fzR=Ag fr fz)) :
  At w F m H fz w' FR (mOf ids m3 m) (BE (ids.zip (H1.map (E0 ids))) H) fzR∧AFl ids H1 (BE (ids.zip (H1.map (E0 ids))) H) m3 (mOf ids m3 m):=by
 have hiR:∃ FB,HI w FB m H fzR∧(∀ b,F b→FB b)∧(∀ b,FB b→FR b)∧(∀ b,FB b→F2 b):=by
  rcases hR with⟨e1,e2,_⟩|⟨e1,e2⟩
  ·exact⟨F,by rw[e2];exact hiC,fun _ h=>h,fun _ h=>by rw[e1];exact h,gA.1.sub⟩
  ·exact⟨F2,by rw[e2];exact gA.2,gA.1.sub,fun b h=>by rw[e1];exact sub b h,fun _ h=>h⟩
 obtain⟨FB,hiB,hFB,hBR,hB2⟩:=hiR
 have ownR:∀ {i},owned H fzR i→owned H fz i:=by
  intro i h
  rcases hR with⟨_,e2,_⟩|⟨_,e2⟩
  ·rw[e2]at h;exact h
  ·rw[e2]at h;exact C8 h
 have pinR:∀ {id},owned H (Ag fr fz) id→owned H fzR id:=by
  intro id h
  rcases hR with⟨_,e2,_⟩|⟨_,e2⟩
  ·rw[e2];exact C8 h
  ·rw[e2];exact h
 have FR3:∀ b,FR b→F3 b:=by
  rcases hR with⟨e1,_,_⟩|⟨e1,_⟩
  ·rw[e1];exact fun b h=>sub b (gA.1.sub b h)
  ·rw[e1];exact fun _ h=>h
 have hids:∀ {j i:Nat},ids[j]? = some i→(∃ o,H[i]? = some o)∧(bs[j]? = some (.whole i)∨((∀ (id:Nat),bs[j]?≠some (.whole id))∧H[i]? = some .free∧fzR.getD i false=false)):=by
  intro j i hj
  rcases Xg hok hj with h|⟨h1,h2⟩
  ·obtain⟨_,o,o1,ho,_⟩:=pin j i h
   exact⟨⟨o,ho⟩,.inl h⟩
  ·obtain⟨h3,h4⟩:=BP h2
   exact⟨⟨_,h3⟩,.inr ⟨h1,h3,h4⟩⟩
 have hunf:∀ {j i:Nat},ids[j]? = some i→∀ {o1:Ob},H1[j]? = some o1→∀ {T:TypeId} {t:Ty} {xs:List t.den},o1 = .arr T t xs→fzR.getD i false=false:=by
  intro j i hj o1 ho1 T t xs he
  rcases(hids hj).2 with h|⟨_,_,h⟩
  ·obtain⟨h1,o,o2,ho,_,ho2,hs,_⟩:=pin j i h
   rw[ho1]at ho2;cases ho2
   subst he
   have h2:=pinR h1
   unfold owned at h2
   rw[ho]at h2
   cases o<;>simp only[sameShape]at hs
   exact h2
  ·exact h
 have hwhole:∀ {j id:Nat},bs[j]? = some (.whole id)→ids[j]? = some id:=by
  intro j id hb
  obtain⟨_,o,o1,_,_,ho1,_⟩:=pin j id hb
  have hl:=Ap ho1
  rw[← hlen]at hl
  have hg:ids[j]? = some ids[j]:=AUU hl
  rcases Xg hok hg with h|⟨h,_⟩
  ·rw[hb]at h;cases h;exact hg
  ·exact absurd hb (h id)
 have getIn:∀ {j i:Nat} {o1:Ob},ids[j]? = some i→H1[j]? = some o1→(BE (ids.zip (H1.map (E0 ids))) H)[i]? = some (E0 ids o1):=by
  intro j i o1 hj ho1
  obtain⟨⟨o,ho⟩,_⟩:=hids hj
  exact ACa ids _ H j hnd hj (by rw[AVQ,ho1];rfl) (Ap ho)
 have getOut:∀ {i:Nat},i∉ids→(BE (ids.zip (H1.map (E0 ids))) H)[i]? = H[i]? := by
  intro i hi
  exact BO _ _ fun p hp=>by rintro rfl;exact hi (List.of_mem_zip hp).1
 have mIn:∀ {j i:Nat},ids[j]? = some i→mOf ids m3 m i=m3 j:=by
  intro j i hj;unfold mOf;rw[ANG hnd hj]
 have mOut:∀ {i:Nat},i∉ids→mOf ids m3 m i=m i:=by
  intro i hi
  unfold mOf
  cases hf:HE ids i with
  |none=>rfl
  |some j=>exact absurd (AUe (Pt hf)) hi
 have inOut:∀ i:Nat,(∃ j:Nat,ids[j]? = some i)∨i∉ids:=by
  intro i
  by_cases h:i∈ids
  ·obtain⟨j,hj⟩:=List.getElem?_of_mem h;exact .inl ⟨j,hj⟩
  ·exact .inr h
 have has1:∀ {j i:Nat},ids[j]? = some i→∃ o1,H1[j]? = some o1:=by
  intro j i hj
  have hl:=Da hj
  rw[hlen]at hl
  exact⟨_,AUU hl⟩
 have own1:∀ {j:Nat} {o1:Ob},H1[j]? = some o1→owned H1 fz1 j:=fun h=>S3 h (al1 _ _ h) (fr1 _)
 have blkNe:∀ {i b c:Nat},i∉ids→(∃ o,H[i]? = some o∧o≠.free∧o≠.dead)→m i=some (b,c)→∀ {j id c':Nat},bs[j]? = some (.whole id)→m id≠some (b,c'):=by
  intro i b c hi ⟨o,ho,h1,h2⟩ hm j id c' hb he
  obtain⟨hp,_⟩:=pin j id hb
  have hne:i≠id:=by rintro rfl;exact hi (AUe (hwhole hb))
  exact gA.2.ne hp he ho h1 h2 hm hne rfl
 have hcomp:Cc H (BE (ids.zip (H1.map (E0 ids))) H) m (mOf ids m3 m):=by
  intro i o ho hf
  rcases inOut i with⟨j,hj⟩|hi
  ·rcases(hids hj).2 with h|⟨_,h,_⟩
   ·obtain⟨_,o',o1,ho',ha,ho1,hs,hm⟩:=pin j i h
    rw[ho]at ho';cases ho'
    exact .inr ⟨(AFg ha).2,_,getIn hj ho1,Vq hs,by rw[mIn hj];exact hm⟩
   ·rw[ho]at h;cases h;exact absurd rfl hf
  ·rcases Cc.refl H m i o ho hf with h|⟨hd,o',h1,h2,_⟩
   ·exact .inl (by rw[getOut hi];exact h)
   ·exact .inr ⟨hd,o',by rw[getOut hi];exact h1,h2,mOut hi⟩
 have hmoved:AFl ids H1 (BE (ids.zip (H1.map (E0 ids))) H) m3 (mOf ids m3 m):=by
  intro j o ho
  have hl:=Ap ho
  rw[← hlen]at hl
  have hg:ids[j]? = some ids[j]:=AUU hl
  have hd:ids.getD j 0=ids[j]:=by rw[AUS,hg];rfl
  rw[hd]
  exact⟨getIn hg ho,mIn hg⟩
 have hkeepF:∀ b,FB b→w'.heap[b]? = w.heap[b]? := by
  intro b hb
  refine keep b (hiB.lt b hb) fun j id c hj he => ?_
  obtain⟨hp,_⟩:=pin j id hj
  exact gA.2.off id b c hp he (hB2 b hb)
 have hcell:∀ a:Addr,F a.block→w'.cell? a=w.cell? a:=fun a ha=>by simp[World.cell?,hkeepF _ (hFB _ ha)]
 have ownOut:∀ {i},i∉ids→owned (BE (ids.zip (H1.map (E0 ids))) H) fzR i→owned H fzR i:=by
  intro i hi h
  unfold owned at *;rw[getOut hi]at h;exact h
 have bOut:∀ {i b c:Nat},i∉ids→owned H fzR i→m i=some (b,c)→∀ {j:Nat} {o1:Ob} {c':Nat},H1[j]? = some o1→m3 j≠some (b,c'):=by
  intro i b c hi ho hm j o1 c' ho1 he
  obtain⟨o,h1,h2,h3⟩:=Cw ho
  rcases blk j b c' (own1 ho1) he with⟨id,c2,hb,hm2⟩|hge
  ·exact blkNe hi ⟨o,h1,h2,h3⟩ hm hb hm2
  ·have:=hiB.I4 ho hm;omega
 refine⟨⟨⟨os,tape,output,size,fun b hb hn=>keep b hb fun j id c hj he => ?_,fun b h=>hBR b (hFB b h),?_,?_,hcomp⟩,⟨?_,?_,?_,?_,?_,?_⟩⟩,hmoved⟩
 ·exact hn id c (C8 (pin j id hj).1) he
 ·-- what is frozen
  intro b hb
  rcases hR with⟨e1,_,_⟩|⟨e1,_⟩
  ·rw[e1]at hb;exact .inl hb
  ·rw[e1]at hb
   rcases bnd b hb with h|⟨j,id,c,h1,h2⟩|h
   ·exact gA.1.bnd b h
   ·exact .inr (.inl ⟨id,c,C8 (pin j id h1).1,h2⟩)
   ·exact .inr (.inr h)
 ·intro i b c ho hm
  rcases inOut i with⟨j,hj⟩|hi
  ·obtain⟨o1,ho1⟩:=has1 hj
   rw[mIn hj]at hm
   rcases blk j b c (own1 ho1) hm with⟨id,c',h1,h2⟩|h
   ·exact .inl ⟨id,c',C8 (pin j id h1).1,h2⟩
   ·exact .inr h
  ·rw[mOut hi]at hm
   exact .inl ⟨i,c,ownR (ownOut hi ho),hm⟩
 ·-- objects
  intro i o ho
  rcases inOut i with⟨j,hj⟩|hi
  ·obtain⟨o1,ho1⟩:=has1 hj
   rw[getIn hj ho1]at ho;cases ho
   rw[mIn hj]
   have hob:=hi1.obj j o1 ho1
   cases o1 with
   |free=>trivial
   |dead=>trivial
   |box cs=>
    obtain⟨b,c,vs,T,a1,a2,a3,a4⟩:=hob
    refine⟨b,c,vs,T,a1,a2,AW.ren hmoved cs ?_,a4⟩
    rcases hR with⟨e1,_,hfl⟩|⟨e1,_⟩
    ·rw[AUj]at hfl
     exact AW.flat cs (by simpa [K1]using hfl _ (AUe ho1)) a3
    ·rw[e1];exact a3
   |arr T t xs=>
    rcases hR with⟨e1,_,hfl⟩|⟨e1,_⟩
    ·rw[AUj]at hfl
     have hft:t.flat=true:=by simpa [K1]using hfl _ (AUe ho1)
     obtain⟨h0,h1⟩:=hob
     refine⟨h0,?_⟩
     cases hm3:m3 j with
     |none=>rw[hm3]at h1;exact h1
     |some p=>
      obtain⟨b,cap⟩:=p
      rw[hm3]at h1
      obtain⟨vs,row,a1,a2,a3,a4,a5,a6⟩:=h1
      exact⟨vs,row,a1,a2,a3,a4,BJ (fun x _ cs hx=>hx.flat t hft) a5,a6⟩
    ·rw[e1];exact hob
   |map k v es=>
    obtain⟨b,c,ms,clock,a1,a2,a3,a4⟩:=hob
    refine⟨b,c,ms,clock,a1,a2,?_,a4⟩
    rcases hR with⟨e1,_,hfl⟩|⟨e1,_⟩
    ·rw[AUj]at hfl
     have hft:k.flat=true∧v.flat=true:=by simpa [K1]using hfl _ (AUe ho1)
     exact ANK hft.1 hft.2 a3
    ·rw[e1];exact a3
   |prs T tgt is=>
    simp only[E0]
    cases hm3:m3 j with
    |none=>rw[hm3]at hob;exact hob
    |some p=>
     obtain⟨b,cap⟩:=p
     rw[hm3]at hob
     obtain⟨vs,us,a1,a2,a3,a4,a5,a6,a7⟩:=hob
     refine⟨vs,us,a1,a2,a3,a4,?_,a6,a7⟩
     rw[← AOu]
     refine AW.ren hmoved _ ?_
     rcases hR with⟨e1,_,hfl⟩|⟨e1,_⟩
     ·exact AW.flat _ (AND tgt is) a5
     ·rw[e1];exact a5
  ·rw[getOut hi]at ho
   rw[mOut hi]
   refine ObI.mono hcell (fun b h=>hBR b (hFB b h)) hcomp (fun h1 h2 b c hm hlt=>keep b hlt fun j id c' hj=>blkNe hi ⟨o,ho,h1,h2⟩ hm hj) (hiC.obj i o ho)
 ·-- apart
  intro i j b c b' c' hoi hoj hij hmi hmj
  rcases inOut i with⟨k,hk⟩|hi
  ·obtain⟨o1,ho1⟩:=has1 hk
   rw[mIn hk]at hmi
   rcases inOut j with⟨l,hl⟩|hj
   ·obtain⟨o2,ho2⟩:=has1 hl
    rw[mIn hl]at hmj
    have hkl:k≠l:=by rintro rfl;rw[hk]at hl;cases hl;exact hij rfl
    exact hi1.sep k l b c b' c' (own1 ho1) (own1 ho2) hkl hmi hmj
   ·rw[mOut hj]at hmj
    rintro rfl
    exact bOut hj (ownOut hj hoj) hmj ho1 hmi
  ·rw[mOut hi]at hmi
   rcases inOut j with⟨l,hl⟩|hj
   ·obtain⟨o2,ho2⟩:=has1 hl
    rw[mIn hl]at hmj
    rintro rfl
    exact bOut hi (ownOut hi hoi) hmi ho2 hmj
   ·rw[mOut hj]at hmj
    exact hiB.sep i j b c b' c' (ownOut hi hoi) (ownOut hj hoj) hij hmi hmj
 ·-- none of them frozen
  intro i b c hoi hmi hb
  rcases inOut i with⟨k,hk⟩|hi
  ·obtain⟨o1,ho1⟩:=has1 hk
   rw[mIn hk]at hmi
   exact hi1.off k b c (own1 ho1) hmi (FR3 b hb)
  ·rw[mOut hi]at hmi
   have ho:=ownOut hi hoi
   rcases hR with⟨e1,e2,_⟩|⟨e1,e2⟩
   ·rw[e1]at hb;exact hiC.off i b c (ownR ho) hmi hb
   ·rw[e1]at hb
    rcases bnd b hb with h|⟨j,id,c',h1,h2⟩|h
    ·rw[e2]at ho;exact gA.2.off i b c ho hmi h
    ·obtain⟨o,q1,q2,q3⟩:=Cw ho
     exact blkNe hi ⟨o,q1,q2,q3⟩ hmi h1 h2
    ·have:=hiB.I4 ho hmi;omega
 ·intro i T t xs b c hio hf hmi
  rcases inOut i with⟨k,hk⟩|hi
  ·obtain⟨o1,ho1⟩:=has1 hk
   rw[getIn hk ho1]at hio
   have:o1 = .arr T t xs:=by
    cases o1<;>simp only[E0,AUM]at hio<;>first|exact hio|cases hio
   rw[hunf hk ho1 this]at hf;cases hf
  ·rw[getOut hi]at hio
   rw[mOut hi]at hmi
   exact hBR b (hiB.froz i T t xs b c hio hf hmi)
 ·intro b hb
  exact hi1.lt b (FR3 b hb)
 ·rw[ACb]
  exact hiB.len
end
end Go.Pev
end
section
namespace Go.Pev
open Go.RowKit
section
variable {P:Program} {w:World} {F:Nat→Prop} {m:Mp} {st:St} {a:Act}
def ZE(tmps:Array Value):ResultVar→Sem Value
 |.tmp t=>pure (tmps.getD t undef)
 |.cell x t=>do loadVar t (← asAddr (tmps.getD x undef))
theorem ACn(hs:SI w F m st a){rv:ResultVar}{v:AV}(h:Lf P st rv=some v):
  ∃ u,(ZE a.tmps rv).run P w = .ok u w∧Rep w F m st.heap v u:=by
 cases rv with
 |tmp t=>
  simp only[Lf,AUM]at h;subst h
  exact⟨_,rfl,hs.tmps t⟩
 |cell x T=>
  simp only[Lf]at h
  split at h
  ·rename_i id off n ag h1 h2 h3
   split at h
   ·rename_i cs ho
    have hr:=hs.tmps x
    have e1:st.tmps.getD x .junk = .ptr id off:=h1
    rw[e1]at hr
    unfold Rep FQ at hr
    rw[ho]at hr
    obtain⟨b,c,e2,e3⟩:=hr
    obtain⟨b',c',vs,T',e4,e5,e6,e7⟩:=hs.heap.obj id _ ho
    rw[e2]at e4;cases e4
    obtain⟨u,k1,k2⟩:=Cr (P:=P) h2 h3 h (Dp e6 off) (ad:=⟨b,off,none⟩) (fun u hu=>e7 u (AVg hu)) (fun j u hu=>by
     rw[AVR]at hu
     rw[Ch]
     simp only[World.cell?,e5]
     simpa using hu)
    refine⟨u,?_,k2⟩
    simp[ZE,e3,asAddr,k1]
   ·cases h
  ·cases h
theorem ZD(hs:SI w F m st a):∀ {rvs:List ResultVar} {vs:List AV},Ce P st rvs=some vs →
  ∃ us,(rvs.mapM (ZE a.tmps)).run P w = .ok us w∧AW w F m st.heap vs us:=by
 intro rvs
 induction rvs with
 |nil=>
  intro vs h
  simp only[Ce,AUM]at h;subst h
  exact⟨[],by simp[List.mapM_nil],JO⟩
 |cons rv rvs ih=>
  intro vs h
  simp only[Ce]at h
  split at h
  ·cases h
  ·rename_i v hv
   split at h
   ·cases h
   ·rename_i vs' hvs
    simp only[AUM]at h;subst h
    obtain⟨u,h1,h2⟩:=ACn hs hv
    obtain⟨us,h3,h4⟩:=ih hvs
    refine⟨u::us,?_,by unfold AW;exact⟨u,us,rfl,h2,h4⟩⟩
    rw[List.mapM_cons]
    simp only[Sem.run_bind]
    rw[h1]
    simp only[Result.andThen_ok]
    rw[h3]
    simp
def AIM(us:List Value):Value:=if h:us.toArray.size=1 then us.toArray[0]else .tuple us.toArray
theorem R6(hs:SI w F m st a){fn:Func}{vs:List AV}(h:Ce P st fn.results.toList=some vs):
  ∃ us,(results fn a.tmps).run P w = .ok (AIM us) w∧AW w F m st.heap vs us:=by
 obtain⟨us,h1,h2⟩:=ZD hs h
 refine⟨us,?_,h2⟩
 have e:results fn a.tmps=(do
   let vs ← fn.results.mapM (ZE a.tmps)
   pure (if h:vs.size=1 then vs[0]else .tuple vs)):=by
  unfold results
  congr 2
 rw[e,AWn]
 simp only[Sem.run_bind,map_eq_pure_bind]
 rw[h1]
 rfl
theorem W4{H:List Ob}{vs:List AV}{us:List Value}(h:AW w F m H vs us):Rep w F m H (single vs) (AIM us):=by
 have hl:=Am h
 unfold AIM
 match vs,us,hl with
 |[],[],_=>
  simp only[single]
  unfold Rep
  exact⟨_,rfl,h⟩
 |[v],[u],_=>
  simp only[single]
  unfold AW at h
  obtain⟨_,_,e,h1,_⟩:=h
  cases e
  exact h1
 |v::v'::vs,u::u'::us,_=>
  simp only[single]
  unfold Rep
  exact⟨_,rfl,h⟩
def Gw:List RS→List Value→List Value
 |.one::r,u::us=>u::Gw r us
 |.agg _::r,u::us=>u.cells.toList++Gw r us
 |_,_=>[]
theorem AGk{H:List Ob}:∀ {rs:List RS} {vs:List AV} {us:List Value} {tm:List AV},Ew rs vs=some tm→AW w F m H vs us →
  AW w F m H tm (Gw rs us)∧(Gw rs us).length=cellsOf rs∧∀ (w2:World) (F2:Nat→Prop) (m2:Mp) (H2:List Ob) (ws:List AV),AW w2 F2 m2 H2 ws (Gw rs us)→AW w2 F2 m2 H2 (Es rs ws) us:=by
 intro rs
 induction rs with
 |nil=>
  intro vs us tm h hr
  cases vs with
  |nil=>
   simp only[Ew,AUM]at h;subst h
   unfold AW at hr;subst hr
   exact⟨JO,rfl,fun _ _ _ _ _ _=>JO⟩
  |cons v vs=>simp[Ew]at h
 |cons r rs ih=>
  intro vs us tm h hr
  cases vs with
  |nil=>cases r<;>simp[Ew]at h
  |cons v vs=>
   unfold AW at hr
   obtain⟨u,us',rfl,hv,hr⟩:=hr
   cases r with
   |one=>
    simp only[Ew]at h
    split at h
    ·rename_i l hl
     simp only[AUM]at h;subst h
     obtain⟨h1,h2,h3⟩:=ih hl hr
     refine⟨by simp only[Gw];unfold AW;exact⟨u,_,rfl,hv,h1⟩,by simp[Gw,cellsOf,RS.cells,h2];omega,fun w2 F2 m2 H2 ws hw => ?_⟩
     simp only[Gw]at hw
     cases ws with
     |nil=>unfold AW at hw;cases hw
     |cons x ws=>
      unfold AW at hw
      obtain⟨y,ys,e,q1,q2⟩:=hw
      cases e
      simp only[Es,List.headD_cons,AV1]
      unfold AW
      exact⟨u,us',rfl,q1,h3 w2 F2 m2 H2 ws q2⟩
    ·cases h
   |agg n=>
    simp only[Ew]at h
    split at h
    ·rename_i cs hag hcs
     split at h
     ·rename_i hn
      simp only[AUP]at hn
      split at h
      ·rename_i l hl
       simp only[AUM]at h;subst h
       obtain⟨h1,h2,h3⟩:=ih hl hr
       have hc:=cells?_ok hcs hv
       have ho:=cells?_one hcs hv
       have hcl:=Am hc
       have hu:u = .agg u.cells:=by
        cases v<;>simp only[P6]at hag<;>try (cases hag;done)
        ·rename_i t d
         unfold Rep BW at hv
         rw[AUf hag]at hv
         obtain⟨x,rfl,_⟩:=hv
         rfl
        ·unfold Rep at hv
         obtain⟨x,rfl,_⟩:=hv
         rfl
       refine⟨by simp only[Gw];exact E9 hc h1,by simp[Gw,cellsOf,RS.cells,h2]at hcl ⊢;omega,fun w2 F2 m2 H2 ws hw => ?_⟩
       simp only[Gw]at hw
       have ht:=J4 hw n
       have hd:=Dp hw n
       have hn':u.cells.toList.length=n:=by rw[hcl,hn]
       rw[List.take_left' hn']at ht
       rw[List.drop_left' hn']at hd
       simp only[Es]
       unfold AW
       refine⟨u,us',rfl,?_,h3 w2 F2 m2 H2 _ hd⟩
       unfold Rep
       exact⟨u.cells,hu,ht,ho⟩
      ·cases h
     ·cases h
    ·cases h
end
end Go.Pev
end
section
namespace Go.Pev
open Go.RowKit
theorem P1 {P : Program} {g : FuncId} {fn : Func} (hf : P.funcs[g]? = some fn) (hb : fn.body.isSome = true) (hn : (fn.name == "runtime.NumGoroutine") = false) : NF P g := by
 intro args w
 obtain⟨c,hc⟩:=AV7.1 hb
 have hn' : ¬ fn.name = "runtime.NumGoroutine" := by simpa using hn
 simp[callFunc,hf,hn',hc]
theorem ABa{P:Program}{np:Nat}{h:Hints}:∀ (c:Code) (n:Nat),loops c=0→DG P np h c n:=by
 intro c
 induction c with
 |seq a b iha ihb=>intro n hl;simp only[loops]at hl;exact⟨iha n (by omega),ihb _ (by omega)⟩
 |cond c a b iha ihb=>intro n hl;simp only[loops]at hl;exact⟨iha n (by omega),ihb _ (by omega)⟩
 |block id c ih=>intro n hl;simp only[loops]at hl;exact ih n hl
 |loop c ih=>intro n hl;simp only[loops]at hl;omega
 |_=>intro n _;trivial
section
variable {P:Program} {E:Env} {h:Hints} {g:FuncId} {fn:Func} {c:Code}
theorem AJi{w:World}{F:Nat→Prop}{m:Mp}{H:List Ob}{args:List AV}{vals:List Value}(hr:AW w F m H args vals)(n:Nat)(t:Nat):
  Rep w F m H ((args++List.replicate n AV.junk).getD t .junk) ((vals.toArray++Array.replicate n undef).getD t undef):=by
 have hl:=Am hr
 have e:(vals.toArray++Array.replicate n undef).getD t undef=(vals++List.replicate n undef).getD t undef:=by
  rw[AUz,AUS,← AWB]
  simp
 rw[e,AUS,AUS]
 rcases AVF t args.length with ht|ht
 ·rw[AUw ht,AUw (by omega)]
  obtain⟨v,hv,hrv⟩:=Bx hr (i:=t) (c:=args[t]) (AUU ht)
  rw[hv,AUU ht]
  exact hrv
 ·rw[AU2 ht,List.getElem?_replicate]
  split<;>(unfold Rep;trivial)
theorem AD7(hE:∀ g,AP P g (E.spec g))(hL:G1 E)(hf:P.funcs[g]? = some fn)(hb:fn.body=some c)(hc:NF P g)(hl:loops c=0):
  AP P g (E6 P E h fn):=by
 intro R args H fz slot k r hk
 simp only[E6,hb]at hk
 split at hk
 ·cases hk
 ·rename_i hle
  simp only[AUP]at hle
  obtain⟨e,st',h1,h2,h3⟩:=Kc hE hL (np:=H.length) c 0 (ABa c 0 hl) R _ _ r hk
  have key:∃ vs,Ce P st' fn.results.toList=some vs∧k (single vs) { heap:=some (st'.heap,st'.frz) }=some r∧(e = .normal∨e = .ret):=by
   cases e with
   |normal=>
    simp only at h1
    split at h1
    ·rename_i vs hvs;exact⟨vs,hvs,h1,.inl rfl⟩
    ·cases h1
   |ret=>
    simp only at h1
    split at h1
    ·rename_i vs hvs;exact⟨vs,hvs,h1,.inr rfl⟩
    ·cases h1
   |_=>simp at h1
  obtain⟨vs,hvs,h4,he⟩:=key
  refine⟨_,_,h4,fun R' k' => ?_,hc,fun w F m vals hi hr => ?_⟩
  ·simp only[E6,hb,hle,AUX]
   refine(h2 R' _).trans ?_
   rcases he with rfl|rfl<;>simp only[hvs]
  ·have hlv:=Am hr
   refine calls_of_wp hf hb ?_
   have hsi:SI w F m { tmps:=args++List.replicate (fn.ntmps-args.length) .junk,heap:=H,frz:=fz } { tmps:=vals.toArray++Array.replicate (fn.ntmps-vals.toArray.size) undef,defers:=[] }:=by
    refine⟨fun t => ?_,?_,hi,rfl⟩
    ·have:=AJi hr (fn.ntmps-args.length) t
     simp only[AWY,hlv]
     exact this
    ·simp[hlv]
   refine h3 w F m _ _ hsi fun a' w' F' m' s1 x1 => ?_
   obtain⟨us,r1,r2⟩:=R6 s1 hvs
   have hgo:At w F m H fz w' F' m' st'.heap st'.frz:=⟨⟨x1.os,x1.tape,x1.output,x1.size,x1.keep,x1.sub,x1.bnd,x1.own,fun i o ho hf=>x1.comp i o (Ap ho) ho hf⟩,s1.heap⟩
   have hpost:a'.defers=[]∧∃ v,(results fn a'.tmps).run P w' = .ok v w'∧(fun(en:Ending) (w':World)=>∃ u,en = .returned u∧∃ F' m',At w F m H fz w' F' m' (DQ { heap:=some (st'.heap,st'.frz) } H) (IE { heap:=some (st'.heap,st'.frz) } fz)∧Rep w' F' m' (DQ { heap:=some (st'.heap,st'.frz) } H) (single vs) u) (.returned v) w':=
    ⟨s1.defers,_,r1,_,rfl,F',m',hgo,W4 r2⟩
   rcases he with rfl|rfl<;>exact hpost
theorem X0{w:World}{F:Nat→Prop}{m:Mp}{H:List Ob}{fz:List Bool}{bs:List Bnd}{m':Mp}{E:St}{val:Nat→Value}(h:Inv w F m H fz bs m' E val){j:Nat}{o:Ob}(hj:E.heap[j]? = some o):alive o:=by
 have hlt:=Ap hj
 rw[h.lenH]at hlt
 have hx:bs[j]? = some bs[j]:=AUU hlt
 have hb:=h.ob j _ hx
 cases hc:bs[j]with
 |none=>rw[hc]at hb;simp only[BH]at hb;obtain⟨_,⟨T,e,e2,_⟩|⟨T,e,e2⟩⟩:=hb<;>(rw[hj]at e2;cases e2;trivial)
 |whole id=>
  rw[hc]at hb;simp only[BH]at hb
  rcases hb.2 with⟨T,t,xs,_,a2,_⟩|⟨k,v,es,_,a2⟩|⟨cs,cs',b,c,vs,T,_,a2,_⟩|⟨_,_,_,_,_,a2,_⟩<;>(rw[hj]at a2;cases a2;trivial)
 |cut id=>rw[hc]at hb;simp only[BH]at hb;obtain⟨T,t,xs,n,_,_,a3,_⟩:=hb;rw[hj]at a3;cases a3;trivial
theorem AE1{np:Nat}{outs:AE}{rs:List RS}{st:St}{y:CJ (leaves outs)}(h:finish np P fn outs rs st=some y):
  ∃ vs tm bs fr,Ce P st fn.results.toList=some vs∧Ew rs vs=some tm∧dec tm st.heap outs st.frz []=some (y,bs,fr)∧pins np 0 bs=true:=by
 unfold finish at h
 split at h
 ·rename_i vs hvs
  split at h
  ·rename_i tm htm
   split at h
   ·rename_i y' bs fr hd
    split at h
    ·rename_i hp
     simp only[AUM]at h;subst h
     exact⟨vs,tm,bs,fr,hvs,htm,hd,hp⟩
    ·cases h
   ·cases h
  ·cases h
 ·cases h
theorem AL8(hE:∀ g,AP P g (E.spec g))(hL:G1 E)(hf:P.funcs[g]? = some fn)(hb:fn.body=some c)(hc:NF P g)
  {na:Nat} (hna:na≤fn.ntmps) {its outs:AE} {rs:List RS} {f:CJ (leaves its)→Option (CJ (leaves outs))} (hfun:∀ x,f x=AO P E h fn its outs rs x) (hl:DG P (CR its) h c 0) :
  AP P g (AG na its outs rs f):=by
 intro R args H fz slot k r hk
 simp only[AG]at hk
 split at hk
 ·cases hk
 ·rename_i x bs fr hdec
  split at hk
  ·cases hk
  ·rename_i hchk
   simp only[AUR,AUP]at hchk
   obtain⟨⟨huncut,hbl⟩,hal⟩:=hchk
   split at hk
   ·cases hk
   ·rename_i y hy
    have key:∃ e,k (single (Es rs (Hk (Bv (CR outs) bs slot) (encode (cellsOf rs) outs y).tmps))) e=some r∧e.heap=none∧e.objs=(Bv (CR outs) bs slot).zip ((encode (cellsOf rs) outs y).heap.map (E0 (Bv (CR outs) bs slot))) ∧
      (∀ R' (k':AV→Eff→Option R'),LC R' bs fr rs (encode (cellsOf rs) outs y) (Bv (CR outs) bs slot) H fz k'=k' (single (Es rs (Hk (Bv (CR outs) bs slot) (encode (cellsOf rs) outs y).tmps))) e) ∧
      EC H (Ag e.frz fz) (Bv (CR outs) bs slot) bs=true∧HC (Bv (CR outs) bs slot)=true ∧
      ((e.frz=[]∧HV (encode (cellsOf rs) outs y).tmps=true∧(encode (cellsOf rs) outs y).heap.all K1=true)∨e.frz=fr):=by
     unfold LC at hk
     split at hk
     ·rename_i hflat
      split at hk
      ·rename_i hok
       simp only[AUR]at hok hflat
       refine⟨_,hk,rfl,rfl,fun R' k'=>by simp only[LC,hflat.1,hflat.2,hok.1,hok.2,AWz],hok.1,hok.2,.inl ⟨rfl,hflat.1,hflat.2⟩⟩
      ·cases hk
     ·rename_i hflat
      split at hk
      ·rename_i hok
       simp only[AUR]at hok
       refine⟨_,hk,rfl,rfl,fun R' k'=>by simp only[LC,hflat,hok.1,hok.2,AWz],hok.1,hok.2,.inr rfl⟩
      ·cases hk
    obtain⟨e,h4,he1,he2,h5,hok,hnd,hfl⟩:=key
    refine⟨_,e,h4,fun R' k' => ?_,hc,fun w F m vals hi hr => ?_⟩
    ·simp only[AG,hdec,huncut,hbl,hal,hy,AUX,AWz]
     exact h5 R' k'
    ·have hlv:=Am hr
     rw[hfun x]at hy
     unfold AO at hy
     rw[hb]at hy
     simp only at hy
     obtain⟨ex,st',g1,_,g3⟩:=Kc hE hL c 0 hl _ _ _ _ hy
     have hfin:finish (CR its) P fn outs rs st'=some y∧(ex = .normal∨ex = .ret):=by
      cases ex with
      |normal=>exact⟨g1,.inl rfl⟩
      |ret=>exact⟨g1,.inr rfl⟩
      |_=>simp at g1
     obtain⟨hfin,hex⟩:=hfin
     obtain⟨vs,tm,bs',fr',hvs,htm,hd',hp⟩:=AE1 hfin
     refine calls_of_wp hf hb ?_
     obtain⟨F2,m2,gA,invA,_⟩:=AIy (val:=fun t=>(vals.toArray++Array.replicate (fn.ntmps-vals.toArray.size) undef).getD t undef) its fz [] F (fun _=>none) (blank fn.ntmps) x bs fr hi
      (fun t v ht=>by
       have:=AJi hr (fn.ntmps-vals.toArray.size) t
       rw[AUS,AUw (Da ht),ht]at this
       exact this) (Inv.blank fn.ntmps) hdec
     have hsi:SI w F2 m2 (encode fn.ntmps its x) { tmps:=vals.toArray++Array.replicate (fn.ntmps-vals.toArray.size) undef,defers:=[] }:=by
      refine⟨invA.tmps,?_,invA.hi gA.2,rfl⟩
      rw[JE]
      simp[hlv]
      omega
     refine g3 w F2 m2 _ _ hsi fun a' w' F' m' s1 x1 => ?_
     obtain⟨us,r1,r2⟩:=R6 s1 hvs
     obtain⟨q1,q2,q3⟩:=AGk htm r2
     obtain⟨F3,m3,gC,invC,_⟩:=AIy (val:=fun t=>(Gw rs us).getD t undef) outs st'.frz [] F' (fun _=>none) (blank (cellsOf rs)) y bs' fr' s1.heap
      (fun t v ht=>by
       obtain⟨u,hu,hru⟩:=Bx q1 ht
       rw[AUS,hu]
       exact hru) (Inv.blank (cellsOf rs)) hd'
     have hnb:∀ j id,bs[j]? = some (.whole id)→j<CR its:=fun j id hj=>by rw[← hbl];exact Da hj
     have srcA:∀ {j b c},owned (encode fn.ntmps its x).heap (encode fn.ntmps its x).frz j→m2 j=some (b,c)→∃ id,bs[j]? = some (.whole id)∧owned H (Ag fr fz) id∧m id=some (b,c):=by
      intro j b c ho hm
      obtain⟨y,id,k1,k2,k3,k4⟩:=invA.src ho hm
      rw[AUj]at huncut
      have:=huncut y (AUe k1)
      cases y with
      |none=>simp[Bnd.id?]at k2
      |whole i=>simp only[Bnd.id?,AUM]at k2;subst k2;exact⟨_,k1,k3,k4⟩
      |cut i=>simp[Bnd.AS6]at this
     have hpin:∀ j id,bs[j]? = some (.whole id)→owned H (Ag fr fz) id∧∃ o o1,H[id]? = some o∧alive o∧(encode (cellsOf rs) outs y).heap[j]? = some o1∧sameShape o o1∧m3 j=m id:=by
      intro j id hj
      have hA:=invA.ob j _ hj
      simp only[BH]at hA
      obtain⟨eA,hA⟩:=hA
      have hjn:=hnb j id hj
      have hC:=invC.ob j _ (by have:=ACv _ 0 bs' hp j hjn;rw[AVL]at this;exact this)
      simp only[BH]at hC
      obtain⟨eC,hC⟩:=hC
      have start:∃ o o0,H[id]? = some o∧alive o∧(encode fn.ntmps its x).heap[j]? = some o0∧sameShape o o0∧alive o0∧owned H (Ag fr fz) id:=by
       rcases hA with⟨T,t,xs,a1,a2,a3⟩|⟨k,v,es,a1,a2⟩|⟨cs,cs',b,cc,vs,T,a1,a2,_⟩|⟨_,_,_,_,a1,a2,_⟩
       ·exact⟨_,_,a1,trivial,a2,⟨rfl,rfl⟩,trivial,S3 a1 trivial a3⟩
       ·exact⟨_,_,a1,trivial,a2,trivial,trivial,by unfold owned;rw[a1];trivial⟩
       rotate_left
       ·exact⟨_,_,a1,trivial,a2,rfl,trivial,by unfold owned;rw[a1];trivial⟩
       ·exact⟨_,_,a1,trivial,a2,trivial,trivial,by unfold owned;rw[a1];trivial⟩
      obtain⟨o,o0,s1,s2,s3,s4,s5,s6⟩:=start
      have mid:=x1.comp j o0 hjn s3 (AFg s5).1
      have fin:∃ o2 o1,st'.heap[j]? = some o2∧alive o2∧(encode (cellsOf rs) outs y).heap[j]? = some o1∧sameShape o2 o1:=by
       rcases hC with⟨T,t,xs,a1,a2,a3⟩|⟨k,v,es,a1,a2⟩|⟨cs,cs',b,cc,vs,T,a1,a2,_⟩|⟨_,_,_,_,a1,a2,_⟩
       ·exact⟨_,_,a1,trivial,a2,⟨rfl,rfl⟩⟩
       ·exact⟨_,_,a1,trivial,a2,trivial⟩
       rotate_left
       ·exact⟨_,_,a1,trivial,a2,rfl⟩
       ·exact⟨_,_,a1,trivial,a2,trivial⟩
      obtain⟨o2,o1,t1,t2,t3,t4⟩:=fin
      rcases mid with md|⟨_,o2',md1,md2,md3⟩
      ·rw[t1]at md;cases md;exact t2.elim
      ·rw[t1]at md1;cases md1
       exact⟨s6,o,o1,s1,s2,t3,(s4.trans md2).trans t4,by rw[eC,md3,eA]⟩
     have hiC1:=invC.hi gC.2
     have hblk:∀ j b cc,owned (encode (cellsOf rs) outs y).heap (encode (cellsOf rs) outs y).frz j→m3 j=some (b,cc)→(∃ id c',bs[j]? = some (.whole id)∧m id=some (b,c'))∨w.heap.size≤b:=by
      intro j b cc ho hm
      obtain⟨_,i',k1,k2,k3,k4⟩:=invC.src ho hm
      rcases x1.own i' b cc (C8 k3) k4 with⟨i,c0,l1,l2⟩|h
      ·left
       obtain⟨id,n1,n2,n3⟩:=srcA l1 l2
       obtain⟨_,o,o1,p1,p2,p3,p4,p5⟩:=hpin i id n1
       have hoi:owned (encode (cellsOf rs) outs y).heap (encode (cellsOf rs) outs y).frz i:=S3 p3 (X0 invC p3) (invC.frz i)
       by_cases hij:j=i
       ·subst hij;exact⟨id,c0,n1,n3⟩
       ·exact absurd rfl (hiC1.sep j i b cc b c0 ho hoi hij hm (by rw[p5];exact n3))
      ·exact .inr h
     have hkeep:∀ b,b<w.heap.size→(∀ (j id:Nat) (c:Nat),bs[j]? = some (.whole id)→m id≠some (b,c))→w'.heap[b]? = w.heap[b]? := by
      intro b hb hn
      refine x1.keep b hb fun i cc ho hm => ?_
      obtain⟨id,n1,_,n3⟩:=srcA ho hm
      exact hn i id cc n1 n3
     have hbnd:∀ b,F3 b→F2 b∨(∃ (j id c:Nat),bs[j]? = some (.whole id)∧m id=some (b,c))∨w.heap.size≤b:=by
      have hx:∀ {i b cc},owned (encode fn.ntmps its x).heap (encode fn.ntmps its x).frz i→m2 i=some (b,cc)→∃ (j id c:Nat),bs[j]? = some (.whole id)∧m id=some (b,c):=by
       intro i b cc ho hm
       obtain⟨id,n1,_,n3⟩:=srcA ho hm
       exact⟨i,id,cc,n1,n3⟩
      intro b hb
      rcases gC.1.bnd b hb with h|⟨i,cc,ho,hm⟩|h
      ·rcases x1.bnd b h with h|⟨i,cc,ho,hm⟩|h
       ·exact .inl h
       ·exact .inr (.inl (hx ho hm))
       ·exact .inr (.inr h)
      ·rcases x1.own i b cc ho hm with⟨i',c0,ho,hm⟩|h
       ·exact .inr (.inl (hx ho hm))
       ·exact .inr (.inr h)
      ·exact .inr (.inr (AVT x1.size h))
     have hidl:(Bv (CR outs) bs slot).length=(encode (cellsOf rs) outs y).heap.length:=by
      rw[AMs];unfold encode;rw[AQs];simp[blank]
     obtain⟨FR,hFR,hRR⟩:∃ FR,((FR=F∧Ag e.frz fz=fz∧(encode (cellsOf rs) outs y).heap.all K1=true)∨(FR=F3∧Ag e.frz fz=Ag fr fz))∧AW w' FR m3 (encode (cellsOf rs) outs y).heap (encode (cellsOf rs) outs y).tmps (Gw rs us):=by
      have hrt:AW w' F3 m3 (encode (cellsOf rs) outs y).heap (encode (cellsOf rs) outs y).tmps (Gw rs us):=by
       refine Cl (by rw[JE,q2]) fun i a u ha hu => ?_
       have:=invC.tmps i
       rw[AUS]at this
       have ha':(enc outs y (blank (cellsOf rs))).tmps[i]? = some a:=ha
       rw[ha',AUS,hu]at this
       exact this
      rcases hfl with⟨f1,f2,f3⟩|f1
      ·exact⟨F,.inl ⟨rfl,by rw[f1];rfl,f3⟩,AW.flat _ f2 hrt⟩
      ·exact⟨F3,.inr ⟨rfl,by rw[f1]⟩,hrt⟩
     obtain⟨hgo,hmv⟩:=ANb (ids:=Bv (CR outs) bs slot) hi gA hpin hblk x1.os x1.tape x1.output x1.size hkeep (fun b h=>gC.1.sub b (x1.sub b h)) hbnd hiC1 (fun j o hj=>X0 invC hj) invC.frz hidl hok hnd hFR
     have hH:DQ e H=BE ((Bv (CR outs) bs slot).zip ((encode (cellsOf rs) outs y).heap.map (E0 (Bv (CR outs) bs slot)))) H:=by rw[El he1,he2]
     have hZ:IE e fz=Ag e.frz fz:=Fm he1 fz
     have hpost:a'.defers=[]∧∃ v,(results fn a'.tmps).run P w' = .ok v w'∧(fun(en:Ending) (w':World)=>∃ u,en = .returned u∧∃ F' m',At w F m H fz w' F' m' (DQ e H) (IE e fz)∧Rep w' F' m' (DQ e H) (single (Es rs (Hk (Bv (CR outs) bs slot) (encode (cellsOf rs) outs y).tmps))) u) (.returned v) w':=by
      refine⟨s1.defers,_,r1,_,rfl,FR,mOf (Bv (CR outs) bs slot) m3 m,?_,?_⟩
      ·rw[hH,hZ];exact hgo
      ·rw[hH]
       exact W4 (q3 _ _ _ _ _ (AW.ren hmv _ hRR))
     rcases hex with rfl|rfl<;>exact hpost
end
end Go.Pev
end
section
namespace Go.Pev
open Go.RowKit
def Hs:Code→Nat→Option Code
 |.seq a b,n=>match Hs a n with
  |some c=>some c
  |none=>Hs b (n-loops a)
 |.cond _ a b,n=>match Hs a n with
  |some c=>some c
  |none=>Hs b (n-loops a)
 |.block _ c,n=>Hs c n
 |.loop c,n=>match n with
  |0=>some c
  |n+1=>Hs c n
 |_,_=>none
def AU(f:Func):Code:=match f.body with
 |some c=>c
 |none=>.skip
def AB(f:Func)(n:Nat):Code:=(Hs (AU f) n).getD .skip
def AD:Code→Nat→List (Nat×Code)
 |.seq a b,n=>AD a n++AD b (n+loops a)
 |.cond _ a b,n=>AD a n++AD b (n+loops a)
 |.block _ c,n=>AD c n
 |.loop c,n=>[(n,c)]
 |_,_=>[]
def YD(P:Program)(np:Nat)(h:Hints):List (Nat×Code)→Prop
 |[]=>True
 |p::l=>Ac P np (.loop p.2) (h.loop p.1)∧YD P np h l
theorem YC{P:Program}{np:Nat}{h:Hints}:∀ {a b:List (Nat×Code)},YD P np h (a++b)→YD P np h a∧YD P np h b:=by
 intro a
 induction a with
 |nil=>exact fun h=>⟨trivial,h⟩
 |cons p a ih=>intro b h;exact⟨⟨h.1,(ih h.2).1⟩,(ih h.2).2⟩
theorem AFm{P:Program}{np:Nat}{h:Hints}:∀ (c:Code) (n:Nat),YD P np h (AD c n)→DG P np h c n:=by
 intro c
 induction c with
 |seq a b iha ihb=>intro n hl;have:=YC hl;exact⟨iha n this.1,ihb _ this.2⟩
 |cond c a b iha ihb=>intro n hl;have:=YC hl;exact⟨iha n this.1,ihb _ this.2⟩
 |block id c ih=>intro n hl;exact ih n hl
 |loop c ih=>intro n hl;exact hl.1
 |_=>intro n _;trivial
theorem AA{P:Program}{np:Nat}{h:Hints}{c:Code}{n:Nat}{l:List (Nat×Code)}(e:AD c n=l)(a:YD P np h l):DG P np h c n:=AFm c n (by rw[e];exact a)
def Ae(P:Program)(E:Env):Prop:=(∀ g,AP P g (E.spec g))∧G1 E
def Env.none:Env:={ spec:=fun _ _ _ _ _ _ _=>Option.none,loc:=fun _=>false,loc2:=fun _=>true }
theorem Env.Zq{P:Program}:Ae P Env.none:=⟨fun g R args H fz slot k r h=>by simp[Env.none]at h,fun g h=>by simp[Env.none]at h,fun g _ R args H H' fz fz' slot k S _ _ _=>rfl⟩
def Env.ext(E:Env)(g:FuncId)(loc loc2:Bool)(s:Spec):Env where
 spec x:=match Nat.beq x g with
  |true=>s
  |false=>E.spec x
 loc x:=match Nat.beq x g with
  |true=>loc
  |false=>E.loc x
 loc2 x:=match Nat.beq x g with
  |true=>loc2
  |false=>E.loc2 x
theorem Env.Ai{P:Program}{E:Env}{g:FuncId}{loc loc2:Bool}{s:Spec}(h:Ae P E)(hs:AP P g s)(hl:loc=true→Oo s)(hl2:loc2=true→RA s):Ae P (E.ext g loc loc2 s):=by
 refine⟨?_,?_,?_⟩
 ·intro x
  simp only[Env.ext]
  cases hx:Nat.beq x g with
  |true=>have:=AVW hx;subst this;exact hs
  |false=>exact h.1 x
 ·intro x hx
  simp only[Env.ext]at hx ⊢
  cases hb:Nat.beq x g with
  |true=>rw[hb]at hx;exact hl hx
  |false=>rw[hb]at hx;exact h.2.1 x hx
 ·intro x hx
  simp only[Env.ext]at hx ⊢
  cases hb:Nat.beq x g with
  |true=>rw[hb]at hx;exact hl2 hx
  |false=>rw[hb]at hx;exact h.2.2 x hx
section
variable {P:Program} {E:Env} {h:Hints} {g:FuncId} {fn:Func}
theorem AKo(hb:fn.body.isSome=true):fn.body=some (AU fn):=by
 unfold AU
 cases h:fn.body with
 |none=>rw[h]at hb;cases hb
 |some c=>rfl
theorem AI (hE : Ae P E) (hf : P.funcs[g]? = some fn) (hb : fn.body.isSome = true) (hn : (fn.name == "runtime.NumGoroutine") = false)
  {na:Nat} (hna:(Nat.ble na fn.ntmps)=true) {its outs:AE} {rs:List RS} {f:CJ (leaves its)→Option (CJ (leaves outs))} (hfun:∀ x,f x=AO P E h fn its outs rs x) (hl:DG P (CR its) h (AU fn) 0) :
  AP P g (AG na its outs rs f):=
 AL8 hE.1 hE.2 hf (AKo hb) (P1 hf hb hn) (Nat.le_of_ble_eq_true hna) hfun hl
theorem Gm (hE : Ae P E) (hf : P.funcs[g]? = some fn) (hb : fn.body.isSome = true) (hn : (fn.name == "runtime.NumGoroutine") = false) (hl : loops (AU fn) = 0) : AP P g (E6 P E h fn) :=
 AD7 hE.1 hE.2 hf (AKo hb) (P1 hf hb hn) hl
theorem AX{h':Hints}(hE:Ae P E){np nt n:Nat}{body:Code}{its:AE}{os:A4}{stp:CJ (leaves its)→Option (CJ (leaves its)⊕Wn os)}
  (hstep:∀ v,stp v=roundOf P E h' n np nt body its os v) (hl:DG P np h' body n):Ac P np (.loop body) (Ad np nt its os stp):=AMR hE.1 hE.2 hstep hl
def Xp:AE→Bool
 |[]=>true
 |(.tmp _,.dat _)::r=>Xp r
 |_::_=>false
theorem ANO{H H':List Ob}{tm:List AV}(ha:∀ id∈A9 tm,H[id]? = H'[id]?):∀ (its:AE) (fz fz':List Bool),Xp its=true→dec tm H its fz []=dec tm H' its fz' []:=by
 intro its
 induction its with
 |nil=>intro fz fz' _;rfl
 |cons p r ih=>
  intro fz fz' hd
  obtain⟨l,c⟩:=p
  cases l<;>cases c<;>simp only[Xp]at hd<;>try (cases hd;done)
  rename_i t ty
  simp only[dec,look]
  cases hv:tm[t]? with
  |none=>rfl
  |some v=>
   have hsub:∀ id∈Av v,H[id]? = H'[id]? := fun id hid=>ha id (by
    clear ih hd ha
    induction tm generalizing t with
    |nil=>simp at hv
    |cons a tm iht=>
     cases t with
     |zero=>simp at hv;subst hv;simp[A9,hid]
     |succ t=>simp only[A9,AUQ];exact .inr (iht t (by simpa using hv)))
   simp only
   rw[BY ty v hsub]
   cases Ej H' ty v with
   |none=>rfl
   |some q=>
    obtain⟨x,f⟩:=q
    simp only
    have hfr:f.all (fresh? [])=true:=by simp[fresh?]
    rw[hfr]
    simp only
    rw[ih (Ag f fz) (Ag f fz') hd]
theorem AMr:∀ (n slot:Nat),Bv n [] slot=List.range' slot n:=by
 intro n
 induction n with
 |zero=>intro slot;rfl
 |succ n ih=>intro slot;simp only[Bv,AW3];rw[ih]
theorem Po{H H':List Ob}{fz fz':List Bool}:∀ (ids:List Nat),(∀ i∈ids,Ay H fz i=Ay H' fz' i)→EC H fz ids []=EC H' fz' ids []:=by
 intro ids
 induction ids with
 |nil=>intro _;rfl
 |cons a ids ih=>
  intro h
  simp only[EC,List.tail_nil]
  rw[h a (by simp),ih fun i hi=>h i (by simp[hi])]
theorem AIz{H:List Ob}{tm:List AV}:∀ (its:AE) (fz:List Bool) (bs:List Bnd) (x:CJ (leaves its)) (bs':List Bnd) (fr:List Nat),Xp its=true→dec tm H its fz bs=some (x,bs',fr)→bs'=bs:=by
 intro its
 induction its with
 |nil=>intro fz bs x bs' fr _ h;simp only[dec,AUM]at h;cases h;rfl
 |cons p r ih=>
  intro fz bs x bs' fr hd h
  obtain⟨l,c⟩:=p
  cases l<;>cases c<;>simp only[Xp]at hd<;>try (cases hd;done)
  simp only[dec]at h
  split at h
  ·split at h
   ·split at h
    ·split at h
     ·rename_i xs bs1 g hdd
      simp only[AUM]at h
      cases h
      exact ih _ _ _ _ _ hd hdd
     ·cases h
    ·cases h
   ·cases h
  ·cases h
theorem AM{na:Nat}{its outs:AE}{rs:List RS}{f:CJ (leaves its)→Option (CJ (leaves outs))}(hd:Xp its=true)(hn:Nat.ble (CR outs) 4=true):Oo (AG na its outs rs f):=by
 intro R args H H' fz fz' slot k ha
 unfold AG
 rw[ANO ha.heap its fz fz' hd]
 split
 ·rfl
 ·rename_i x bs fr hdec
  have hbs:=AIz its fz' [] x bs fr hd hdec
  subst hbs
  split
  ·rfl
  ·split
   ·rfl
   ·rename_i y hy
    have hfree:∀ (g:List Nat) (i:Nat),i∈Bv (CR outs) [] slot→Ay H (Ag g fz) i=Ay H' (Ag g fz') i:=by
     intro g i hi
     rw[AMr,List.mem_range'_1]at hi
     have:=Nat.le_of_ble_eq_true hn
     exact FY ha hi.1 (by omega) g
    unfold LC
    rw[show EC H fz (Bv (CR outs) [] slot) []=EC H' fz' (Bv (CR outs) [] slot) []from Po _ (hfree []),Po _ (hfree fr)]
end
end Go.Pev
end
section
namespace Go.Pev
open Go.RowKit
def AJB{α:Type}(xs:List α):Option (List α):=match Pr (AQ xs)with
 |true=>some xs
 |false=>none
def S5:Code→Nat→List Oper
 |.region id ops _,n=>if id=n then ops.toList else []
 |.seq a b,n=>S5 a n++S5 b n
 |.cond _ a b,n=>S5 a n++S5 b n
 |.block _ c,n=>S5 c n
 |.loop c,n=>S5 c n
 |_,_=>[]
def DL(fn:Func)(n i:Nat):Oper:=((S5 (AU fn) n)[i]?).getD default
structure AT0(P:Program)(fn:Func)(T e:TypeId)(t:Ty):Prop where
 body:fn.body=some (.seq (.region 0 #[DL fn 0 0] false) (.seq (.seq (.region 1 #[DL fn 1 0,DL fn 1 1] false) (.cond (.tmp 4) (.seq (.region 2 #[DL fn 2 0] false) .ret) .skip)) (.seq (.region 3 #[DL fn 3 0,DL fn 3 1,DL fn 3 2,DL fn 3 3] false) .ret)))
 nt:fn.ntmps=8
 res:fn.results = #[.tmp 2]
 d:(DL fn 0 0).dst=some 2∧(DL fn 1 0).dst=some 3∧(DL fn 1 1).dst=some 4∧(DL fn 2 0).dst=some 2∧(DL fn 3 0).dst=some 5∧(DL fn 3 1).dst=some 6∧(DL fn 3 2).dst=some 7∧(DL fn 3 3).dst=some 2
 g:(DL fn 0 0).guard=none∧(DL fn 1 0).guard=none∧(DL fn 1 1).guard=none∧(DL fn 2 0).guard=none∧(DL fn 3 0).guard=none∧(DL fn 3 1).guard=none∧(DL fn 3 2).guard=none∧(DL fn 3 3).guard=none
 o00:(DL fn 0 0).op = .assign (.const (.slice none 0 0))
 o10:(DL fn 1 0).op = .move (.tmp 0)
 o11:(DL fn 1 1).op = .binOp .eql T (.tmp 3) (.const (.slice none 0 0)) T
 o20:(DL fn 2 0).op = .assign (.const (.slice none 0 0))
 o30:(DL fn 3 0).op = .buildSlice T 0 #[]
 o31:(DL fn 3 1).op = .move (.tmp 0)
 o32:(DL fn 3 2).op = .call { callee:=.builtin .append,args:=#[.tmp 5,.tmp 6],argTypes:=#[T,T] }
 o33:(DL fn 3 3).op = .assign (.tmp 7)
 sl:sliceAt P T=some (e,t)
 z:(zeroAt P e).isSome=true
 by1:(P.info? e).map (fun i=>decide (i.bytes≤1024))=some true
section
variable {P:Program} {g:FuncId}
variable {fn:Func} {T e:TypeId} {t:Ty}
end
end Go.Pev
end
